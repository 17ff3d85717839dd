import Derived.Test.YtppeepkmnijdpaaGreatDoorMtA
import Derived.Test.YtppeepkmnijdpaaGreatDoorNtZ
namespace Go.Proofs.YtppeepkmnijdpaaGreatDoor
open Go Go.Eng Tryz
open Go.IntKind (wrap)
set_option linter.unusedSimpArgs false
set_option linter.unusedVariables false
set_option maxRecDepth 100000
set_option maxHeartbeats 8000000
theorem zC{xs:List Nat}{i x:Nat}(h:xs[i]? =some x):(Ry xs)[i]? =some (.int .u64 (x:Int)):=by rw[List.getElem?_map,h];rfl
theorem Aoc(xs:List Nat)(i x:Nat):splice (Ry xs) i [.int .u64 (x:Int)]=Ry (xs.set i x):=by
 show(Ry xs).set i _=_
 unfold Ry
 rw[List.map_set]
theorem getD_some{xs:List Nat}{i:Nat}(h:i<xs.length):xs[i]? =some (xs.getD i 0):=by
 rw[List.getD_eq_getElem?_getD,List.getElem?_eq_getElem h];rfl
theorem Wj(near:List Nat)(i:Nat)(f:Nat→Nat):(opB near i f).length=near.length:=List.length_set
theorem jK{near:List Nat}{i:Nat}{f:Nat→Nat}(h: ∀x∈near,x<18446744073709551616)(hi:i<near.length)(hf: ∀x,x<18446744073709551616→f x<18446744073709551616): ∀x∈opB near i f,x<18446744073709551616:=λx hx=>by
 rcases List.mem_or_eq_of_mem_set hx with q|q
 ·exact h x q
 ·rw[q];exact hf _ (h _ (List.mem_of_getElem? (getD_some hi)))
theorem xR(near:List Nat)(i k:Nat)(on:Bool):(aZ near i k on).length=near.length:=by
 unfold aZ;dsimp only;split<;>simp only[Wj]
theorem Ak8{near:List Nat}{i k:Nat}{on:Bool}(h: ∀x∈near,x<18446744073709551616)(hi:i<near.length)(hk:k<near.length)(hl:near.length≤64): ∀x∈aZ near i k on,x<18446744073709551616:=by
 have h1:=jK (f:=jD k) h hi λx=>Aaa
 have h2:=jK (i:=k) (f:=jD i) h1 (by rw[Wj];exact hk) λx=>Aaa
 unfold aZ
 dsimp only
 split
 ·have h3:=jK (i:=i) (f:=setB k) h2 (by rw[Wj,Wj];exact hi) λx hx=>zJ hx (by omega)
  exact jK (i:=k) (f:=setB i) h3 (by rw[Wj,Wj,Wj];exact hk) λx hx=>zJ hx (by omega)
 ·exact h2
abbrev lkC(n:Int)(nb k:Nat):List Value:=[iV n,Uz (some ⟨nb,0,none⟩,k,k)]
theorem Hr.cl{L nb k:Nat}{n:Int}{w:World}(h:Ar w L (lkC n nb k)){K:TR Kt→WP}(hk:K ((n,()),()) w):Ad prog F.Hr [pB L] w false Kt K:=by
 refine Hr.ok ?_
 refine Le rfl ?_
 rw[Ac]
 exact h.c0 (c:=KI) (x:=n) rfl hk
def inN(n i:Int):Bool:=decide (0≤i)&&decide (i<n)
theorem lD{n i:Int}:inN n i=true↔0≤i∧i<n:=by unfold inN;simp
theorem Gt.cl{L nb k:Nat}{n i:Int}{w:World}(h:Ar w L (lkC n nb k)){K:TR Vl→WP}(hk:K ((inN n i,()),()) w):Ad prog F.Gt [pB L,iV i] w false Vl K:=by
 refine Gt.ok ?_
 refine Cf (λc=>Hr.cl h ?_) λc=>?_
 ·have e:inN n i=decide (i<n):=by unfold inN;rw[decide_eq_true (show 0≤i from c),Bool.true_and]
  rw[e] at hk;exact hk
 ·have e:inN n i=false:=by unfold inN;rw[decide_eq_false (show¬0≤i from c),Bool.false_and]
  rw[e] at hk;exact hk
def vG(n i k:Int):Bool:=inN n i&&inN n k&&(i !=k)
theorem Md.cl{L nb q:Nat}{n i k:Int}{w:World}(h:Ar w L (lkC n nb q)){K:TR Vl→WP}(hk:K ((vG n i k,()),()) w):Ad prog F.Md [pB L,iV i,iV k] w false Vl K:=by
 refine Md.ok ?_
 unfold vG at hk
 refine Gt.cl h (bQ (λc=>Gt.cl h (bQ (λd=>?_) λd=>?_)) λc=>?_)
 ·have c:inN n i=true:=c
  have d:inN n k=true:=d
  rw[c,d] at hk;exact hk
 ·have c:inN n i=true:=c
  have d:inN n k=false:=d
  rw[c,d] at hk;exact hk
 ·have c:inN n i=false:=c
  rw[c] at hk;exact hk
theorem Jt.cl{L nb:Nat}{n:Int}{near:List Nat}{i:Nat}{w:World}(h:Ar w L (lkC n nb near.length))(r:Ar w nb (Ry near))(hn:(near.length:Int)=n)(hi:i<near.length){K:TR [(false,[.i .u64])]→WP}(hk:K (((near.getD i 0:Nat),()),()) w):Ad prog F.Jt [pB L,iV (i:Int)] w false [(false,[.i .u64])] K:=by
 refine Jt.ok ?_
 refine Gt.cl h (Le (by show(!inN n (i:Int))=false;rw[lD.2 (by omega)];rfl) ?_)
 rw[Ac]
 refine h.c1 1 (c:=.sl) (x:=(some ⟨nb,0,none⟩,near.length,near.length)) rfl ?_
 rw[Ip (by dsimp only;omega)]
 rw[Int.toNat_natCast,Nat.mul_one]
 exact r.c1 i (c:=.i .u64) (x:=(near.getD i 0:Nat)) (zC (getD_some hi)) hk
theorem qB{nb:Nat}{near:List Nat}{w:World}(r:Ar w nb (Ry near)){z:Int}{i:Nat}(hz:z=(i:Int))(hi:i<near.length){f:Nat→Nat}{v:Int}(hv:v=((f (near.getD i 0):Nat):Int)){k:WP}(hk: ∀w',Ar w' nb (Ry (opB near i f))→Ap (λx=>x=nb) w w'→k w'):
  Au [.int .u64 v] (Addr.add ⟨nb,0,none⟩ (z.toNat*1)) 0 w k:=by
 subst hz
 rw[Int.toNat_natCast,Nat.mul_one]
 refine r.sN i [.int .u64 v] (by rw[List.length_map];show i+1≤_;omega) rfl λw' k' u'=>hk w' ?_ u'
 rw[hv,Aoc] at k'
 exact k'
theorem pO{nb:Nat}{near:List Nat}{w:World}(r:Ar w nb (Ry near)){z:Int}{i:Nat}(hz:z=(i:Int))(hi:i<near.length){k:Int→Prop}(hk:k ((near.getD i 0:Nat):Int)):ld1 (.i .u64) (Addr.add ⟨nb,0,none⟩ (z.toNat*1)) w k:=by
 subst hz
 rw[Int.toNat_natCast,Nat.mul_one]
 exact r.c1 i (c:=.i .u64) (x:=(near.getD i 0:Nat)) (zC (getD_some hi)) hk
theorem Na.cl{L nb:Nat}{n i k:Int}{near:List Nat}{on:Bool}{w:World}(h:Ar w L (lkC n nb near.length))(r:Ar w nb (Ry near))(hne:L≠nb)(hn:(near.length:Int)=n)(hl:near.length≤64)(hb: ∀x∈near,x<18446744073709551616){K:TR Kt→WP}
  (h0:vG n i k=false→K ((1,()),()) w) (h1:vG n i k=true→ ∀w',Ar w' nb (Ry (aZ near i.toNat k.toNat on))→Ap (λz=>z=nb) w w'→K ((0,()),()) w'):Ad prog F.Na [pB L,iV i,iV k,.bool on] w false Kt K:=by
 refine Na.ok ?_
 refine Le rfl (Md.cl h (En (λc=>h0 c) λc=>?_))
 have c:vG n i k=true:=c
 have h1:=h1 c
 unfold vG at c
 rw[Bool.and_eq_true,Bool.and_eq_true,lD,lD] at c
 obtain⟨⟨⟨i0,i1⟩,k0,k1⟩,_⟩:=c
 obtain⟨a,rfl⟩: ∃a:Nat,i=(a:Int):=⟨i.toNat,by omega⟩
 obtain⟨b,rfl⟩: ∃b:Nat,k=(b:Int):=⟨k.toNat,by omega⟩
 rw[Int.toNat_natCast,Int.toNat_natCast] at h1
 have al:a<near.length:=by omega
 have bl:b<near.length:=by omega
 have gD: ∀{near':List Nat} {j:Nat},near'.length=near.length→(∀x∈near',x<18446744073709551616)→j<near.length→near'.getD j 0<18446744073709551616:=λe hb hj=>hb _ (List.mem_of_getElem? (getD_some (by rw[e];exact hj)))
 rw[Aq]
 have g1:=Ah.drew w
 have h:=h.Ai g1
 have r:=r.Ai g1
 generalize w.drew=w3 at*
 rw[Ac]
 refine h.c1 1 (c:=.sl) (x:=(some ⟨nb,0,none⟩,near.length,near.length)) rfl ?_
 rw[Ip (by dsimp only;omega)]
 refine pO r rfl al ?_
 rw[Nj (by omega),Ip (by dsimp only;omega)]
 refine qB r rfl al (f:=jD b) (by rw[sh1 (by omega),Alc (gD rfl hb al) (by omega)]) λw9 r9 u9=>⟨trivial,?_⟩
 have b9:=jK (f:=jD b) hb al λx=>Aaa
 have l9:=Wj near a (jD b)
 have h9:=h.upd u9 hne
 rw[Aq]
 have g9:=Ah.drew w9
 have h9:=h9.Ai g9
 have r9:=r9.Ai g9
 have u9:=u9.Ai g9
 generalize w9.drew=w10 at*
 rw[Ac]
 refine h9.c1 1 (c:=.sl) (x:=(some ⟨nb,0,none⟩,near.length,near.length)) rfl ?_
 rw[Ip (by dsimp only;omega)]
 refine pO r9 rfl (by omega) ?_
 rw[Nj (by omega),Ip (by dsimp only;omega)]
 refine qB r9 rfl (by omega) (f:=jD a) (by rw[sh1 (by omega),Alc (gD l9 b9 bl) (by omega)]) λw16 r16 u16=>⟨trivial,?_⟩
 have b16:=jK (i:=b) (f:=jD a) b9 (by omega) λx=>Aaa
 have l16:=(Wj (opB near a (jD b)) b (jD a)).trans l9
 have Y8:Ap (λz=>z=nb) w w16:=Ap.trans (Ap.trans (Ap.Ed g1) u9 λ_ _ x=>x) u16 λ_ _ x=>x
 cases on with
 |false=>exact Le rfl (h1 w16 r16 Y8)
 |true=>
  refine We rfl ?_
  have h16:=h9.upd u16 hne
  rw[Aq]
  have g16:=Ah.drew w16
  have h16:=h16.Ai g16
  have r16:=r16.Ai g16
  have U17:=Y8.Ai g16
  generalize w16.drew=w17 at*
  rw[Ac]
  refine h16.c1 1 (c:=.sl) (x:=(some ⟨nb,0,none⟩,near.length,near.length)) rfl ?_
  rw[Ip (by dsimp only;omega)]
  refine pO r16 rfl (by omega) ?_
  rw[Nj (by omega),Ip (by dsimp only;omega)]
  refine qB r16 rfl (by omega) (f:=setB b) (by rw[sh1 (by omega),Afv (gD l16 b16 al) (uB (by omega))];rfl) λw23 r23 u23=>⟨trivial,?_⟩
  have b23:=jK (i:=a) (f:=setB b) b16 (by omega) λx hx=>zJ hx (by omega)
  have l23:=(Wj (opB (opB near a (jD b)) b (jD a)) a (setB b)).trans l16
  have h23:=h16.upd u23 hne
  rw[Aq]
  have g23:=Ah.drew w23
  have h23:=h23.Ai g23
  have r23:=r23.Ai g23
  have u23:=u23.Ai g23
  generalize w23.drew=w24 at*
  rw[Ac]
  refine h23.c1 1 (c:=.sl) (x:=(some ⟨nb,0,none⟩,near.length,near.length)) rfl ?_
  rw[Ip (by dsimp only;omega)]
  refine pO r23 rfl (by omega) ?_
  rw[Nj (by omega),Ip (by dsimp only;omega)]
  refine qB r23 rfl (by omega) (f:=setB a) (by rw[sh1 (by omega),Afv (gD l23 b23 bl) (uB (by omega))];rfl) λw30 r30 u30=>⟨trivial,?_⟩
  exact h1 w30 r30 (Ap.trans (Ap.trans U17 u23 λ_ _ x=>x) u30 λ_ _ x=>x)
theorem Tb.Ai{w w':World}(h:Tb w)(u:Ah w w'):Tb w':=λj hj=>bH (h j hj) u
theorem Tb.upd{S:NP}{w w':World}(h:Tb w)(u:Ap S w w')(hS: ¬S 0):Tb w':=λj hj=>kY (h j hj) u hS
theorem Qd.cl{a i:Nat}(ha:a<18446744073709551616)(hi:i<64){w:World}{K:TR Vl→WP}(hk:K ((a.testBit i,()),()) w):Ad prog F.Qd [.int .u64 (a:Int),iV (i:Int)] w false Vl K:=by
 refine Qd.ok ?_
 rw[Nj (by omega),Awx ha hi]
 exact hk
theorem Pz.cl{send Vo near i:Nat}{lost:List Nat}{s:Sl}{w:World}(hT:Tb w)(hs:send<18446744073709551616)(ha:Vo<18446744073709551616)(hn:near<18446744073709551616)(hi:i<64)(hR:Row w s 1 (Ry lost))(hb: ∀x∈lost,x<18446744073709551616){K:TR [(true,KE)]→WP}
  (hk: ∀w',Ah w w'→K (eT (vH send Vo lost i near),()) w'):Ad prog F.Pz [.agg #[.int .u64 (send:Int),.int .u64 (Vo:Int),.slice s.1 s.2.1 s.2.2],iV (i:Int),.int .u64 (near:Int)] w false [(true,KE)] K:=by
 refine Pz.ok (a2:=s) ?_
 refine Ae λp1 w2 e1 k1 u1=>Ae λp3 w4 e3 k3 u3=>?_
 have k1:=k1.Ai u3
 have g4:=u1.trans u3
 have fin: ∀{W w':World} {x y:Int},Ah w W→Ar W p3 [iV 0,iV 0]→vH send Vo lost i near=(x,y)→Au [iV x,iV y] ⟨p3,0,none⟩ 0 W λw'=>Bc [KI,KI] ⟨p3,0,none⟩ 0 w' λz=>K ((z.1,z.2.1,()),()) w':=λ{W w' x y} gW k e=>by
  refine k.E5 [iV x,iV y] rfl rfl λw5 k5 u5=>k5.ld2 ?_
  have h5:w.heap.size≤p3:=by have:=u1.size;omega
  have:=hk w5 (Ap.trans gW u5 λz hz hq=>by omega)
  rw[e] at this
  exact this
 unfold vH at fin
 by_cases c0:near=0
 ·rw[if_pos c0] at fin
  refine We (by rw[c0];rfl) (fin (w':=w4) g4 k3 rfl)
 rw[if_neg c0] at fin
 refine Le (by show((near:Int)==0)=false;exact beq_false_of_ne (by omega)) ?_
 refine Bh.by (λz W=>z=(oZ near,())∧W=w4) ?_ ?_
 ·have ew:wrap .u64 ((near:Int)-1)=((near-1:Nat):Int):=by rw[show(near:Int)-1=((near-1:Nat):Int) by omega,wuN (by omega)]
  rw[ew,Ale hn (by omega)]
  refine Vh (λc=>bits_TrailingZeros64.cl hn (hT.Ai g4) ⟨?_,rfl⟩) λc=>⟨?_,rfl⟩
  ·have c:near&&&(near-1)=0:=by have c:((near&&&(near-1):Nat):Int)=0:=c;omega
   unfold oZ
   rw[if_pos c]
  ·have c: ¬near&&&(near-1)=0:=by intro q;exact c (by show((near&&&(near-1):Nat):Int)=0;omega)
   unfold oZ
   rw[if_neg c];rfl
 rintro z W ⟨rfl,rfl⟩ _
 have f64:0≤oZ near→oZ near<64:=λ_=>by
  unfold oZ
  split
  ·have:=(Agd c0 hn).2;omega
  ·decide
 unfold Apo at fin
 refine k1.c0 (c:=.i .u64) (x:=(send:Int)) rfl (Qd.cl hs hi (bQ (λc=>?_) λc=>?_))
 ·have c:send.testBit i=true:=c
  rw[if_pos c] at fin
  exact fin (w':=W) g4 k3 rfl
 have c: ¬send.testBit i=true:=by have c:send.testBit i=false:=c;rw[c];decide
 rw[if_neg c] at fin
 refine k1.c1 1 (c:=.i .u64) (x:=(Vo:Int)) rfl (Qd.cl ha hi (En (λc=>?_) λc=>?_))
 ·have c:Vo.testBit i=false:=c
  rw[if_pos c] at fin
  exact fin (w':=W) g4 k3 rfl
 have c: ¬Vo.testBit i=false:=by have c:Vo.testBit i=true:=c;rw[c];decide
 rw[if_neg c] at fin
 refine Cf (λc=>?_) λc=>?_
 ·have c:oZ near<0:=c
  rw[if_pos c] at fin
  exact fin (w':=W) g4 k3 rfl
 have c: ¬oZ near<0:=c
 rw[if_neg c] at fin
 have hl:=hR.Ab2
 rw[List.length_map] at hl
 refine k1.c1 2 (c:=.sl) (x:=s) rfl (Cf (λc2=>?_) λc2=>?_)
 ·have c2:(i:Int)<(s.2.1:Int):=c2
  have il:i<lost.length:=by omega
  refine k1.c1 2 (c:=.sl) (x:=s) rfl ((Row.Ai hR g4).ixc (c:=.i .u64) (z:=(i:Int)) (x:=((lost.getD i 0:Nat):Int)) rfl (zC (getD_some il)) rfl ?_)
  obtain⟨f,ef⟩: ∃f:Nat,oZ near=(f:Int):=⟨(oZ near).toNat,by omega⟩
  have f6:=f64 (by omega)
  rw[ef] at fin f6⊢
  rw[Int.toNat_natCast] at fin
  refine Qd.cl (hb _ (List.mem_of_getElem? (getD_some il))) (by omega) (bQ (λc3=>?_) λc3=>?_)
  ·have c3:(lost.getD i 0).testBit f=true:=c3
   rw[if_pos ⟨il,c3⟩] at fin
   exact fin (w':=W) g4 k3 rfl
  ·have c3: ¬(lost.getD i 0).testBit f=true:=by have c3:(lost.getD i 0).testBit f=false:=c3;rw[c3];decide
   rw[if_neg λq=>c3 q.2] at fin
   exact fin (w':=W) g4 k3 rfl
 ·have c2: ¬(i:Int)<(s.2.1:Int):=c2
  rw[if_neg λq=>c2 (by omega)] at fin
  exact fin (w':=W) g4 k3 rfl
end Go.Proofs.YtppeepkmnijdpaaGreatDoor
namespace Go.Proofs.YtppeepkmnijdpaaGreatDoor
open Go Go.Eng Tryz
set_option linter.unusedSimpArgs false
set_option linter.unusedVariables false
set_option maxRecDepth 100000
set_option maxHeartbeats 8000000
structure Q7 where
 L:Nat
 nb:Nat
 so:Sl
 sn:Sl
 se:Sl
 b:Nat→Nat
 B:Nat→NP
abbrev TQ(w:World)(n:Nat)(q:Q7)(t:Nt):Prop:=TX w n q.L q.nb q.so q.sn q.se q.b q.B t
abbrev ZQ(n:Nat)(q:Q7)(t:Nt):NP:=TZ n q.L q.nb q.sn q.se q.B t
def Q7.up(q:Q7)(i:Nat)(B':NP):Q7:={q with B:=λj=>if j=i then B' else q.B j}
theorem TW.q{w:World}{Z:NP}{n:Nat}{t:Nt}(h:TW w Z n t):dZ t∧ ∃q,(∀z,Z z↔ZQ n q t z)∧TQ w n q t:=by
 obtain⟨g,L,nb,so,sn,se,b,B,hZ,X⟩:=h
 exact⟨g,⟨L,nb,so,sn,se,b,B⟩,hZ,X⟩
theorem TW.of{w:World}{n:Nat}{q:Q7}{t:Nt}(g:dZ t)(X:TQ w n q t):TW w (ZQ n q t) n t:=⟨g,q.L,q.nb,q.so,q.sn,q.se,q.b,q.B,λ_=>Iff.rfl,X⟩
theorem TQ.ptr{w:World}{n:Nat}{q:Q7}{t:Nt}(h:TQ w n q t){j:Nat}(hj:j<t.ds.length):((List.range t.ds.length).map λi=>pB (q.b i))[j]? =some (pB (q.b j)):=by
 rw[List.getElem?_map,List.getElem?_range hj];rfl
theorem TQ.sl{w:World}{n:Nat}{q:Q7}{t:Nt}(h:TQ w n q t):q.sn.2.1=t.ds.length:=by
 have:=Row.Ab2 h.ns
 rw[List.length_map,List.length_range] at this
 exact this
theorem TQ.at{w:World}{n:Nat}{q:Q7}{t:Nt}(h:TQ w n q t){z:Int}{j:Nat}(hz:z=(j:Int))(hj:j<t.ds.length){k:Option Addr→Prop}(hk:k (some ⟨q.b j,0,none⟩)):Hf q.sn.1 q.sn.2.1 z λa=>ld1 .p (a.add (z.toNat*1)) w k:=
 Row.ixc h.ns (c:=.p) (x:=some ⟨q.b j,0,none⟩) hz (h.ptr hj) rfl hk
theorem TQ.f{w:World}{n:Nat}{q:Q7}{t:Nt}(h:TQ w n q t):Ar w n (ntC t.s q.so q.sn q.se q.L t.steps t.sent):=h.nk
theorem bY(S:zU)(so sn se:Sl)(L:Nat)(steps:Int)(sent:Nat):(ntC S so sn se L steps sent).length=16:=rfl
theorem Nt.Afi{t:Nt}{i:Int}{d:Nd}(h:t.at i=some d):0≤i∧t.ds[i.toNat]? =some d:=by
 unfold Nt.at at h
 split at h
 ·cases h
 ·exact⟨by omega,h⟩
theorem Qz.q{w:World}{n:Nat}{q:Q7}{t:Nt}(h:TQ w n q t)(g:dZ t){i:Int}{K:TR [(false,[.p])]→WP}(h0:t.at i=none→K ((none,()),()) w)(h1: ∀d,t.at i=some d→K ((some ⟨q.b i.toNat,0,none⟩,()),()) w):Ad prog F.Qz [pB n,iV i] w false [(false,[.p])] K:=by
 refine Qz.ok ?_
 refine Le rfl (Cf (λc=>h0 ?_) λc=>?_)
 ·unfold Nt.at;rw[if_pos (show i<0 from c)]
 have c: ¬i<0:=c
 have hl:=h.sl
 rw[Ac]
 refine h.f.c1 12 (c:=.sl) (x:=q.sn) rfl (Cf (λc2=>h0 ?_) λc2=>?_)
 ·have c2:i≥(q.sn.2.1:Int):=c2
  unfold Nt.at;rw[if_neg c];exact List.getElem?_eq_none (by omega)
 have c2: ¬i≥(q.sn.2.1:Int):=c2
 obtain⟨j,rfl⟩: ∃j:Nat,i=(j:Int):=⟨i.toNat,by omega⟩
 have hj:j<t.ds.length:=by omega
 obtain⟨d,hd⟩:=g.at hj
 rw[Ac]
 refine h.f.c1 12 (c:=.sl) (x:=q.sn) rfl (h.at rfl hj ?_)
 exact h1 d (by unfold Nt.at;rw[if_neg c,Int.toNat_natCast];exact hd)
theorem Pn.q{w:World}{n:Nat}{q:Q7}{t:Nt}(h:TQ w n q t)(g:dZ t){i:Int}{K:TR Kt→WP}(h0:t.at i=none→K ((7,()),()) w)(h1: ∀d,t.at i=some d→K ((0,()),()) w):Ad prog F.Pn [pB n,iV i] w false Kt K:=by
 refine Pn.ok ?_
 exact Le rfl (Qz.q h g (λe=>We rfl (h0 e)) λd e=>Le rfl (h1 d e))
theorem TQ.Av5{w:World}{n:Nat}{q:Q7}{t:Nt}(h:TQ w n q t){i:Int}{d:Nd}(e:t.at i=some d){k:Option Addr→Prop}(hk:k (some ⟨q.b i.toNat,0,none⟩)):
  A7 (some ⟨n,0,none⟩) λa=>ld1 .sl (a.add 12) w λx=>Hf x.1 x.2.1 i λa=>ld1 .p (a.add (i.toNat*1)) w k:=by
 obtain⟨i0,hd⟩:=Nt.Afi e
 rw[Ac]
 exact h.f.c1 12 (c:=.sl) (x:=q.sn) rfl (h.at (by omega) (List.getElem?_eq_some_iff.1 hd).1 hk)
def Nt.act(t:Nt)(i:Int)(f:Nd→Nd×Int):Nt×Int:=match t.at i with|some d=>(t.put i (f d).1,(f d).2)|none=>(t,7)
theorem Nt.Ajo{t:Nt}{i:Int}{d:Nd}(e:t.at i=some d)(f:Nd→Nd×Int):t.act i f=(t.put i (f d).1,(f d).2):=by unfold Nt.act;rw[e]
theorem Nt.Alo{t:Nt}{i:Int}(e:t.at i=none)(f:Nd→Nd×Int):t.act i f=(t,7):=by unfold Nt.act;rw[e]
theorem TW.Axi{Z:NP}{w w':World}{n:Nat}{q:Q7}{t:Nt}(g:dZ t)(hZ: ∀z,Z z↔ZQ n q t z)(X:TQ w n q t){i:Int}{d d':Nd}(hi:t.at i=some d)(e:d'.s=d.s){B':NP}(k:No w' B' (q.b i.toNat) d')(x:Nx (q.B i.toNat) w B' w'):
  ∃Z',TW w' Z' n (t.put i d')∧Nx Z w Z' w':=TW.put g hZ X (Nt.Afi hi).2 e k x
theorem Rj.t{w:World}{Z:NP}{n:Nat}{t:Nt}(h:TW w Z n t){i raw:Int}(r0:0≤raw)(r1:raw<4294967296){K:TR Kt→WP}
  (hk: ∀w' Z',TW w' Z' n (t.act i λd=>(d.turn raw,0)).1→Nx Z w Z' w'→K (((t.act i λd=>(d.turn raw,0)).2,()),()) w'):Ad prog F.Rj [pB n,iV i,.int .u32 raw] w false Kt K:=by
 obtain⟨g,q,hZ,X⟩:=h.q
 refine Rj.ok ?_
 refine Pn.q X g (λe=>?_) λd e=>?_
 ·rw[Nt.Alo e] at hk
  exact We rfl (hk w Z h (Nx.of (Ah.refl _)))
 ·rw[Nt.Ajo e] at hk
  refine Le rfl (X.Av5 e (Kq.o (X.nd _ _ (Nt.Afi e).2) r0 r1 λw' B' k x=>?_))
  obtain⟨Z',h',x'⟩:=TW.Axi (d':=d.turn raw) g hZ X e rfl k x
  exact hk w' Z' h' x'
theorem dZ.link{t:Nt}(g:dZ t){i k:Int}{on:Bool}(h0:0≤i∧i<t.s.nodes)(h1:0≤k∧k<t.s.nodes):dZ {t with near:=aZ t.near i.toNat k.toNat on}:=by
 have r:=g.rng
 have nl:=g.nl
 refine⟨g.s,g.len,g.nd,by show(aZ t.near i.toNat k.toNat on).length=_;rw[xR];exact g.nl,Ak8 g.nb (by omega) (by omega) (by omega),g.sb,g.el⟩
theorem sU{n i k:Int}:vG n i k=true↔(0≤i∧i<n)∧(0≤k∧k<n)∧i≠k:=by
 unfold vG
 rw[Bool.and_eq_true,Bool.and_eq_true,lD,lD,bne_iff_ne,and_assoc]
theorem Apf(t:Nt)(i k:Int)(on:Bool):t.link i k on=if vG t.s.nodes i k=true then({t with near:=aZ t.near i.toNat k.toNat on},0) else(t,1):=by
 unfold Nt.link
 by_cases c:vG t.s.nodes i k=true
 ·have:=sU.1 c
  rw[if_pos c,if_pos (by omega)]
 ·rw[if_neg c,if_neg λq=>c (sU.2 (by omega))]
theorem Rf.t{w:World}{Z:NP}{n:Nat}{t:Nt}(h:TW w Z n t){i k:Int}{on:Bool}{K:TR Kt→WP}
  (hk: ∀w',TW w' Z n (t.link i k on).1→Ap Z w w'→K (((t.link i k on).2,()),()) w'):Ad prog F.Rf [pB n,iV i,iV k,.bool on] w false Kt K:=by
 obtain⟨g,q,hZ,X⟩:=h.q
 have r:=g.rng
 have nl:=g.nl
 refine Rf.ok ?_
 refine Le rfl ?_
 rw[Ac]
 refine X.f.c1 11 (c:=.p) (x:=some ⟨q.L,0,none⟩) rfl ?_
 rw[Apf] at hk
 refine Na.cl X.lk X.rk X.d1.2.2 (by omega) (by omega) g.nb (λc=>?_) λc w' r' u'=>?_
 ·rw[if_neg (by rw[c];decide)] at hk
  exact hk w h (Ap.refl _ _)
 ·rw[if_pos c] at hk
  have c:=sU.1 c
  have hz: ∀i z,i<t.ds.length→q.B i z→z≠q.nb:=λi z hi hb=>(X.st i z hi hb).2.2.1
  refine hk w' ⟨g.link ⟨c.1.1,c.1.2⟩ c.2.1,q.L,q.nb,q.so,q.sn,q.se,q.b,q.B,hZ,?_⟩ (u'.mono λz e=>(hZ z).2 (.inr (.inr (.inl e))))
  have nn:aZ t.near i.toNat k.toNat on=aZ t.near i.toNat k.toNat on:=rfl
  refine⟨X.nk.upd u' X.d1.2.1,?_,r',Row.upd X.ns u' λa ha e=>(X.d2 a ha).2.2 e,Row.Agz X.es u' λp a ha e=>(X.d3 (iD p) a ha).2.2 e,X.ec,λj d hd=>(X.nd j d hd).upd u' λz hb e=>hz j z (List.getElem?_eq_some_iff.1 hd).1 hb e,X.dj,X.st,X.d1,X.d2,X.d3⟩
  show Ar w' q.L [iV t.s.nodes,Uz (some ⟨q.nb,0,none⟩,(aZ t.near i.toNat k.toNat on).length,(aZ t.near i.toNat k.toNat on).length)]
  rw[xR]
  exact X.lk.upd u' X.d1.2.2
theorem Qs.t{w:World}{Z:NP}{n:Nat}{t:Nt}(h:TW w Z n t){i:Int}{K:TR [(true,K5),(false,[KI])]→WP}
  (h0:t.at i=none→ ∀w',Ah w w'→K (dM (0,0,0,0,0),(7,()),()) w') (h1: ∀d,t.at i=some d→ ∀w',Ah w w'→K (dM d.time.1,(d.time.2,()),()) w'):Ad prog F.Qs [pB n,iV i] w true [(true,K5),(false,[KI])] K:=by
 obtain⟨g,q,hZ,X⟩:=h.q
 refine Qs.ok ?_
 refine Ae λp1 w2 e1 k1 u1=>?_
 have X2:TQ w2 n q t:=X.Ai u1
 refine Pn.q X2 g (λe=>We rfl ?_) λd e=>Le rfl (X2.Av5 e (Eh.o (X2.nd _ _ (Nt.Afi e).2) λw12 u12=>?_))
 ·exact k1.E5 (encs K5 (dM (0,0,0,0,0))) rfl rfl λw5 k5 u5=>k5.cA (cs:=K5) (dM (0,0,0,0,0)) rfl (h0 e w5 (Ah.fresh (Ah.refl _) u1 u5 e1))
 ·exact(k1.Ai u12).E5 (encs K5 (dM d.time.1)) rfl rfl λw13 k13 u13=>k13.cA (cs:=K5) (dM d.time.1) rfl (h1 d e w13 (Ah.fresh (Ah.refl _) (u1.trans u12) u13 e1))
end Go.Proofs.YtppeepkmnijdpaaGreatDoor
namespace Go.Proofs.YtppeepkmnijdpaaGreatDoor
open Go Go.Eng Tryz
open Go.IntKind (wrap)
set_option linter.unusedSimpArgs false
set_option linter.unusedVariables false
set_option maxRecDepth 100000
set_option maxHeartbeats 8000000
abbrev dR(xs:List Int):List Value:=xs.map (Value.int .i64)
theorem fO{w:World}{s:Sl}{xs:List Int}(h:Row w s 1 (dR xs)):s.2.1=xs.length:=by
 have:=Row.Ab2 h
 rw[List.length_map] at this
 exact this
theorem Ac3(xs:List Int): ∀u∈dR xs,u.oneCell'=true:=by
 intro u hu
 obtain⟨x,_,rfl⟩:=List.mem_map.1 hu
 rfl
theorem Vw.g{n:Int}(h0:1≤n)(h1:n≤64){w:World}{K:TR RPI→WP}(hk: ∀L nb w',w.heap.size≤nb→nb<L→Ar w' L (lkC n nb n.toNat)→Ar w' nb (Ry (List.replicate n.toNat 0))→Ah w w'→K ((some ⟨L,0,none⟩,()),(0,()),()) w'):
  Ad prog F.Vw [iV n] w true RPI K:=by
 refine Vw.ok ?_
 refine Cf (λc=>by omega) λ_=>Cf (λc=>by omega) λ_=>?_
 refine bD (t:=T.Qg) (e:=T.uint64) (size:=1) (bytes:=8) (z:=.int .u64 0) (l:=n.toNat) (c:=n.toNat) (by kernel_rfl) (by kernel_rfl) rfl (by decide) (by omega) (by omega) (by omega) (by omega) λp w4 e4 k4 o4 g4=>?_
 have k4:Ar w4 p (Ry (List.replicate n.toNat 0)):=by
  rw[Nat.mul_one,show(Value.int IntKind.u64 0).cells=#[Value.int .u64 0] from rfl,qV] at k4
  unfold Ry
  rw[List.map_replicate]
  exact k4
 refine Ae λp3 w5 e5 k5 u5=>hk p3 p w5 (Nat.le_of_eq e4) (by have:=k4.lt;omega) k5 (k4.Ai u5) (g4.trans u5)
theorem As8{S:zU}{i:Nat}(h:i<S.own.length):S.own[i]? =some (Ag5 S i):=by
 unfold Ag5
 rw[List.getElem?_eq_getElem h]
theorem Ato{S:zU}{i:Nat}(h: ¬i<S.own.length):Ag5 S i=Int.tmod (i:Int) (if 1>S.rnd then 1 else S.rnd):=by
 unfold Ag5
 rw[List.getElem?_eq_none (by omega)]
theorem Qm.q{S:zU}{so:Sl}{i:Nat}{w:World}(hR:Row w so 1 (dR S.own)){K:TR [(true,KSt)]→WP}(hk: ∀w',Ah w w'→K (stT (ndS S i),()) w'):Ad prog F.Qm [.agg (rO S so).toArray,iV (i:Int)] w false [(true,KSt)] K:=by
 refine Qm.ok (s0:=S.nodes) (s1:=S.tmo) (s2:=S.ign) (s3:=S.need) (s4:=S.drift) (s5:=S.rnd) (s6:=S.opn) (s7:=S.lim) (s8:=S.jit) (s9:=S.gate) (s10:=so) (i:=(i:Int)) ?_
 have hl:=fO hR
 refine Ae λp1 w2 e1 k1 u1=>Ae λp3 w4 e3 k3 u3=>?_
 have k1:=k1.Ai u3
 have g4:=u1.trans u3
 have hR:=Row.Ai hR g4
 refine k1.c1 5 (c:=KI) (x:=S.rnd) rfl ?_
 have hz:(if 1>S.rnd then(1:Int) else S.rnd)≠0:=by split<;>omega
 rw[Gm hz]
 refine Bh.by (λz W=>z=(Ag5 S i,())∧W=w4) ?_ ?_
 ·refine k1.c1 10 (c:=.sl) (x:=so) rfl (Cf (λc=>?_) λc=>?_)
  ·have c:(i:Int)<(so.2.1:Int):=c
   have hv:=As8 (S:=S) (i:=i) (by omega)
   refine k1.c1 10 (c:=.sl) (x:=so) rfl (Row.ix hR (z:=(i:Int)) rfl hv ⟨rfl,rfl⟩)
  ·have c: ¬(i:Int)<(so.2.1:Int):=c
   have hv:=Ato (S:=S) (i:=i) (by omega)
   exact⟨by rw[hv],rfl⟩
 rintro z W ⟨rfl,rfl⟩ _
 refine k1.cN 1 (cs:=[KI,KI,KI,KI]) (S.tmo,S.ign,S.need,S.drift,()) rfl (k1.c1 5 (c:=KI) (x:=S.rnd) rfl (k1.c1 6 (c:=KI) (x:=S.opn) rfl (k1.c1 7 (c:=KI) (x:=S.lim) rfl (k1.c1 8 (c:=KI) (x:=S.jit) rfl (k1.c1 9 (c:=KI) (x:=S.gate) rfl ?_)))))
 refine k3.E5 (stC (ndS S i)) rfl rfl λw5 k5 u5=>k5.cA (cs:=KSt) (stT (ndS S i)) rfl (hk w5 (Ah.fresh u1 u3 u5 e3))
structure Mk(w W:World)(S:zU)(lp:Option Addr)(so:Sl)(p1 n L nb:Nat)(i:Nat)(sn:Sl)(b:Nat→Nat)(B:Nat→NP):Prop where
 g:Ah w W
 ps:Ar W p1 (rO S so)
 nk:Ar W n (ntC S so sn (none,0,0) L 0 0)
 lk:Ar W L (lkC S.nodes nb S.nodes.toNat)
 rk:Ar W nb (Ry (List.replicate S.nodes.toNat 0))
 ow:Dp W w.heap.size T.Wl 1 sn i ((List.range i).map λj=>pB (b j))
 nd: ∀j,j<i→No W (B j) (b j) (nd0 (ndS S j) lp)
 ge: ∀j z,j<i→B j z→w.heap.size≤z
 dj: ∀j k z,j<i→k<i→B j z→B k z→j=k
 st: ∀j z,j<i→B j z→z≠p1∧z≠n∧z≠L∧z≠nb∧ ∀a,sn.1=some a→a.block≠z
 d1:p1≠n∧p1≠L∧p1≠nb∧n≠L∧n≠nb∧L≠nb
 d2: ∀a,sn.1=some a→a.block≠p1∧a.block≠n∧a.block≠L∧a.block≠nb
 lo:w.heap.size≤p1∧w.heap.size≤n∧w.heap.size≤L∧w.heap.size≤nb
theorem Av2{w W:World}{S:zU}{lp:Option Addr}{so:Sl}{p1 n L nb i:Nat}{sn:Sl}{b:Nat→Nat}{B:Nat→NP}(h:Mk w W S lp so p1 n L nb i sn b B)(hg:uD S=true)(hi:i=S.nodes.toNat):
  ∃Z,TW W Z n (nt0 S lp)∧ ∀z,Z z→w.heap.size≤z:=by
 subst hi
 have e:(nt0 S lp).ds.length=S.nodes.toNat:=by simp[nt0]
 have eN:(nt0 S lp).near.length=S.nodes.toNat:=by simp[nt0]
 refine⟨TZ n L nb sn (none,0,0) B (nt0 S lp),⟨Avv hg lp,L,nb,so,sn,(none,0,0),b,B,λ_=>Iff.rfl,h.nk,?_,h.rk,?_,⟨rfl,λq=>absurd rfl q⟩,Nat.le_refl _,λj d hd=>?_,λj k z hj hk=>?_,λj z hj hz=>?_,⟨h.d1.2.2.2.1,h.d1.2.2.2.2.1,h.d1.2.2.2.2.2⟩,λa ha=>(h.d2 a ha).2,λq=>absurd rfl q⟩,?_⟩
 ·show Ar W L (lkC S.nodes nb (nt0 S lp).near.length)
  rw[eN];exact h.lk
 ·rw[e];exact h.ow.row
 ·have hd:((List.range S.nodes.toNat).map λi=>nd0 (ndS S i) lp)[j]? =some d:=hd
  rw[List.getElem?_map] at hd
  by_cases c:j<S.nodes.toNat
  ·rw[List.getElem?_range c] at hd
   injection hd with hd;subst hd
   exact h.nd j c
  ·rw[List.getElem?_eq_none (by simpa using (by omega:S.nodes.toNat≤j))] at hd
   cases hd
 ·exact h.dj j k z (by omega) (by omega)
 ·have q:=h.st j z (by omega) hz
  exact⟨q.2.1,q.2.2.1,q.2.2.2.1,q.2.2.2.2,λq=>absurd rfl q⟩
 ·rintro z (rfl|rfl|rfl|⟨a,ha,rfl⟩|⟨q,_⟩|⟨j,hj,hz⟩)
  ·exact h.lo.2.1
  ·exact h.lo.2.2.1
  ·exact h.lo.2.2.2
  ·exact(h.ow.blk ha).1
  ·exact absurd rfl q
  ·exact h.ge j z (by omega) hz
theorem dF.g{S:zU}{so:Sl}{lp:Option Addr}{w:World}(hg:uD S=true)(hR:Row w so 1 (dR S.own))(ho:S.own.length≤1000000){K:TR RPI→WP}
  (hk: ∀n Z w',TW w' Z n (nt0 S lp)→(∀z,Z z→w.heap.size≤z)→Ah w w'→K ((some ⟨n,0,none⟩,()),(0,()),()) w'):Ad prog F.dF [.agg (rO S so).toArray,.pointer lp] w true RPI K:=by
 refine dF.ok (s0:=S.nodes) (s1:=S.tmo) (s2:=S.ign) (s3:=S.need) (s4:=S.drift) (s5:=S.rnd) (s6:=S.opn) (s7:=S.lim) (s8:=S.jit) (s9:=S.gate) (s10:=so) ?_
 obtain⟨⟨n1,n64⟩,gs⟩:=aO.1 hg
 refine Ae λp1 w2 e1 k1 u1=>?_
 change Ar w2 p1 (rO S so) at k1
 have kp:=k1
 refine k1.c0 (c:=KI) (x:=S.nodes) rfl (Vw.g n1 n64 λL nb w5 l1 l2 kL kN u5=>Le rfl ?_)
 have k1:=k1.Ai u5
 have g5:=u1.trans u5
 have hl:=fO hR
 refine k1.c1 10 (c:=.sl) (x:=so) rfl ?_
 refine S9 (s:=(none,0,0)) (x:=so) (base:=w.heap.size) (e:=T.int) (size:=1) (n:=0) (xs:=[]) (news:=dR S.own) (by kernel_rfl) (by kernel_rfl) (by decide) (Dp.nil _ _ _ _) (Row.Ai hR g5) (Ac3 _) (by omega) g5.size λy w8 o8 u8 b8=>?_
 have u8:Ah w5 w8:=u8.mono λz ⟨a,ha,_⟩=>by cases ha
 have g8:=g5.trans u8
 have r8:Row w8 y 1 (dR S.own):=by have:=o8.row;rwa [List.nil_append] at this
 refine(k1.Ai u8).sN 10 [.slice y.1 y.2.1 y.2.2] (by show 11≤11;omega) rfl λw9 k9 u9=>?_
 change Ar w9 p1 (rO S y) at k9
 have hp1:w.heap.size=p1:=e1
 have g9:Ah w w9:=Ap.trans g8 u9 λz hz hq=>by omega
 have r9:Row w9 y 1 (dR S.own):=Row.upd r8 u9 λa ha hq=>by
  rcases b8 a ha with ⟨a0,h0,_⟩|h
  ·cases h0
  ·have:=k1.lt;omega
 have l5:=u5.size
 have l8:=u8.size
 have l9:=u9.size
 have l12:=u1.size
 have hp1':p1<w2.heap.size:=by have:=kp.lt;omega
 have kL9:=(kL.Ai u8).upd u9 (show¬L=p1 by omega)
 have kN9:=(kN.Ai u8).upd u9 (show¬nb=p1 by omega)
 have lL:=kL.lt
 refine k9.cA (cs:=[KI,KI,KI,KI,KI,KI,KI,KI,KI,KI,.sl]) (S.nodes,S.tmo,S.ign,S.need,S.drift,S.rnd,S.opn,S.lim,S.jit,S.gate,y,()) rfl ?_
 refine Ae λn w12 e12 k12 u12=>?_
 change Ar w12 n (ntC S y (none,0,0) (none,0,0) L 0 0) at k12
 have g12:=g9.trans u12
 have k9:=k9.Ai u12
 refine k9.c0 (c:=KI) (x:=S.nodes) rfl ?_
 have m0:Mk w w12 S lp y p1 n L nb 0 (none,0,0) (λ_=>0) (λ_ _=>False):=⟨g12,k9,k12,kL9.Ai u12,kN9.Ai u12,Dp.nil _ _ _ _,λj hj=>by omega,λj z hj=>by omega,λj k z hj=>by omega,λj z hj=>by omega,
  ⟨by omega,by omega,by omega,by omega,by omega,by omega⟩,(λa ha=>by cases ha),⟨by omega,by omega,by omega,by omega⟩⟩
 have hrow: ∀{W:World},Ah w9 W→Row W y 1 (dR S.own):=λu=>Row.Ai r9 u
 refine Aw.by (λz W=> ∃i:Nat,i≤S.nodes.toNat∧z=((i:Int),())∧ ∃sn b B,Mk w W S lp y p1 n L nb i sn b B∧Row W y 1 (dR S.own)∧ ∀a,sn.1=some a→w9.heap.size≤a.block) (λz=>S.nodes.toNat-z.1.toNat) ⟨0,by omega,rfl,_,_,_,m0,hrow u12,(λa ha=>by cases ha)⟩ ?_
 rintro z W ⟨i,hi,rfl,sn,b,B,m,rW,sg⟩ _
 refine Cf (λc=>?_) λc=>?_
 ·have hil:i<S.nodes.toNat:=by have c:(i:Int)<S.nodes:=c;omega
  refine m.ps.cA (cs:=[KI,KI,KI,KI,KI,KI,KI,KI,KI,KI,.sl]) (S.nodes,S.tmo,S.ign,S.need,S.drift,S.rnd,S.opn,S.lim,S.jit,S.gate,y,()) rfl ?_
  refine Qm.q (S:=S) (so:=y) (i:=i) rW λw19 u19=>?_
  refine Ua.o (s:=ndS S i) (λhb=>by rw[gs i hil] at hb;cases hb) λ_ bi Bi w21 nd21 ge21 u21=>Le rfl ?_
  have G21:=u19.trans u21
  have n21:=m.nk.Ai G21
  refine n21.c1 12 (c:=.sl) (x:=sn) rfl (Ae λp23 w24 e24 k24 u24=>?_)
  have G24:=G21.trans u24
  have o24:Dp w24 w.heap.size T.Wl 1 sn i ((List.range i).map λj=>pB (b j)):=m.ow.Ai G24
  have lsn:sn.2.1=i:=o24.len
  have s19:=u19.size
  have s21:=u21.size
  have s24:=u24.size
  have sW:=m.g.size
  refine S9 (s:=sn) (x:=(some ⟨p23,0,none⟩,1,1)) (base:=w.heap.size) (e:=T.Wl) (size:=1) (n:=i) (xs:=(List.range i).map λj=>pB (b j)) (news:=[pB bi]) (by kernel_rfl) (by kernel_rfl) (by decide) o24 (k24.row rfl) (λu hu=>by rw[List.mem_singleton.1 hu];rfl) (by show i+1≤1000000000;omega) (by omega) λy25 w26 o26 u26 b26=>?_
  have hsn: ∀a,sn.1=some a→w.heap.size≤a.block∧a.block<W.heap.size:=λa ha=>⟨(m.ow.blk ha).1,(m.ow.blk ha).2.1⟩
  have n26:=(n21.Ai u24).upd u26 (by rintro⟨a,ha,e⟩;exact(m.d2 a ha).2.1 e)
  refine n26.sN 12 [.slice y25.1 y25.2.1 y25.2.2] (by show 13≤16;omega) rfl λw27 n27 u27=>?_
  change Ar w27 n (ntC S y y25 (none,0,0) L 0 0) at n27
  have s26:=u26.size
  have hy: ∀a,y25.1=some a→(∃a0,sn.1=some a0∧a.block=a0.block)∨w24.heap.size≤a.block:=b26
  have U:Ap (λz=>(∃a,sn.1=some a∧a.block=z)∨z=n) W w27:=Ap.trans (Ap.trans (Ap.Ed G24) u26 λ_ _ h=>.inl h) u27 λ_ _ h=>.inr h
  have Ul:Ap (λz=>(∃a,sn.1=some a∧a.block=z)∨z=n) w21 w27:=Ap.trans (Ap.trans (Ap.Ed u24) u26 λ_ _ h=>.inl h) u27 λ_ _ h=>.inr h
  have nl:n<W.heap.size:=m.nk.lt
  have nx:wrap .i64 ((i:Int)+1)=((i+1:Nat):Int):=by rw[Af (by unfold I64;omega)];rfl
  have hlo:=m.lo
  have hd1:=m.d1
  have no1: ∀{z},z≠n→(∀a,sn.1=some a→a.block≠z)→ ¬((∃a,sn.1=some a∧a.block=z)∨z=n):=λh1 h2 h=>h.elim (λ⟨a,ha,e⟩=>h2 a ha e) h1
  have hp:=m.ps.lt
  have hL:=m.lk.lt
  have hN:=m.rk.lt
  have hB:=nd21.lt
  refine⟨⟨i+1,by omega,by rw[nx],y25,λj=>if j=i then bi else b j,λj=>if j=i then Bi else B j,⟨?_,?_,n27,?_,?_,?_,?_,?_,?_,?_,hd1,?_,hlo⟩,Row.upd rW U ?_,λa ha=>?_⟩,by show _-(wrap .i64 ((i:Int)+1)).toNat<_-((i:Int)).toNat;rw[nx,Int.toNat_natCast,Int.toNat_natCast];omega⟩
  ·exact Ap.trans m.g U λz hz h=>h.elim (λ⟨a,ha,e⟩=>by have:=(hsn a ha).1;omega) λe=>by omega
  ·exact m.ps.upd U (no1 hd1.1 λa ha=>(m.d2 a ha).1)
  ·exact m.lk.upd U (no1 (λe=>hd1.2.2.2.1 e.symm) λa ha=>(m.d2 a ha).2.2.1)
  ·exact m.rk.upd U (no1 (λe=>hd1.2.2.2.2.1 e.symm) λa ha=>(m.d2 a ha).2.2.2)
  ·have ow:Dp w27 w.heap.size T.Wl 1 y25 (i+1) (((List.range i).map λj=>pB (b j))++[pB bi]):=o26.upd u27 λa ha e=>by
    rcases hy a ha with ⟨a0,h0,e0⟩|h
    ·exact(m.d2 a0 h0).2.1 (e0.symm.trans e)
    ·omega
   have e:((List.range (i+1)).map λj=>pB (if j=i then bi else b j))=((List.range i).map λj=>pB (b j))++[pB bi]:=by
    rw[List.range_succ,List.map_append]
    congr 1
    ·apply List.map_congr_left
     intro j hj
     have:=List.mem_range.1 hj
     rw[if_neg (by omega)]
    ·simp
   rw[e];exact ow
  ·intro j hj
   by_cases e:j=i
   ·subst e
    rw[if_pos rfl,if_pos rfl]
    exact nd21.upd Ul λz hz h=>by
     have:=ge21 z hz
     rcases h with ⟨a,ha,q⟩|q
     ·have:=(hsn a ha).2;omega
     ·omega
   ·rw[if_neg e,if_neg e]
    have q:=m.st j
    exact(m.nd j (by omega)).upd U λz hz=>no1 (q z (by omega) hz).2.1 (q z (by omega) hz).2.2.2.2
  ·intro j z hj hz
   by_cases e:j=i
   ·rw[if_pos e] at hz;have:=ge21 z hz;omega
   ·rw[if_neg e] at hz;exact m.ge j z (by omega) hz
  ·intro j k z hj hk a c
   by_cases e1:j=i
   ·rw[if_pos e1] at a
    have:=ge21 z a
    by_cases e2:k=i
    ·omega
    ·rw[if_neg e2] at c
     have:=(m.nd k (by omega)).lt z c;omega
   ·rw[if_neg e1] at a
    by_cases e2:k=i
    ·rw[if_pos e2] at c
     have:=ge21 z c
     have:=(m.nd j (by omega)).lt z a;omega
    ·rw[if_neg e2] at c
     exact m.dj j k z (by omega) (by omega) a c
  ·intro j z hj hz
   by_cases e:j=i
   ·rw[if_pos e] at hz
    have g:=ge21 z hz
    have l:=hB z hz
    refine⟨by omega,by omega,by omega,by omega,λa ha q=>?_⟩
    rcases hy a ha with ⟨a0,h0,e0⟩|h
    ·have:=(hsn a0 h0).2;omega
    ·omega
   ·rw[if_neg e] at hz
    have q:=m.st j z (by omega) hz
    have l:=(m.nd j (by omega)).lt z hz
    refine⟨q.1,q.2.1,q.2.2.1,q.2.2.2.1,λa ha h=>?_⟩
    rcases hy a ha with ⟨a0,h0,e0⟩|h'
    ·exact q.2.2.2.2 a0 h0 (e0.symm.trans h)
    ·omega
  ·intro a ha
   rcases hy a ha with ⟨a0,h0,e0⟩|h
   ·rw[e0];exact m.d2 a0 h0
   ·exact⟨by omega,by omega,by omega,by omega⟩
  ·intro a ha h
   have l:=(o8.blk ha).2.1
   rcases h with ⟨a0,h0,e0⟩|e0
   ·have:=sg a0 h0;omega
   ·omega
  ·rcases hy a ha with ⟨a0,h0,e0⟩|h
   ·have:=sg a0 h0;omega
   ·have:=m.nk.lt;omega
 ·have hil:i=S.nodes.toNat:=by have c: ¬(i:Int)<S.nodes:=c;omega
  obtain⟨Z,h,hz⟩:=Av2 m hg hil
  exact hk n Z W h hz m.g
end Go.Proofs.YtppeepkmnijdpaaGreatDoor
