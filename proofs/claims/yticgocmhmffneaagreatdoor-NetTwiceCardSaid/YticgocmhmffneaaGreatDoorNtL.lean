import Derived.Test.YticgocmhmffneaaGreatDoorMtA
import Derived.Test.YticgocmhmffneaaGreatDoorNtZ
namespace Go.Proofs.YticgocmhmffneaaGreatDoor
open Go Go.Eng Tryz
open Go.IntKind (wrap)
set_option linter.unusedSimpArgs false
set_option linter.unusedVariables false
set_option maxRecDepth 100000
set_option maxHeartbeats 8000000
theorem Ae1{xs:List Nat}{i x:Nat}(h:xs[i]? =some x):(iY xs)[i]? =some (.int .u64 (x:Int)):=by rw[List.getElem?_map,h];rfl
theorem Asl(xs:List Nat)(i x:Nat):splice (iY xs) i [.int .u64 (x:Int)]=iY (xs.set i x):=by
  show(iY xs).set i _=_
  unfold iY
  rw[List.map_set]
theorem getD_some{xs:List Nat}{i:Nat}(h:i<xs.length):xs[i]? =some (xs.getD i 0):=by
  rw[List.getD_eq_getElem?_getD,List.getElem?_eq_getElem h];rfl
theorem Tn(near:List Nat)(i:Nat)(f:Nat→Nat):(opB near i f).length=near.length:=List.length_set
theorem pM{near:List Nat}{i:Nat}{f:Nat→Nat}(h: ∀x∈near,x<18446744073709551616)(hi:i<near.length)(hf: ∀x,x<18446744073709551616→f x<18446744073709551616): ∀x∈opB near i f,x<18446744073709551616:=fun x hx=>by
  rcases List.mem_or_eq_of_mem_set hx with q|q
  · exact h x q
  · rw[q];exact hf _ (h _ (List.mem_of_getElem? (getD_some hi)))
theorem Ads(near:List Nat)(i k:Nat)(on:Bool):(Zu near i k on).length=near.length:=by
  unfold Zu;dsimp only;split<;>simp only[Tn]
theorem Aqs{near:List Nat}{i k:Nat}{on:Bool}(h: ∀x∈near,x<18446744073709551616)(hi:i<near.length)(hk:k<near.length)(hl:near.length≤64): ∀x∈Zu near i k on,x<18446744073709551616:=by
  have h1:=pM (f:=nN k) h hi fun x=>Afk
  have h2:=pM (i:=k) (f:=nN i) h1 (by rw[Tn];exact hk) fun x=>Afk
  unfold Zu
  dsimp only
  split
  · have h3:=pM (i:=i) (f:=setB k) h2 (by rw[Tn,Tn];exact hi) fun x hx=>Aet hx (by omega)
    exact pM (i:=k) (f:=setB i) h3 (by rw[Tn,Tn,Tn];exact hk) fun x hx=>Aet hx (by omega)
  · exact h2
abbrev lkC(n:Int)(nb k:Nat):List Value:=[iV n,bP (some ⟨nb,0,none⟩,k,k)]
theorem Fb.cl{L nb k:Nat}{n:Int}{w:World}(h:Az w L (lkC n nb k)){K:TR Si→WP}(hk:K ((n,()),()) w):Ae prog F.Fb [pB L] w false Si K:=by
  refine Fb.ok ?_
  unfold Fb.wp
  refine Jl rfl ?_
  rw[Ac]
  exact h.c0 (c:=KI) (x:=n) rfl hk
def inN(n i:Int):Bool:=decide (0≤i)&&decide (i<n)
theorem uA{n i:Int}:inN n i=true↔0≤i∧i<n:=by unfold inN;simp
theorem Ep.cl{L nb k:Nat}{n i:Int}{w:World}(h:Az w L (lkC n nb k)){K:TR Wh→WP}(hk:K ((inN n i,()),()) w):Ae prog F.Ep [pB L,iV i] w false Wh K:=by
  refine Ep.ok ?_
  unfold Ep.wp
  refine Dx (fun c=>Fb.cl h ?_) fun c=>?_
  · have e:inN n i=decide (i<n):=by unfold inN;rw[decide_eq_true (show 0≤i from c),Bool.true_and]
    rw[e] at hk;exact hk
  · have e:inN n i=false:=by unfold inN;rw[decide_eq_false (show¬0≤i from c),Bool.false_and]
    rw[e] at hk;exact hk
def Ac7(n i k:Int):Bool:=inN n i&&inN n k&&(i !=k)
theorem Ho.cl{L nb q:Nat}{n i k:Int}{w:World}(h:Az w L (lkC n nb q)){K:TR Wh→WP}(hk:K ((Ac7 n i k,()),()) w):Ae prog F.Ho [pB L,iV i,iV k] w false Wh K:=by
  refine Ho.ok ?_
  unfold Ho.wp
  unfold Ac7 at hk
  refine Ep.cl h (bM (fun c=>Ep.cl h (bM (fun d=>?_) fun d=>?_)) fun c=>?_)
  · have c:inN n i=true:=c
    have d:inN n k=true:=d
    rw[c,d] at hk;exact hk
  · have c:inN n i=true:=c
    have d:inN n k=false:=d
    rw[c,d] at hk;exact hk
  · have c:inN n i=false:=c
    rw[c] at hk;exact hk
theorem Gx.cl{L nb:Nat}{n:Int}{near:List Nat}{i:Nat}{w:World}(h:Az w L (lkC n nb near.length))(r:Az w nb (iY near))(hn:(near.length:Int)=n)(hi:i<near.length){K:TR [(false,[.i .u64])]→WP}(hk:K (((near.getD i 0:Nat),()),()) w):Ae prog F.Gx [pB L,iV (i:Int)] w false [(false,[.i .u64])] K:=by
  refine Gx.ok ?_
  unfold Gx.wp
  refine Ep.cl h (Jl (by show(!inN n (i:Int))=false;rw[uA.2 (by omega)];rfl) ?_)
  rw[Ac]
  refine h.c1 1 (c:=.sl) (x:=(some ⟨nb,0,none⟩,near.length,near.length)) rfl ?_
  rw[Tq (by dsimp only;omega)]
  rw[Int.toNat_natCast,Nat.mul_one]
  exact r.c1 i (c:=.i .u64) (x:=(near.getD i 0:Nat)) (Ae1 (getD_some hi)) hk
theorem Aa3{nb:Nat}{near:List Nat}{w:World}(r:Az w nb (iY near)){z:Int}{i:Nat}(hz:z=(i:Int))(hi:i<near.length){f:Nat→Nat}{v:Int}(hv:v=((f (near.getD i 0):Nat):Int)){k:WP}(hk: ∀w',Az w' nb (iY (opB near i f))→Am (fun x=>x=nb) w w'→k w'):
    Au [.int .u64 v] (Addr.add ⟨nb,0,none⟩ (z.toNat*1)) 0 w k:=by
  subst hz
  rw[Int.toNat_natCast,Nat.mul_one]
  refine r.sN i [.int .u64 v] (by rw[List.length_map];show i+1≤_;omega) rfl fun w' k' u'=>hk w' ?_ u'
  rw[hv,Asl] at k'
  exact k'
theorem Aa4{nb:Nat}{near:List Nat}{w:World}(r:Az w nb (iY near)){z:Int}{i:Nat}(hz:z=(i:Int))(hi:i<near.length){k:Int→Prop}(hk:k ((near.getD i 0:Nat):Int)):ld1 (.i .u64) (Addr.add ⟨nb,0,none⟩ (z.toNat*1)) w k:=by
  subst hz
  rw[Int.toNat_natCast,Nat.mul_one]
  exact r.c1 i (c:=.i .u64) (x:=(near.getD i 0:Nat)) (Ae1 (getD_some hi)) hk
theorem Ht.cl{L nb:Nat}{n i k:Int}{near:List Nat}{on:Bool}{w:World}(h:Az w L (lkC n nb near.length))(r:Az w nb (iY near))(hne:L≠nb)(hn:(near.length:Int)=n)(hl:near.length≤64)(hb: ∀x∈near,x<18446744073709551616){K:TR Si→WP}
    (h0:Ac7 n i k=false→K ((1,()),()) w) (h1:Ac7 n i k=true→ ∀w',Az w' nb (iY (Zu near i.toNat k.toNat on))→Am (fun z=>z=nb) w w'→K ((0,()),()) w'):Ae prog F.Ht [pB L,iV i,iV k,.bool on] w false Si K:=by
  refine Ht.ok ?_
  unfold Ht.wp
  refine Jl rfl (Ho.cl h (Ee (fun c=>h0 c) fun c=>?_))
  have c:Ac7 n i k=true:=c
  have h1:=h1 c
  unfold Ac7 at c
  rw[Bool.and_eq_true,Bool.and_eq_true,uA,uA] at c
  obtain⟨⟨⟨i0,i1⟩,k0,k1⟩,_⟩:=c
  obtain⟨a,rfl⟩: ∃a:Nat,i=(a:Int):=⟨i.toNat,by omega⟩
  obtain⟨b,rfl⟩: ∃b:Nat,k=(b:Int):=⟨k.toNat,by omega⟩
  rw[Int.toNat_natCast,Int.toNat_natCast] at h1
  have al:a<near.length:=by omega
  have bl:b<near.length:=by omega
  have gD: ∀{near':List Nat} {j:Nat},near'.length=near.length→(∀x∈near',x<18446744073709551616)→j<near.length→near'.getD j 0<18446744073709551616:=fun e hb hj=>hb _ (List.mem_of_getElem? (getD_some (by rw[e];exact hj)))
  rw[Be]
  have g1:=Af.drew w
  have h:=h.Ai g1
  have r:=r.Ai g1
  generalize w.drew=w3 at*
  rw[Ac]
  refine h.c1 1 (c:=.sl) (x:=(some ⟨nb,0,none⟩,near.length,near.length)) rfl ?_
  rw[Tq (by dsimp only;omega)]
  refine Aa4 r rfl al ?_
  rw[Vg (by omega),Tq (by dsimp only;omega)]
  refine Aa3 r rfl al (f:=nN b) (by rw[sh1 (by omega),Ao3 (gD rfl hb al) (by omega)]) fun w9 r9 u9=>⟨trivial,?_⟩
  have b9:=pM (f:=nN b) hb al fun x=>Afk
  have l9:=Tn near a (nN b)
  have h9:=h.upd u9 hne
  rw[Be]
  have g9:=Af.drew w9
  have h9:=h9.Ai g9
  have r9:=r9.Ai g9
  have u9:=u9.Ai g9
  generalize w9.drew=w10 at*
  rw[Ac]
  refine h9.c1 1 (c:=.sl) (x:=(some ⟨nb,0,none⟩,near.length,near.length)) rfl ?_
  rw[Tq (by dsimp only;omega)]
  refine Aa4 r9 rfl (by omega) ?_
  rw[Vg (by omega),Tq (by dsimp only;omega)]
  refine Aa3 r9 rfl (by omega) (f:=nN a) (by rw[sh1 (by omega),Ao3 (gD l9 b9 bl) (by omega)]) fun w16 r16 u16=>⟨trivial,?_⟩
  have b16:=pM (i:=b) (f:=nN a) b9 (by omega) fun x=>Afk
  have l16:=(Tn (opB near a (nN b)) b (nN a)).trans l9
  have Xe:Am (fun z=>z=nb) w w16:=Am.trans (Am.trans (Am.Bj g1) u9 fun _ _ x=>x) u16 fun _ _ x=>x
  cases on with
  |false=>exact Jl rfl (h1 w16 r16 Xe)
  |true=>
    refine Vt rfl ?_
    have h16:=h9.upd u16 hne
    rw[Be]
    have g16:=Af.drew w16
    have h16:=h16.Ai g16
    have r16:=r16.Ai g16
    have U17:=Xe.Ai g16
    generalize w16.drew=w17 at*
    rw[Ac]
    refine h16.c1 1 (c:=.sl) (x:=(some ⟨nb,0,none⟩,near.length,near.length)) rfl ?_
    rw[Tq (by dsimp only;omega)]
    refine Aa4 r16 rfl (by omega) ?_
    rw[Vg (by omega),Tq (by dsimp only;omega)]
    refine Aa3 r16 rfl (by omega) (f:=setB b) (by rw[sh1 (by omega),Akr (gD l16 b16 al) (Ab5 (by omega))];rfl) fun w23 r23 u23=>⟨trivial,?_⟩
    have b23:=pM (i:=a) (f:=setB b) b16 (by omega) fun x hx=>Aet hx (by omega)
    have l23:=(Tn (opB (opB near a (nN b)) b (nN a)) a (setB b)).trans l16
    have h23:=h16.upd u23 hne
    rw[Be]
    have g23:=Af.drew w23
    have h23:=h23.Ai g23
    have r23:=r23.Ai g23
    have u23:=u23.Ai g23
    generalize w23.drew=w24 at*
    rw[Ac]
    refine h23.c1 1 (c:=.sl) (x:=(some ⟨nb,0,none⟩,near.length,near.length)) rfl ?_
    rw[Tq (by dsimp only;omega)]
    refine Aa4 r23 rfl (by omega) ?_
    rw[Vg (by omega),Tq (by dsimp only;omega)]
    refine Aa3 r23 rfl (by omega) (f:=setB a) (by rw[sh1 (by omega),Akr (gD l23 b23 bl) (Ab5 (by omega))];rfl) fun w30 r30 u30=>⟨trivial,?_⟩
    exact h1 w30 r30 (Am.trans (Am.trans U17 u23 fun _ _ x=>x) u30 fun _ _ x=>x)
theorem Tb.Ai{w w':World}(h:Tb w)(u:Af w w'):Tb w':=fun j hj=>lN (h j hj) u
theorem Tb.upd{S:NP}{w w':World}(h:Tb w)(u:Am S w w')(hS: ¬S 0):Tb w':=fun j hj=>yU (h j hj) u hS
theorem Np.cl{a i:Nat}(ha:a<18446744073709551616)(hi:i<64){w:World}{K:TR Wh→WP}(hk:K ((a.testBit i,()),()) w):Ae prog F.Np [.int .u64 (a:Int),iV (i:Int)] w false Wh K:=by
  refine Np.ok ?_
  unfold Np.wp
  rw[Vg (by omega),Axz ha hi]
  exact hk
theorem I4.cl{send S9 near i:Nat}{lost:List Nat}{s:Sl}{w:World}(hT:Tb w)(hs:send<18446744073709551616)(ha:S9<18446744073709551616)(hn:near<18446744073709551616)(hi:i<64)(hR:Row w s 1 (iY lost))(hb: ∀x∈lost,x<18446744073709551616){K:TR [(true,KE)]→WP}
    (hk: ∀w',Af w w'→K (eT (xH send S9 lost i near),()) w'):Ae prog F.I4 [.agg #[.int .u64 (send:Int),.int .u64 (S9:Int),.slice s.1 s.2.1 s.2.2],iV (i:Int),.int .u64 (near:Int)] w false [(true,KE)] K:=by
  refine I4.ok (a2:=s) ?_
  unfold I4.wp
  refine Ad fun p1 w2 e1 k1 u1=>Ad fun p3 w4 e3 k3 u3=>?_
  have k1:=k1.Ai u3
  have g4:=u1.trans u3
  have fin: ∀{W w':World} {x y:Int},Af w W→Az W p3 [iV 0,iV 0]→xH send S9 lost i near=(x,y)→Au [iV x,iV y] ⟨p3,0,none⟩ 0 W fun w'=>A8 [KI,KI] ⟨p3,0,none⟩ 0 w' fun z=>K ((z.1,z.2.1,()),()) w':=fun{W w' x y} gW k e=>by
    refine k.Fg [iV x,iV y] rfl rfl fun w5 k5 u5=>k5.ld2 ?_
    have h5:w.heap.size≤p3:=by have:=u1.size;omega
    have:=hk w5 (Am.trans gW u5 fun z hz hq=>by omega)
    rw[e] at this
    exact this
  unfold xH at fin
  by_cases c0:near=0
  · rw[if_pos c0] at fin
    refine Vt (by rw[c0];rfl) (fin (w':=w4) g4 k3 rfl)
  rw[if_neg c0] at fin
  refine Jl (by show((near:Int)==0)=false;exact beq_false_of_ne (by omega)) ?_
  refine Cc.by (fun z W=>z=(Aau near,())∧W=w4) ?_ ?_
  · have ew:wrap .u64 ((near:Int)-1)=((near-1:Nat):Int):=by rw[show(near:Int)-1=((near-1:Nat):Int) by omega,wuN (by omega)]
    rw[ew,Aql hn (by omega)]
    refine Yl (fun c=>bits_TrailingZeros64.cl hn (hT.Ai g4) ⟨?_,rfl⟩) fun c=>⟨?_,rfl⟩
    · have c:near&&&(near-1)=0:=by have c:((near&&&(near-1):Nat):Int)=0:=c;omega
      unfold Aau
      rw[if_pos c]
    · have c: ¬near&&&(near-1)=0:=by intro q;exact c (by show((near&&&(near-1):Nat):Int)=0;omega)
      unfold Aau
      rw[if_neg c];rfl
  rintro z W ⟨rfl,rfl⟩ _
  have f64:0≤Aau near→Aau near<64:=fun _=>by
    unfold Aau
    split
    · have:=(Akd c0 hn).2;omega
    · decide
  unfold Anz at fin
  refine k1.c0 (c:=.i .u64) (x:=(send:Int)) rfl (Np.cl hs hi (bM (fun c=>?_) fun c=>?_))
  · have c:send.testBit i=true:=c
    rw[if_pos c] at fin
    exact fin (w':=W) g4 k3 rfl
  have c: ¬send.testBit i=true:=by have c:send.testBit i=false:=c;rw[c];decide
  rw[if_neg c] at fin
  refine k1.c1 1 (c:=.i .u64) (x:=(S9:Int)) rfl (Np.cl ha hi (Ee (fun c=>?_) fun c=>?_))
  · have c:S9.testBit i=false:=c
    rw[if_pos c] at fin
    exact fin (w':=W) g4 k3 rfl
  have c: ¬S9.testBit i=false:=by have c:S9.testBit i=true:=c;rw[c];decide
  rw[if_neg c] at fin
  refine Dx (fun c=>?_) fun c=>?_
  · have c:Aau near<0:=c
    rw[if_pos c] at fin
    exact fin (w':=W) g4 k3 rfl
  have c: ¬Aau near<0:=c
  rw[if_neg c] at fin
  have hl:=hR.Abk
  rw[List.length_map] at hl
  refine k1.c1 2 (c:=.sl) (x:=s) rfl (Dx (fun c2=>?_) fun c2=>?_)
  · have c2:(i:Int)<(s.2.1:Int):=c2
    have il:i<lost.length:=by omega
    refine k1.c1 2 (c:=.sl) (x:=s) rfl ((Row.Ai hR g4).ixc (c:=.i .u64) (z:=(i:Int)) (x:=((lost.getD i 0:Nat):Int)) rfl (Ae1 (getD_some il)) rfl ?_)
    obtain⟨f,ef⟩: ∃f:Nat,Aau near=(f:Int):=⟨(Aau near).toNat,by omega⟩
    have f6:=f64 (by omega)
    rw[ef] at fin f6⊢
    rw[Int.toNat_natCast] at fin
    refine Np.cl (hb _ (List.mem_of_getElem? (getD_some il))) (by omega) (bM (fun c3=>?_) fun c3=>?_)
    · have c3:(lost.getD i 0).testBit f=true:=c3
      rw[if_pos ⟨il,c3⟩] at fin
      exact fin (w':=W) g4 k3 rfl
    · have c3: ¬(lost.getD i 0).testBit f=true:=by have c3:(lost.getD i 0).testBit f=false:=c3;rw[c3];decide
      rw[if_neg fun q=>c3 q.2] at fin
      exact fin (w':=W) g4 k3 rfl
  · have c2: ¬(i:Int)<(s.2.1:Int):=c2
    rw[if_neg fun q=>c2 (by omega)] at fin
    exact fin (w':=W) g4 k3 rfl
end Go.Proofs.YticgocmhmffneaaGreatDoor
