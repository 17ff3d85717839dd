import Derived.Test.YticgocmhmffneaaGreatDoorMtA
namespace Go.Proofs.YticgocmhmffneaaGreatDoor
open Go Go.Eng
set_option linter.unusedSimpArgs false
set_option linter.unusedVariables false
set_option maxRecDepth 100000
set_option maxHeartbeats 8000000
theorem xI{α:Type}{f:Nat→α→α}{l:List α}(h: ∀i d,l[i]? =some d→f i d=d):l.mapIdx f=l:=by
 apply List.ext_getElem?
 intro i
 rw[List.getElem?_mapIdx]
 cases hd:l[i]? with
 |none=>rfl
 |some d=>rw[Option.map_some,h i d hd]
theorem Nt.Ap2{t:Nt}{c:Ch}{i:Nat}{d:Nd}(h:t.ds[i]? =some d):(t.d1 c)[i]? =some (d.go (Nz c.ticks i)).1:=by
 unfold Nt.d1;rw[List.getElem?_mapIdx,h];rfl
theorem Nt.Af5{t:Nt}{c:Ch}{i:Nat}{d:Nd}(h:t.ds[i]? =some d):(t.d2 c)[i]? =some ((d.go (Nz c.ticks i)).1.send t.steps (Nz c.send i)).1:=by
 unfold Nt.d2;rw[List.getElem?_mapIdx,Nt.Ap2 h];rfl
theorem Nt.Wn{t:Nt}{c:Ch}{i:Nat}{d:Nd}(h:t.ds[i]? =some d):(t.wds c)[i]? =some ((d.go (Nz c.ticks i)).1.send t.steps (Nz c.send i)).2.1:=by
 unfold Nt.wds;rw[List.getElem?_mapIdx,Nt.Ap2 h];rfl
theorem Nt.gK{t:Nt}{c:Ch}{i:Nat}{d:Nd}(h:t.ds[i]? =some d):(t.d3 c)[i]? =some (X9 (t.wds c) c.hear (t.We c) i ((d.go (Nz c.ticks i)).1.send t.steps (Nz c.send i)).1):=by
 unfold Nt.d3;rw[List.getElem?_mapIdx,Nt.Af5 h];rfl
theorem Nt.Aj1(t:Nt)(c:Ch):(t.d1 c).length=t.ds.length:=by unfold Nt.d1;exact List.length_mapIdx
theorem Nt.Aqi(t:Nt)(c:Ch):(t.d2 c).length=t.ds.length:=by unfold Nt.d2;rw[List.length_mapIdx,Nt.Aj1]
theorem Nt.Akp(t:Nt)(c:Ch):(t.wds c).length=t.ds.length:=by unfold Nt.wds;rw[List.length_mapIdx,Nt.Aj1]
theorem Nt.Abs(t:Nt)(c:Ch):(t.d3 c).length=t.ds.length:=by unfold Nt.d3;rw[List.length_mapIdx,Nt.Aqi]
theorem Nt.Aki(t:Nt)(c:Ch):(t.We c).length=t.ds.length:=by unfold Nt.We;rw[List.length_map,List.length_range]
theorem Nt.aY{t:Nt}{c:Ch}{i:Nat}(h:i<t.ds.length):(t.We c)[i]? =some (xH (t.Ue c) (t.S9 c) c.lost i (t.near.getD i 0&&&t.Ue c)):=by
 unfold Nt.We;rw[List.getElem?_map,List.getElem?_range h];rfl
theorem Aur(ws:List (List Fr))(hs:List Int)(es:List (Int×Int))(i:Nat)(d:Nd):(X9 ws hs es i d).yG=d.yG:=by
 unfold X9;split;exact Am1 _ _ _;rfl
theorem U7.hrd{d:Nd}(h:U7 d)(ws:List (List Fr))(hs:List Int)(es:List (Int×Int))(i:Nat):U7 (X9 ws hs es i d):=by
 unfold X9;split;exact U7.Jw _ _ h;exact h
theorem Nt.Akg{t:Nt}{c:Ch}{i:Nat}{d d':Nd}(h:t.ds[i]? =some d)(h':(t.d3 c)[i]? =some d')(k:U7 d):d'.yG=d.yG∧U7 d':=by
 rw[Nt.gK h] at h'
 injection h' with h'
 subst h'
 exact⟨(Aur _ _ _ _ _).trans ((Abh _ _ _).trans (Aj9 _ _)),((k.go _).send _ _).hrd _ _ _ _⟩
theorem Ql.Ue{t:Nt}(h:Ql t)(c:Ch):t.Ue c<18446744073709551616:=xG _ _ h.rng.2.1
theorem Ql.S9{t:Nt}(h:Ql t)(c:Ch):t.S9 c<18446744073709551616:=xG _ _ h.rng.2.1
theorem Ql.step{t:Nt}(h:Ql t)(c:Ch):Ql (t.step c).1:=by
 unfold Nt.step
 split
 ·exact h
 ·refine⟨h.s,by show(t.d3 c).length=_;rw[Nt.Abs];exact h.len,λi d hd=>?_,by show t.near.length=(t.d3 c).length;rw[Nt.Abs];exact h.nl,h.nb,h.Ue c,by show(t.We c).length≤64;rw[Nt.Aki];exact h.rng.2.1⟩
  have hd:(t.d3 c)[i]? =some d:=hd
  have hi:i<t.ds.length:=by have:=(List.getElem?_eq_some_iff.1 hd).1;rwa [Nt.Abs] at this
  obtain⟨x,hx⟩:=h.at hi
  obtain⟨e,k⟩:=Nt.Akg hx hd (h.nd i x hx).1
  exact⟨k,(nM e).trans (h.nd i x hx).2⟩
theorem Nt.idle{t:Nt}{c:Ch}(h: ∀(i:Nat) (d:Nd),t.ds[i]? =some d→d.on=false):t.d1 c=t.ds∧t.d2 c=t.ds∧t.Ue c=0∧t.d3 c=t.ds∧ ∀e∈t.We c,e=((-1,0):Int×Int):=by
 have e1:t.d1 c=t.ds:=xI λi d hd=>by rw[Amz (h i d hd)]
 have e2:t.d2 c=t.ds:=by
  unfold Nt.d2
  rw[e1]
  exact xI λi d hd=>by rw[Aga (h i d hd)]
 have ew: ∀i,((t.wds c).getD i []).isEmpty=true:=λi=>by
  rw[List.getD_eq_getElem?_getD]
  cases hd:t.ds[i]? with
  |none=>
   have:(t.wds c)[i]? =none:=by
    rw[List.getElem?_eq_none_iff] at hd⊢
    rwa [Nt.Akp]
   rw[this];rfl
  |some d=>
   rw[Nt.Wn hd,Amz (h i d hd),Aga (h i d hd)];rfl
 have e3:t.Ue c=0:=Ahy _ λj _=>by rw[ew];rfl
 have e5: ∀e∈t.We c,e=((-1,0):Int×Int):=λe he=>by
  unfold Nt.We at he
  obtain⟨i,_,rfl⟩:=List.mem_map.1 he
  rw[e3,Nat.and_zero]
  rfl
 have e4:t.d3 c=t.ds:=by
  unfold Nt.d3
  rw[e2]
  refine xI λi d hd=>?_
  have hi:=(List.getElem?_eq_some_iff.1 hd).1
  have hq:=Nt.aY (c:=c) hi
  have hv:=e5 _ (List.mem_of_getElem? hq)
  unfold X9
  rw[List.getD_eq_getElem?_getD,hq,hv]
  rfl
 exact⟨e1,e2,e3,e4,e5⟩
theorem Ak9{d:Nd}{step j:Int}(h:(d.send step j).2.1≠[]):d.on=true∧miG d.s.rnd d.s.own step=true:=by
 cases hon:d.on with
 |false=>rw[Aga hon] at h;exact absurd rfl h
 |true=>
  refine⟨rfl,?_⟩
  unfold Nd.send at h
  split at h
  ·exact absurd rfl h
  split at h
  ·exact absurd rfl h
  ·rename_i q;simpa using q
theorem Nt.Asd{t:Nt}{c:Ch}{i:Nat}(h:(t.Ue c).testBit i=true): ∃d,t.ds[i]? =some d∧((d.go (Nz c.ticks i)).1.send t.steps (Nz c.send i)).2.1≠[]:=by
 unfold Nt.Ue at h
 rw[Ws] at h
 simp only[Bool.and_eq_true,decide_eq_true_eq,Bool.not_eq_true'] at h
 obtain⟨d,hd⟩: ∃d,t.ds[i]? =some d:=⟨_,List.getElem?_eq_getElem h.1⟩
 refine⟨d,hd,λe=>?_⟩
 rw[List.getD_eq_getElem?_getD,Nt.Wn hd,e] at h
 exact absurd h.2 (by decide)
theorem Ap5{send S9:Nat}{lost:List Nat}{i:Nat}{f g:Int}(h:Anz send S9 lost i f=(g,1)):g=f∧0≤f∧send.testBit i=false∧S9.testBit i=true:=by
 unfold Anz at h
 split at h
 ·injection h with _ h;cases h
 rename_i ns
 split at h
 ·injection h with _ h;cases h
 rename_i na
 split at h
 ·injection h with _ h;cases h
 rename_i nf
 split at h
 ·injection h with _ h;cases h
 injection h with h _
 exact⟨h.symm,by omega,by simpa using ns,by simpa using na⟩
theorem Apk{send S9:Nat}{lost:List Nat}{i near:Nat}{f:Int}(hl:near<18446744073709551616)(h:xH send S9 lost i near=(f,1)): ∃k:Nat,f=(k:Int)∧k<64∧near.testBit k=true∧send.testBit i=false∧S9.testBit i=true:=by
 unfold xH at h
 split at h
 ·injection h with _ h;cases h
 rename_i n0
 obtain⟨e,f0,hs,ha⟩:=Ap5 h
 unfold Aau at e f0
 by_cases c:near&&&(near-1)=0
 ·rw[if_pos c] at e
  obtain⟨b1,b2⟩:=Akd n0 hl
  exact⟨_,e,b2,b1,hs,ha⟩
 ·rw[if_neg c] at f0
  exact absurd f0 (by decide)
theorem Nt.heard{t:Nt}{c:Ch}(g:Ql t){i:Nat}{f:Int}(hi:i<t.ds.length)(h:(t.We c)[i]? =some (f,1)):
  ∃k:Nat,f=(k:Int)∧k<t.ds.length∧(t.near.getD i 0).testBit k=true∧(t.Ue c).testBit k=true∧(t.Ue c).testBit i=false∧ ∃d,t.ds[i]? =some d∧d.on=true:=by
 rw[Nt.aY hi] at h
 injection h with h
 obtain⟨k,ek,kl,kb,hs,ha⟩:=Apk (Nat.lt_of_le_of_lt Nat.and_le_right (g.Ue c)) h
 rw[Nat.testBit_and,Bool.and_eq_true] at kb
 obtain⟨d,hd,hn⟩:=Nt.Asd kb.2
 refine⟨k,ek,(List.getElem?_eq_some_iff.1 hd).1,kb.1,kb.2,hs,?_⟩
 unfold Nt.S9 at ha
 rw[Ws,Bool.and_eq_true] at ha
 obtain⟨x,hx⟩:=g.at hi
 refine⟨x,hx,?_⟩
 have ha:=ha.2
 unfold bW at ha
 rw[Nt.Af5 hx] at ha
 cases hon:x.on with
 |true=>rfl
 |false=>
  have e:((x.go (Nz c.ticks i)).1.send t.steps (Nz c.send i)).1.on=false:=by
   rw[Ajl ((Abh _ _ _).trans (Aj9 _ _))];exact hon
  have ha:((x.go (Nz c.ticks i)).1.send t.steps (Nz c.send i)).1.S9=true:=ha
  rw[Ajv e] at ha
  cases ha
theorem Air{d:Nd}{j:Int}{xs:List Nat}{e:Int}(h:Xg xs=.error e)(he:e≠0):(d.hear j xs).1=d∧(d.hear j xs).2≠0:=by
 unfold Nd.hear
 split
 ·rename_i c;exact⟨rfl,c⟩
 ·rw[h];exact⟨rfl,he⟩
theorem Atx{xs:List Nat}{e:Int}(hd:Xg xs=.error e):e≠0:=by
 intro e0
 unfold Xg at hd
 subst e0
 split at hd
 ·cases hd
 split at hd
 ·cases hd
 split at hd
 ·cases hd
 split at hd
 ·cases hd
 split at hd
 ·cases hd
 ·cases hd
end Go.Proofs.YticgocmhmffneaaGreatDoor
