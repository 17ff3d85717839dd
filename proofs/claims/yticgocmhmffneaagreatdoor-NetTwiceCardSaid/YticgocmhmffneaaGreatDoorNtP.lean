import Derived.Test.YticgocmhmffneaaGreatDoorMtA
namespace Go.Proofs.YticgocmhmffneaaGreatDoor
open Go Go.Eng
set_option linter.unusedSimpArgs false
set_option linter.unusedVariables false
set_option maxRecDepth 100000
set_option maxHeartbeats 8000000
theorem Nt.Abs{t:Nt}{c:Ch}{i:Nat}{d:Nd}(h:t.ds[i]? =some d):(t.d1 c)[i]? =some (d.go (Nl c.ticks i)).1:=by
  unfold Nt.d1;rw[List.getElem?_mapIdx,h];rfl
theorem Nt.Aav{t:Nt}{c:Ch}{i:Nat}{d:Nd}(h:t.ds[i]? =some d):(t.d2 c)[i]? =some ((d.go (Nl c.ticks i)).1.send t.steps (Nl c.send i)).1:=by
  unfold Nt.d2;rw[List.getElem?_mapIdx,Nt.Abs h];rfl
theorem Nt.fH{t:Nt}{c:Ch}{i:Nat}{d:Nd}(h:t.ds[i]? =some d):(t.wds c)[i]? =some ((d.go (Nl c.ticks i)).1.send t.steps (Nl c.send i)).2.1:=by
  unfold Nt.wds;rw[List.getElem?_mapIdx,Nt.Abs h];rfl
theorem Nt.Akg{t:Nt}{c:Ch}{i:Nat}{d:Nd}(h:t.ds[i]? =some d):(t.d3 c)[i]? =some (dJ (t.wds c) c.hear (t.U8 c) i ((d.go (Nl c.ticks i)).1.send t.steps (Nl c.send i)).1):=by
  unfold Nt.d3;rw[List.getElem?_mapIdx,Nt.Aav h];rfl
theorem Nt.Aa3(t:Nt)(c:Ch):(t.d1 c).length=t.ds.length:=by unfold Nt.d1;exact List.length_mapIdx
theorem Nt.Ab6(t:Nt)(c:Ch):(t.d2 c).length=t.ds.length:=by unfold Nt.d2;rw[List.length_mapIdx,Nt.Aa3]
theorem Nt.oQ(t:Nt)(c:Ch):(t.d3 c).length=t.ds.length:=by unfold Nt.d3;rw[List.length_mapIdx,Nt.Ab6]
theorem Nt.uC(t:Nt)(c:Ch):(t.U8 c).length=t.ds.length:=by unfold Nt.U8;rw[List.length_map,List.length_range]
theorem Nt.sJ{t:Nt}{c:Ch}{i:Nat}(h:i<t.ds.length):(t.U8 c)[i]? =some (Zz (t.Q4 c) (t.Nu c) c.lost i (t.near.getD i 0&&&t.Q4 c)):=by
  unfold Nt.U8;rw[List.getElem?_map,List.getElem?_range h];rfl
theorem Akn(ws:List (List Fr))(hs:List Int)(es:List (Int×Int))(i:Nat)(d:Nd):(dJ ws hs es i d).bF=d.bF:=by
  unfold dJ;split;exact wB _ _ _;rfl
theorem O9.hrd{d:Nd}(h:O9 d)(ws:List (List Fr))(hs:List Int)(es:List (Int×Int))(i:Nat):O9 (dJ ws hs es i d):=by
  unfold dJ;split;exact O9.Lt _ _ h;exact h
theorem Nt.Ae5{t:Nt}{c:Ch}{i:Nat}{d d':Nd}(h:t.ds[i]? =some d)(h':(t.d3 c)[i]? =some d')(k:O9 d):d'.bF=d.bF∧O9 d':=by
  rw[Nt.Akg h] at h'
  injection h' with h'
  subst h'
  exact⟨(Akn _ _ _ _ _).trans ((nX _ _ _).trans (Akf _ _)),((k.go _).send _ _).hrd _ _ _ _⟩
theorem Qe.Q4{t:Nt}(h:Qe t)(c:Ch):t.Q4 c<18446744073709551616:=Va _ _ h.lH.2.1
theorem Qe.Nu{t:Nt}(h:Qe t)(c:Ch):t.Nu c<18446744073709551616:=Va _ _ h.lH.2.1
theorem Qe.step{t:Nt}(h:Qe t)(c:Ch):Qe (t.step c).1:=by
  unfold Nt.step
  split
  · exact h
  · refine⟨h.s,by show(t.d3 c).length=_;rw[Nt.oQ];exact h.len,fun i d hd=>?_,by show t.near.length=(t.d3 c).length;rw[Nt.oQ];exact h.nl,h.nb,h.Q4 c,by show(t.U8 c).length≤64;rw[Nt.uC];exact h.lH.2.1⟩
    have hd:(t.d3 c)[i]? =some d:=hd
    have hi:i<t.ds.length:=by have:=(List.getElem?_eq_some_iff.1 hd).1;rwa [Nt.oQ] at this
    obtain⟨x,hx⟩:=h.at hi
    obtain⟨e,k⟩:=Nt.Ae5 hx hd (h.nd i x hx).1
    exact⟨k,(Ws e).trans (h.nd i x hx).2⟩
theorem Nt.Ae4{t:Nt}{c:Ch}{i:Nat}(h:(t.Q4 c).testBit i=true): ∃d,t.ds[i]? =some d∧((d.go (Nl c.ticks i)).1.send t.steps (Nl c.send i)).2.1≠[]:=by
  unfold Nt.Q4 at h
  rw[dL] at h
  simp only[Bool.and_eq_true,decide_eq_true_eq,Bool.not_eq_true'] at h
  obtain⟨d,hd⟩: ∃d,t.ds[i]? =some d:=⟨_,List.getElem?_eq_getElem h.1⟩
  refine⟨d,hd,fun e=>?_⟩
  rw[List.getD_eq_getElem?_getD,Nt.fH hd,e] at h
  exact absurd h.2 (by decide)
theorem yS{send Nu:Nat}{lost:List Nat}{i:Nat}{f g:Int}(h:Afk send Nu lost i f=(g,1)):g=f∧0≤f∧send.testBit i=false∧Nu.testBit i=true:=by
  unfold Afk at h
  split at h
  · injection h with _ h;cases h
  rename_i ns
  split at h
  · injection h with _ h;cases h
  rename_i na
  split at h
  · injection h with _ h;cases h
  rename_i nf
  split at h
  · injection h with _ h;cases h
  injection h with h _
  exact⟨h.symm,by omega,by simpa using ns,by simpa using na⟩
theorem Abz{send Nu:Nat}{lost:List Nat}{i near:Nat}{f:Int}(hl:near<18446744073709551616)(h:Zz send Nu lost i near=(f,1)): ∃k:Nat,f=(k:Int)∧k<64∧near.testBit k=true∧send.testBit i=false∧Nu.testBit i=true:=by
  unfold Zz at h
  split at h
  · injection h with _ h;cases h
  rename_i n0
  obtain⟨e,f0,hs,ha⟩:=yS h
  unfold V9 at e f0
  by_cases c:near&&&(near-1)=0
  · rw[if_pos c] at e
    obtain⟨b1,b2⟩:=rP n0 hl
    exact⟨_,e,b2,b1,hs,ha⟩
  · rw[if_neg c] at f0
    exact absurd f0 (by decide)
theorem Nt.heard{t:Nt}{c:Ch}(g:Qe t){i:Nat}{f:Int}(hi:i<t.ds.length)(h:(t.U8 c)[i]? =some (f,1)):
    ∃k:Nat,f=(k:Int)∧k<t.ds.length∧(t.near.getD i 0).testBit k=true∧(t.Q4 c).testBit k=true∧(t.Q4 c).testBit i=false∧ ∃d,t.ds[i]? =some d∧d.on=true:=by
  rw[Nt.sJ hi] at h
  injection h with h
  obtain⟨k,ek,kl,kb,hs,ha⟩:=Abz (Nat.lt_of_le_of_lt Nat.and_le_right (g.Q4 c)) h
  rw[Nat.testBit_and,Bool.and_eq_true] at kb
  obtain⟨d,hd,hn⟩:=Nt.Ae4 kb.2
  refine⟨k,ek,(List.getElem?_eq_some_iff.1 hd).1,kb.1,kb.2,hs,?_⟩
  unfold Nt.Nu at ha
  rw[dL,Bool.and_eq_true] at ha
  obtain⟨x,hx⟩:=g.at hi
  refine⟨x,hx,?_⟩
  have ha:=ha.2
  unfold Q3 at ha
  rw[Nt.Aav hx] at ha
  cases hon:x.on with
  |true=>rfl
  |false=>
    have e:((x.go (Nl c.ticks i)).1.send t.steps (Nl c.send i)).1.on=false:=by
      rw[Akd ((nX _ _ _).trans (Akf _ _))];exact hon
    have ha:((x.go (Nl c.ticks i)).1.send t.steps (Nl c.send i)).1.Nu=true:=ha
    rw[Ajv e] at ha
    cases ha
end Go.Proofs.YticgocmhmffneaaGreatDoor
