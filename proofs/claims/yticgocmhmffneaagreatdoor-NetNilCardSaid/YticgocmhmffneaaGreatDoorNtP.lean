import Derived.Test.YticgocmhmffneaaGreatDoorMtA
namespace Go.Proofs.YticgocmhmffneaaGreatDoor
open Go Go.Eng
set_option linter.unusedSimpArgs false
set_option linter.unusedVariables false
set_option maxRecDepth 100000
set_option maxHeartbeats 8000000
theorem Nt.Sc{t:Nt}{c:Ch}{i:Nat}{d:Nd}(h:t.ds[i]? =some d):(t.d1 c)[i]? =some (d.go (Eu c.ticks i)).1:=by
  unfold Nt.d1;rw[List.getElem?_mapIdx,h];rfl
theorem Nt.Sn{t:Nt}{c:Ch}{i:Nat}{d:Nd}(h:t.ds[i]? =some d):(t.d2 c)[i]? =some ((d.go (Eu c.ticks i)).1.send t.steps (Eu c.send i)).1:=by
  unfold Nt.d2;rw[List.getElem?_mapIdx,Nt.Sc h];rfl
theorem Nt.Mf{t:Nt}{c:Ch}{i:Nat}{d:Nd}(h:t.ds[i]? =some d):(t.Wo c)[i]? =some ((d.go (Eu c.ticks i)).1.send t.steps (Eu c.send i)).2.1:=by
  unfold Nt.Wo;rw[List.getElem?_mapIdx,Nt.Sc h];rfl
theorem Nt.dW{t:Nt}{c:Ch}{i:Nat}{d:Nd}(h:t.ds[i]? =some d):(t.d3 c)[i]? =some (Me (t.Wo c) c.hear (t.Ju c) i ((d.go (Eu c.ticks i)).1.send t.steps (Eu c.send i)).1):=by
  unfold Nt.d3;rw[List.getElem?_mapIdx,Nt.Sn h];rfl
theorem Nt.Tm(t:Nt)(c:Ch):(t.d1 c).length=t.ds.length:=by unfold Nt.d1;exact List.length_mapIdx
theorem Nt.Ta(t:Nt)(c:Ch):(t.d2 c).length=t.ds.length:=by unfold Nt.d2;rw[List.length_mapIdx,Nt.Tm]
theorem Nt.Oe(t:Nt)(c:Ch):(t.d3 c).length=t.ds.length:=by unfold Nt.d3;rw[List.length_mapIdx,Nt.Ta]
theorem Nt.O9(t:Nt)(c:Ch):(t.Ju c).length=t.ds.length:=by unfold Nt.Ju;rw[List.length_map,List.length_range]
theorem Nt.Oy{t:Nt}{c:Ch}{i:Nat}(h:i<t.ds.length):(t.Ju c)[i]? =some (Lb (t.Gx c) (t.Fc c) c.lost i (t.near.getD i 0&&&t.Gx c)):=by
  unfold Nt.Ju;rw[List.getElem?_map,List.getElem?_range h];rfl
theorem fE(ws:List (List Fr))(hs:List Int)(es:List (Int×Int))(i:Nat)(d:Nd):(Me ws hs es i d).Lg=d.Lg:=by
  unfold Me;split;exact Ql _ _ _;rfl
theorem F3.hrd{d:Nd}(h:F3 d)(ws:List (List Fr))(hs:List Int)(es:List (Int×Int))(i:Nat):F3 (Me ws hs es i d):=by
  unfold Me;split;exact F3.Ep _ _ h;exact h
theorem Nt.Wm{t:Nt}{c:Ch}{i:Nat}{d d':Nd}(h:t.ds[i]? =some d)(h':(t.d3 c)[i]? =some d')(k:F3 d):d'.Lg=d.Lg∧F3 d':=by
  rw[Nt.dW h] at h'
  injection h' with h'
  subst h'
  exact⟨(fE _ _ _ _ _).trans ((Np _ _ _).trans (dJ _ _)),((k.go _).send _ _).hrd _ _ _ _⟩
theorem Gi.Gx{t:Nt}(h:Gi t)(c:Ch):t.Gx c<18446744073709551616:=Jz _ _ h.Na.2.1
theorem Gi.Fc{t:Nt}(h:Gi t)(c:Ch):t.Fc c<18446744073709551616:=Jz _ _ h.Na.2.1
theorem Gi.step{t:Nt}(h:Gi t)(c:Ch):Gi (t.step c).1:=by
  unfold Nt.step
  split
  · exact h
  · refine⟨h.s,by show(t.d3 c).length=_;rw[Nt.Oe];exact h.len,fun i d hd=>?_,by show t.near.length=(t.d3 c).length;rw[Nt.Oe];exact h.nl,h.nb,h.Gx c,by show(t.Ju c).length≤64;rw[Nt.O9];exact h.Na.2.1⟩
    have hd:(t.d3 c)[i]? =some d:=hd
    have hi:i<t.ds.length:=by have:=(List.getElem?_eq_some_iff.1 hd).1;rwa [Nt.Oe] at this
    obtain⟨x,hx⟩:=h.at hi
    obtain⟨e,k⟩:=Nt.Wm hx hd (h.nd i x hx).1
    exact⟨k,(K4 e).trans (h.nd i x hx).2⟩
theorem Nt.Wn{t:Nt}{c:Ch}{i:Nat}(h:(t.Gx c).testBit i=true): ∃d,t.ds[i]? =some d∧((d.go (Eu c.ticks i)).1.send t.steps (Eu c.send i)).2.1≠[]:=by
  unfold Nt.Gx at h
  rw[Lv] at h
  simp only[Bool.and_eq_true,decide_eq_true_eq,Bool.not_eq_true'] at h
  obtain⟨d,hd⟩: ∃d,t.ds[i]? =some d:=⟨_,List.getElem?_eq_getElem h.1⟩
  refine⟨d,hd,fun e=>?_⟩
  rw[List.getD_eq_getElem?_getD,Nt.Mf hd,e] at h
  exact absurd h.2 (by decide)
theorem Rm{send Fc:Nat}{lost:List Nat}{i:Nat}{f g:Int}(h:V4 send Fc lost i f=(g,1)):g=f∧0≤f∧send.testBit i=false∧Fc.testBit i=true:=by
  unfold V4 at h
  split at h
  · injection h with _ h;cases h
  rename_i ns
  split at h
  · injection h with _ h;cases h
  rename_i na
  split at h
  · injection h with _ h;cases h
  rename_i nf
  split at h
  · injection h with _ h;cases h
  injection h with h _
  exact⟨h.symm,by omega,by simpa using ns,by simpa using na⟩
theorem Rv{send Fc:Nat}{lost:List Nat}{i near:Nat}{f:Int}(hl:near<18446744073709551616)(h:Lb send Fc lost i near=(f,1)): ∃k:Nat,f=(k:Int)∧k<64∧near.testBit k=true∧send.testBit i=false∧Fc.testBit i=true:=by
  unfold Lb at h
  split at h
  · injection h with _ h;cases h
  rename_i n0
  obtain⟨e,f0,hs,ha⟩:=Rm h
  unfold Ke at e f0
  by_cases c:near&&&(near-1)=0
  · rw[if_pos c] at e
    obtain⟨b1,b2⟩:=O0 n0 hl
    exact⟨_,e,b2,b1,hs,ha⟩
  · rw[if_neg c] at f0
    exact absurd f0 (by decide)
theorem Nt.heard{t:Nt}{c:Ch}(g:Gi t){i:Nat}{f:Int}(hi:i<t.ds.length)(h:(t.Ju c)[i]? =some (f,1)):
    ∃k:Nat,f=(k:Int)∧k<t.ds.length∧(t.near.getD i 0).testBit k=true∧(t.Gx c).testBit k=true∧(t.Gx c).testBit i=false∧ ∃d,t.ds[i]? =some d∧d.on=true:=by
  rw[Nt.Oy hi] at h
  injection h with h
  obtain⟨k,ek,kl,kb,hs,ha⟩:=Rv (Nat.lt_of_le_of_lt Nat.and_le_right (g.Gx c)) h
  rw[Nat.testBit_and,Bool.and_eq_true] at kb
  obtain⟨d,hd,hn⟩:=Nt.Wn kb.2
  refine⟨k,ek,(List.getElem?_eq_some_iff.1 hd).1,kb.1,kb.2,hs,?_⟩
  unfold Nt.Fc at ha
  rw[Lv,Bool.and_eq_true] at ha
  obtain⟨x,hx⟩:=g.at hi
  refine⟨x,hx,?_⟩
  have ha:=ha.2
  unfold Gr at ha
  rw[Nt.Sn hx] at ha
  cases hon:x.on with
  |true=>rfl
  |false=>
    have e:((x.go (Eu c.ticks i)).1.send t.steps (Eu c.send i)).1.on=false:=by
      rw[dH ((Np _ _ _).trans (dJ _ _))];exact hon
    have ha:((x.go (Eu c.ticks i)).1.send t.steps (Eu c.send i)).1.Fc=true:=ha
    rw[Ajv e] at ha
    cases ha
end Go.Proofs.YticgocmhmffneaaGreatDoor
