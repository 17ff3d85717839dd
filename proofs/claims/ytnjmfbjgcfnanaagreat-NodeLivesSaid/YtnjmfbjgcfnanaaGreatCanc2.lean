import Derived.Test.YtnjmfbjgcfnanaaGreatCanc
namespace Go.Proofs.YtnjmfbjgcfnanaaGreat
open Go.Eng Go Tryz
open Go.IntKind (wrap)
set_option linter.unusedSimpArgs false
set_option linter.unusedVariables false
set_option maxRecDepth 100000
set_option maxHeartbeats 8000000
theorem Qw.cl{b:Nat}{a:A6}{t:Int}{w:World}(hB:Az w b (bk true a))(h0:0≤t)(h1:t≤1125899906842624)(hg:okF (tJ a)=true){k:TR [(true,[KI,KI]),(false,[KI])]→WP}
    (hk: ∀w',Af w w'→k ((a.2.2.2.2.2+(t-a.2.2.2.2.1)/1000,(t-a.2.2.2.2.1)%1000,()),(0,()),()) w'):
    Ae prog F.Qw [.pointer (some ⟨b,0,none⟩),.agg #[iV a.2.2.1,uV a.2.2.2.1],iV t] w true [(true,[KI,KI]),(false,[KI])] k:=by
  refine Qw.ok ?_
  unfold Qw.wp
  have lb:=hB.lt
  unfold okF at hg
  rw[List.all_eq_true] at hg
  have g4:=Rq.1 (hg (8,a.2.2.2.2.1,1125899906842624) (by simp[tJ]))
  have g5:=Rq.1 (hg (8,a.2.2.2.2.2,1125899906842624) (by simp[tJ]))
  dsimp only at g4 g5
  refine Ad fun p1 w2 e1 k1 u1=>Ad fun p3 w4 e3 k3 u3=>Jl rfl ?_
  have g4':=u1.trans u3
  have B4:=hB.Ai g4'
  have q1:=k1.Ai u3
  have l1:=k1.lt
  rw[Ac]
  refine B4.c0 rfl (Jl rfl ?_)
  refine Cc.by (fun z w'=>w'=w4.drew∧z.1=false) ?_ ?_
  · rw[Ap,Ac]
    refine B4.drew.c2 1 2 rfl (q1.drew.c0 rfl (bK (fun h=>absurd rfl h) fun _=>?_))
    rw[Ac]
    exact B4.drew.c2 1 3 rfl (q1.drew.c1 1 rfl ⟨rfl,by simp⟩)
  · rintro⟨z,_⟩ _ ⟨rfl,hz⟩ _
    dsimp only at hz
    subst hz
    refine Jl rfl (Dx (fun c=>absurd (show t<0 from c) (by omega)) fun _=>Dx (fun c=>absurd (show t>1125899906842624 from c) (by omega)) fun _=>?_)
    rw[Ac]
    refine B4.drew.c2 1 4 rfl ?_
    rw[Ah (by unfold I64;omega)]
    refine Oi.cl (by unfold I64;omega) (by unfold I64;omega) fun w30 u30=>?_
    rw[Ac]
    refine(B4.drew.Ai u30).c2 1 5 rfl ?_
    have e:dQ (t-a.2.2.2.2.1) 1000=(t-a.2.2.2.2.1)/1000:=by unfold dQ;rw[if_neg (by decide)]
    have e':jW (t-a.2.2.2.2.1) 1000=(t-a.2.2.2.2.1)%1000:=by unfold jW;rw[if_neg (by decide)]
    dsimp only
    rw[e,e',Ah (by unfold I64;omega)]
    refine(k3.drew.Ai u30).Fg _ rfl rfl fun w33 k33 u33=>k33.ld2 ?_
    exact hk w33 (Am.trans ((Am.drew g4').trans u30 fun _ _ x=>x) u33 fun i hi h=>by have:=u1.size;omega)
theorem Et.cl{b:Nat}{has:Bool}{old:A6}{me tai:Int}{t0 t1 t2 t3 t4:Int}(h3:Xe t3){w:World}(hB:Az w b (bk has old))(hg:okF (tJ (me,wrap .u16 (old.2.1+1),t2,t3,t0,tai))=true)
    {k:TR [(true,K6),(false,[KI])]→WP}
    (hk: ∀w',Az w' b (bk true (me,wrap .u16 (old.2.1+1),t2,t3,t0,tai))→Am (fun z=>z=b) w w'→k (t6 (me,wrap .u16 (old.2.1+1),t2,t3,t0,tai),(0,()),()) w'):
    Ae prog F.Et [.pointer (some ⟨b,0,none⟩),iV me,.agg #[iV t0,iV t1,iV t2,uV t3,iV t4],iV tai] w true [(true,K6),(false,[KI])] k:=by
  refine Et.ok ?_
  unfold Et.wp
  have lb:=hB.lt
  have hU:UA (me,wrap .u16 (old.2.1+1),t2,t3,t0,tai):=⟨by show Xe (wrap .u16 _);rw[oL];unfold Xe;omega,h3⟩
  obtain⟨a,ea⟩: ∃a:A6,a=(me,wrap .u16 (old.2.1+1),t2,t3,t0,tai):=⟨_,rfl⟩
  refine Ad fun p1 w2 e1 k1 u1=>Ad fun p3 w4 e3 k3 u3=>Jl rfl ?_
  have l1:=k1.lt
  have l3:=k3.lt
  have g4:=u1.trans u3
  have B4:=(hB.Ai g4).drew
  have q1:=(k1.Ai u3).drew
  have n:b<p1∧p1<p3:=by omega
  refine Cc.by (fun z w'=>Af w w'∧Af w4 w'∧ ∃pb,z.1=⟨pb,0,none⟩∧w4.heap.size≤pb∧Az w' pb (a6 a)) ?_ ?_
  · rw[Ap,Ac]
    refine B4.c2 1 1 rfl (q1.c1 2 rfl (q1.c2 2 1 rfl (q1.c0 rfl ⟨?_,?_⟩)))
    · refine Qu.cl ⟨⟨q1.hold (Af.refl _) (fun x=>x) 0 (by simp),q1.X3 (Af.refl _) (fun x=>x) 2 1 (by simp),q1.hold (Af.refl _) (fun x=>x) 2 (by simp),B4.X3 (Af.refl _) (fun x=>x) 1 1 (by simp[bk,a6]),trivial⟩,?_⟩
      refine Ad fun p18 w19 e18 k18 u18=>⟨⟨q1.hold u18 (fun x=>x) 0 (by simp),q1.X3 u18 (fun x=>x) 2 1 (by simp),q1.hold u18 (fun x=>x) 2 (by simp),B4.X3 u18 (fun x=>x) 1 1 (by simp[bk,a6]),trivial⟩,?_⟩
      have e18:w4.heap.size=p18:=e18
      subst ea
      refine k18.Fg _ rfl rfl fun w20 k20 u20=>?_
      have f:Af w4 w20:=Am.trans ((Af.drew w4).trans u18) u20 fun i hi h=>by omega
      exact⟨trivial,g4.trans f,f,p18,rfl,by omega,k20⟩
    · refine Ad fun p18 w19 e18 k18 u18=>⟨⟨q1.hold u18 (fun x=>x) 0 (by simp),q1.X3 u18 (fun x=>x) 2 1 (by simp),q1.hold u18 (fun x=>x) 2 (by simp),B4.X3 u18 (fun x=>x) 1 1 (by simp[bk,a6]),trivial⟩,?_⟩
      have e18:w4.heap.size=p18:=e18
      refine Qu.cl ⟨⟨q1.hold u18 (fun x=>x) 0 (by simp),q1.X3 u18 (fun x=>x) 2 1 (by simp),q1.hold u18 (fun x=>x) 2 (by simp),trivial⟩,?_⟩
      subst ea
      refine k18.Fg _ rfl rfl fun w20 k20 u20=>?_
      have f:Af w4 w20:=Am.trans ((Af.drew w4).trans u18) u20 fun i hi h=>by omega
      exact⟨trivial,g4.trans f,f,p18,rfl,by omega,k20⟩
  · rintro⟨z,_⟩ w9 ⟨g9,f9,pb,hz,hpb,kb⟩ _
    dsimp only at hz
    subst hz
    rw[←ea] at hg hU hk
    refine kb.cA (t6 a) rfl (Ej.cl (a:=a) hU fun w28 u28=>Ee (fun c=>absurd (show okF (tJ a)=false from c) (by rw[hg];simp)) fun _=>?_)
    rw[Ap]
    have kb2:=(kb.Ai u28).drew
    have B2:=((hB.Ai g9).Ai u28).drew
    refine kb2.cA (t6 a) rfl ?_
    rw[Ac]
    refine B2.sN0 [.bool true] (by simp[bk]) rfl fun w34 k34 u34=>⟨?_,?_⟩
    · have hne:pb≠b:=by omega
      exact⟨kb2.hold u34 hne 0 (by simp[a6]),kb2.hold u34 hne 1 (by simp[a6]),kb2.hold u34 hne 2 (by simp[a6]),kb2.hold u34 hne 3 (by simp[a6]),kb2.hold u34 hne 4 (by simp[a6]),kb2.hold u34 hne 5 (by simp[a6]),trivial⟩
    rw[Ac]
    refine k34.sN 1 (a6 a) (by simp[bk,a6,splice]) rfl fun w36 k36 u36=>⟨trivial,?_⟩
    refine((kb2.upd u34 (by omega)).upd u36 (by omega)).cA (t6 a) rfl ?_
    have q3:=(((((k3.Ai f9).Ai u28).drew).upd u34 (by omega)).upd u36 (by omega))
    refine q3.Fg (a6 a) rfl rfl fun w38 k38 u38=>k38.cA (t6 a) rfl ?_
    refine hk w38 (k36.upd u38 (by omega)) ?_
    have U:Am (fun z=>z=b) w w36:=(Am.Bj (Am.drew (g9.trans u28))).trans (u34.trans u36 fun _ _ h=>h) fun _ _ h=>h
    exact Am.trans U u38 fun i hi h=>by omega
abbrev Uo:List CK:=[KI,KI,KI,KI,KU,KU,KI,KI,KI,KI,KI,KI,KI,KI]
abbrev kC:=Jf Uo
abbrev vP(x:kC):Value:=.agg #[iV x.1,iV x.2.1,iV x.2.2.1,iV x.2.2.2.1,uV x.2.2.2.2.1,uV x.2.2.2.2.2.1,iV x.2.2.2.2.2.2.1,iV x.2.2.2.2.2.2.2.1,iV x.2.2.2.2.2.2.2.2.1,iV x.2.2.2.2.2.2.2.2.2.1,iV x.2.2.2.2.2.2.2.2.2.2.1,iV x.2.2.2.2.2.2.2.2.2.2.2.1,iV x.2.2.2.2.2.2.2.2.2.2.2.2.1,iV x.2.2.2.2.2.2.2.2.2.2.2.2.2.1]
def UP(x:kC):Prop:=Xe x.2.2.2.2.1∧Xe x.2.2.2.2.2.1
end Go.Proofs.YtnjmfbjgcfnanaaGreat
