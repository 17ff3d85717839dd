import Derived.Test.YticgocmhmffneaaGreatDoorCflo
namespace Go.Proofs.YticgocmhmffneaaGreatDoor
open Go.Eng Go Tryz
open Go.IntKind (wrap)
set_option linter.unusedSimpArgs false
set_option linter.unusedVariables false
set_option maxRecDepth 100000
set_option maxHeartbeats 8000000
structure So where
  limit:Int
  e:E3
  root:Int
  boot:Int
  age:Int
  has:Bool
def Tf(s:So):List Value:=[iV s.limit,iV s.e.1,iV s.e.2.1,iV s.e.2.2,iV s.root,uV s.boot,iV s.age,.bool s.has]
def dZ(e:E3):Bool:=decide (0≤e.1)&&decide (e.1≤1125899906842624)&&decide (-1125899906842624≤e.2.1)&&decide (e.2.1≤1125899906842624)&&decide (1≤e.2.2)&&decide (e.2.2≤63)
theorem Ad1{e:E3}:dZ e=true↔0≤e.1∧e.1≤1125899906842624∧ -1125899906842624≤e.2.1∧e.2.1≤1125899906842624∧1≤e.2.2∧e.2.2≤63:=by unfold dZ;simp[and_assoc]
theorem C9.cl'{e:E3}{w:World}{k:TR [(false,[.b])]→WP}(h: ∀w',Af w w'→k ((dZ e,()),()) w'):Ae prog F.C9 [.agg #[iV e.1,iV e.2.1,iV e.2.2]] w false [(false,[.b])] k:=by
  refine C9.ok ?_
  unfold C9.wp
  refine Ad fun p1 w2 e1 k1 u1=>?_
  have key: ∀b:Bool,(b=true↔0≤e.1∧e.1≤1125899906842624∧ -1125899906842624≤e.2.1∧e.2.1≤1125899906842624∧1≤e.2.2∧e.2.2≤63)→k ((b,()),()) w2:=fun b hb=>by
    have:b=dZ e:=by rw[Bool.eq_iff_iff,hb,Ad1]
    rw[this];exact h w2 u1
  refine k1.i0 rfl (Dx (fun c1=>k1.i0 rfl (Dx (fun c2=>k1.i1 1 rfl (Dx (fun c3=>k1.i1 1 rfl (Dx (fun c4=>k1.i1 2 rfl (Dx (fun c5=>k1.i1 2 rfl (key _ ?_)) fun c5=>key _ ?_)) fun c4=>key _ ?_)) fun c3=>key _ ?_)) fun c2=>key _ ?_)) fun c1=>key _ ?_)<;>((try replace c1:e.1≥0:=c1);(try replace c1: ¬e.1≥0:=c1);(try replace c2:e.1≤1125899906842624:=c2);(try replace c2: ¬e.1≤1125899906842624:=c2);(try replace c3:e.2.1≥ -1125899906842624:=c3);(try replace c3: ¬e.2.1≥ -1125899906842624:=c3);(try replace c4:e.2.1≤1125899906842624:=c4);(try replace c4: ¬e.2.1≤1125899906842624:=c4);(try replace c5:e.2.2≥1:=c5);(try replace c5: ¬e.2.2≥1:=c5);(try show decide (e.2.2≤63)=true↔_);simp;omega)
theorem Vm.cl{limit:Int}{w:World}{k:TR [(false,[.p]),(false,[KI])]→WP}
    (h0:(limit<1∨limit>1000)→k ((none,()),(1,()),()) w)
    (h1:1≤limit→limit≤1000→ ∀b w',w.heap.size≤b→Az w' b (Tf ⟨limit,(0,0,0),0,0,0,false⟩)→Af w w'→k ((some ⟨b,0,none⟩,()),(0,()),()) w'):
    Ae prog F.Vm [iV limit] w true [(false,[.p]),(false,[KI])] k:=by
  refine Vm.ok ?_
  unfold Vm.wp
  refine Dx (fun c=>h0 (.inl c)) fun c1=>Dx (fun c=>h0 (.inr c)) fun c2=>?_
  have c1: ¬limit<1:=c1
  have c2: ¬limit>1000:=c2
  exact Ad fun b w2 e k1 u1=>h1 (by omega) (by omega) b w2 (by omega) k1 u1
def fM(e:E3)(root:Int):Bool:=dZ e&&decide (0≤root)&&decide (root<64)
theorem iP{e:E3}{r:Int}:fM e r=true↔dZ e=true∧0≤r∧r<64:=by unfold fM;simp[and_assoc]
theorem Je.cl{b:Nat}{s:So}{e:E3}{root boot:Int}{w:World}(hB:Az w b (Tf s)){k:TR [(false,[KI])]→WP}
    (h0:fM e root=false→ ∀w',Af w w'→k ((1,()),()) w')
    (h1:fM e root=true→ ∀w',Az w' b (Tf {s with e:=e,root:=root,boot:=boot,age:=0,has:=true})→Am (fun x=>x=b) w w'→k ((0,()),()) w'):
    Ae prog F.Je [.pointer (some ⟨b,0,none⟩),.agg #[iV e.1,iV e.2.1,iV e.2.2],.agg #[iV root,uV boot]] w false [(false,[KI])] k:=by
  refine Je.ok ?_
  unfold Je.wp
  refine Ad fun p1 w2 e1 k1 u1=>Ad fun p3 w4 e3 k3 u3=>Jl rfl ((k1.Ai u3).bC (C9.cl' fun w7 u7=>?_))
  have g7:=(u1.trans u3).trans u7
  have no:(dZ e=true→0≤root→root<64→False)→fM e root=false:=fun h=>by
    cases hp:fM e root
    · rfl
    · obtain⟨a,b,c⟩:=iP.1 hp;exact(h a b c).elim
  refine Ee (fun c=>h0 (no fun x _ _=>by have c:dZ e=false:=c;rw[c] at x;cases x) w7 g7) fun c0=>?_
  have c0:dZ e=true:=c0
  have q1:=(k1.Ai u3).Ai u7
  have q3:=k3.Ai u7
  refine q3.i0 rfl (Dx (fun c=>h0 (no fun _ x _=>by have c:root<0:=c;omega) w7 g7) fun c1=>q3.i0 rfl (Dx (fun c=>h0 (no fun _ _ x=>by have c:root≥64:=c;omega) w7 g7) fun c2=>?_))
  have c1: ¬root<0:=c1
  have c2: ¬root≥64:=c2
  rw[Be]
  have lb:=hB.lt
  refine q1.drew.bC (q3.drew.cA (cs:=[KI,KU]) (root,boot,()) rfl ?_)
  rw[Ac]
  have B7:=(hB.Ai g7).drew
  have n13:b≠p1∧b≠p3:=by have:=u1.size;omega
  refine B7.sN 1 _ (by simp[Tf]) rfl fun w14 k14 u14=>⟨⟨q3.drew.X3 u14 (by omega) 0 0 (by simp),q3.drew.X3 u14 (by omega) 0 1 (by simp),trivial⟩,?_⟩
  rw[Ac]
  refine k14.sN 4 _ (by simp[Tf,splice]) rfl fun w16 k16 u16=>⟨trivial,?_⟩
  rw[Ac]
  refine k16.sN 6 _ (by simp[Tf,splice]) rfl fun w18 k18 u18=>⟨trivial,?_⟩
  rw[Ac]
  refine k18.sN 7 _ (by simp[Tf,splice]) rfl fun w20 k20 u20=>⟨trivial,?_⟩
  refine h1 (iP.2 ⟨c0,by omega,by omega⟩) w20 k20 ?_
  exact Am.trans (Am.trans (Am.trans (Am.trans (Am.Bj (g7.trans (Af.drew _))) u14 fun _ _ h=>h) u16 fun _ _ h=>h) u18 fun _ _ h=>h) u20 fun _ _ h=>h
theorem Fe.cl{b:Nat}{s:So}{w:World}(hB:Az w b (Tf s)){k:TR []→WP}(h: ∀w',Az w' b (Tf ⟨s.limit,(0,0,0),0,0,0,false⟩)→Am (fun x=>x=b) w w'→k () w'):
    Ae prog F.Fe [.pointer (some ⟨b,0,none⟩)] w true [] k:=by
  refine Fe.ok ?_
  unfold Fe.wp
  refine Vt rfl ?_
  rw[Ac]
  refine hB.i0 rfl ?_
  rw[Ac]
  exact hB.Fg _ rfl rfl fun w4 k4 u4=>h w4 k4 u4
theorem Eo.cl{b:Nat}{s:So}{w:World}(hB:Az w b (Tf s))(hh:s.has=true)(ha:0≤s.age∧s.age≤1000){k:TR []→WP}
    (h0:s.age+1≥s.limit→ ∀w',Az w' b (Tf ⟨s.limit,(0,0,0),0,0,0,false⟩)→Am (fun x=>x=b) w w'→k () w')
    (h1:s.age+1<s.limit→ ∀w',Az w' b (Tf {s with age:=s.age+1})→Am (fun x=>x=b) w w'→k () w'):
    Ae prog F.Eo [.pointer (some ⟨b,0,none⟩)] w true [] k:=by
  refine Eo.ok ?_
  unfold Eo.wp
  refine Jl rfl ?_
  rw[Ac]
  refine hB.c1 7 (c:=.b) (x:=s.has) rfl (Jl (by rw[hh];rfl) ?_)
  rw[Ac]
  refine hB.i1 6 rfl ?_
  rw[Ac,Ah (by unfold I64;omega)]
  refine hB.sN 6 _ (by simp[Tf]) rfl fun w6 k6 u6=>?_
  rw[Be,Ac]
  have k6:Az w6 b (Tf {s with age:=s.age+1}):=k6
  refine k6.drew.i1 6 rfl ?_
  rw[Ac]
  refine k6.drew.i0 rfl (Dx (fun c=>?_) fun c=>?_)
  · exact Fe.cl k6.drew fun w13 k13 u13=>h0 c w13 k13 (Am.trans u6.drew u13 fun _ _ h=>h)
  · exact h1 (by have c: ¬s.age+1≥s.limit:=c;omega) _ k6.drew u6.drew
abbrev A5:=Int×Int×Int×Int×Int
abbrev K5:List CK:=[KI,KI,KI,KU,KI]
def cA5(a:A5):List Value:=[iV a.1,iV a.2.1,iV a.2.2.1,uV a.2.2.2.1,iV a.2.2.2.2]
def Yc(a:A5):Jf K5:=(a.1,a.2.1,a.2.2.1,a.2.2.2.1,a.2.2.2.2,())
def uD(s:So)(loc:Int):A5×Int:=
  if s.has=false then((0,0,0,0,0),9)
  else if loc<0∨loc>1125899906842624 then((0,0,0,0,0),8)
  else if wrap .i64 (loc+s.e.2.1)<0∨wrap .i64 (loc+s.e.2.1)>1125899906842624 then((0,0,0,0,0),8)
  else((wrap .i64 (loc+s.e.2.1),s.e.2.2,s.root,s.boot,3),0)
theorem Ar.cl0{b bf be r:Nat}{s:So}{loc:Int}{f:Fl}{q:Sl}{e:El}{l:Um}{es:List E3}{w:World}(hB:Az w b (Tf s))(hF:FlB w bf be r f q e l es)(hs:Xb f e es.length=false)
    {k:TR [(true,K5),(false,[KI])]→WP} (h: ∀w',Af w w'→k (Yc (uD s loc).1,((uD s loc).2,()),()) w'):
    Ae prog F.Ar [.pointer (some ⟨b,0,none⟩),.pointer (some ⟨bf,0,none⟩),iV loc] w true [(true,K5),(false,[KI])] k:=by
  refine Ar.ok ?_
  unfold Ar.wp
  refine Ad fun p1 w2 e1 k1 u1=>?_
  refine Cc.by (fun z w'=>w'=w2∧z.1=false) (Jl rfl ⟨rfl,rfl⟩) ?_
  rintro⟨z,_⟩ _ ⟨rfl,hz⟩ _
  dsimp only at hz
  subst hz
  refine Jl rfl (Ba.cl (hF.Ai u1) fun w9 u9=>Jl hs ?_)
  have B9:=(hB.Ai u1).Ai u9
  have k9:=k1.Ai u9
  have g9:=u1.trans u9
  have out: ∀(a:A5) (c:Int) (w':World),Af w w'→Az w' p1 (cA5 (0,0,0,0,0))→uD s loc=(a,c)→ ∀{P:Prop},(∀w'',Az w'' p1 (cA5 a)→Af w w''→k (Yc a,(c,()),()) w''):=by
    intro a c w' _ _ ht P w'' _ g
    have:=h w'' g
    rw[ht] at this;exact this
  have fin: ∀{w' w'':World},Af w9 w'→Am (fun x=>x=p1) w' w''→Af w w'':=fun g u=>Am.trans (g9.trans g) u fun i hi h=>by omega
  rw[Ac]
  refine B9.c1 7 (c:=.b) (x:=s.has) rfl (Ee (fun c=>?_) fun c=>?_)
  · have c:s.has=false:=c
    refine k9.Fg _ rfl rfl fun w16 k16 u16=>k16.cA (Yc (0,0,0,0,0)) rfl ?_
    have:=h w16 (fin (Af.refl _) u16)
    unfold uD at this;rw[if_pos c] at this;exact this
  have c:s.has=true:=c
  have e0: ¬s.has=false:=by rw[c];simp
  refine Dx (fun c1=>?_) fun c1=>?_
  · have c1:loc<0:=c1
    refine k9.Fg _ rfl rfl fun w16 k16 u16=>k16.cA (Yc (0,0,0,0,0)) rfl ?_
    have:=h w16 (fin (Af.refl _) u16)
    unfold uD at this;rw[if_neg e0,if_pos (.inl c1)] at this;exact this
  refine Dx (fun c2=>?_) fun c2=>?_
  · have c2:loc>1125899906842624:=c2
    refine k9.Fg _ rfl rfl fun w16 k16 u16=>k16.cA (Yc (0,0,0,0,0)) rfl ?_
    have:=h w16 (fin (Af.refl _) u16)
    unfold uD at this;rw[if_neg e0,if_pos (.inr c2)] at this;exact this
  have e1: ¬(loc<0∨loc>1125899906842624):=fun h=>h.elim c1 c2
  rw[Ac]
  refine B9.c2 1 1 (x:=s.e.2.1) rfl ?_
  refine Dx (fun c3=>?_) fun c3=>?_
  · refine k9.Fg _ rfl rfl fun w16 k16 u16=>k16.cA (Yc (0,0,0,0,0)) rfl ?_
    have:=h w16 (fin (Af.refl _) u16)
    unfold uD at this;rw[if_neg e0,if_neg e1,if_pos (.inl c3)] at this;exact this
  refine Dx (fun c4=>?_) fun c4=>?_
  · refine k9.Fg _ rfl rfl fun w16 k16 u16=>k16.cA (Yc (0,0,0,0,0)) rfl ?_
    have:=h w16 (fin (Af.refl _) u16)
    unfold uD at this;rw[if_neg e0,if_neg e1,if_pos (.inr c4)] at this;exact this
  have e2: ¬(wrap .i64 (loc+s.e.2.1)<0∨wrap .i64 (loc+s.e.2.1)>1125899906842624):=fun h=>h.elim c3 c4
  rw[Be,Ac]
  refine B9.drew.c2 1 2 (x:=s.e.2.2) rfl ?_
  rw[Ac]
  refine B9.drew.cN 4 (cs:=[KI,KU]) (s.root,s.boot,()) rfl ?_
  refine k9.drew.Fg _ rfl rfl fun w33 k33 u33=>⟨trivial,k33.cA (Yc (wrap .i64 (loc+s.e.2.1),s.e.2.2,s.root,s.boot,3)) rfl ?_⟩
  have:=h w33 (fin (Af.drew _) u33)
  unfold uD at this;rw[if_neg e0,if_neg e1,if_neg e2] at this;exact this
end Go.Proofs.YticgocmhmffneaaGreatDoor
