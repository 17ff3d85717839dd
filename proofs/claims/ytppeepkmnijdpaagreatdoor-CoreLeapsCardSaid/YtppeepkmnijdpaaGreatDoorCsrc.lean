import Derived.Test.YtppeepkmnijdpaaGreatDoorCflo
namespace Go.Proofs.YtppeepkmnijdpaaGreatDoor
open Go.Eng Go Tryz
open Go.IntKind (wrap)
set_option linter.unusedSimpArgs false
set_option linter.unusedVariables false
set_option maxRecDepth 100000
set_option maxHeartbeats 8000000
structure So where
 limit:Int
 e:E3
 root:Int
 boot:Int
 age:Int
 has:Bool
def soC(s:So):List Value:=[iV s.limit,iV s.e.1,iV s.e.2.1,iV s.e.2.2,iV s.root,uV s.boot,iV s.age,.bool s.has]
def lI(e:E3):Bool:=decide (0≤e.1)&&decide (e.1≤1125899906842624)&&decide (-1125899906842624≤e.2.1)&&decide (e.2.1≤1125899906842624)&&decide (1≤e.2.2)&&decide (e.2.2≤63)
theorem Ahx{e:E3}:lI e=true↔0≤e.1∧e.1≤1125899906842624∧ -1125899906842624≤e.2.1∧e.2.1≤1125899906842624∧1≤e.2.2∧e.2.2≤63:=by unfold lI;simp[and_assoc]
theorem Cj.cl'{e:E3}{w:World}{k:TR [(false,[.b])]→WP}(h: ∀w',Ah w w'→k ((lI e,()),()) w'):Ad prog F.Cj [.agg #[iV e.1,iV e.2.1,iV e.2.2]] w false [(false,[.b])] k:=by
 refine Cj.ok ?_
 refine Ae λp1 w2 e1 k1 u1=>?_
 have key: ∀b:Bool,(b=true↔0≤e.1∧e.1≤1125899906842624∧ -1125899906842624≤e.2.1∧e.2.1≤1125899906842624∧1≤e.2.2∧e.2.2≤63)→k ((b,()),()) w2:=λb hb=>by
  have:b=lI e:=by rw[Bool.eq_iff_iff,hb,Ahx]
  rw[this];exact h w2 u1
 refine k1.i0 rfl (Cf (λc1=>k1.i0 rfl (Cf (λc2=>k1.i1 1 rfl (Cf (λc3=>k1.i1 1 rfl (Cf (λc4=>k1.i1 2 rfl (Cf (λc5=>k1.i1 2 rfl (key _ ?_)) λc5=>key _ ?_)) λc4=>key _ ?_)) λc3=>key _ ?_)) λc2=>key _ ?_)) λc1=>key _ ?_)<;>((try replace c1:e.1≥0:=c1);(try replace c1: ¬e.1≥0:=c1);(try replace c2:e.1≤1125899906842624:=c2);(try replace c2: ¬e.1≤1125899906842624:=c2);(try replace c3:e.2.1≥ -1125899906842624:=c3);(try replace c3: ¬e.2.1≥ -1125899906842624:=c3);(try replace c4:e.2.1≤1125899906842624:=c4);(try replace c4: ¬e.2.1≤1125899906842624:=c4);(try replace c5:e.2.2≥1:=c5);(try replace c5: ¬e.2.2≥1:=c5);(try show decide (e.2.2≤63)=true↔_);simp;omega)
theorem Um.cl{limit:Int}{w:World}{k:TR [(false,[.p]),(false,[KI])]→WP}
  (h0:(limit<1∨limit>1000)→k ((none,()),(1,()),()) w)
  (h1:1≤limit→limit≤1000→ ∀b w',w.heap.size≤b→Ar w' b (soC ⟨limit,(0,0,0),0,0,0,false⟩)→Ah w w'→k ((some ⟨b,0,none⟩,()),(0,()),()) w'):
  Ad prog F.Um [iV limit] w true [(false,[.p]),(false,[KI])] k:=by
 refine Um.ok ?_
 refine Cf (λc=>h0 (.inl c)) λc1=>Cf (λc=>h0 (.inr c)) λc2=>?_
 have c1: ¬limit<1:=c1
 have c2: ¬limit>1000:=c2
 exact Ae λb w2 e k1 u1=>h1 (by omega) (by omega) b w2 (by omega) k1 u1
def tY(e:E3)(root:Int):Bool:=lI e&&decide (0≤root)&&decide (root<64)
theorem xH{e:E3}{r:Int}:tY e r=true↔lI e=true∧0≤r∧r<64:=by unfold tY;simp[and_assoc]
theorem Iy.cl{b:Nat}{s:So}{e:E3}{root boot:Int}{w:World}(hB:Ar w b (soC s)){k:TR [(false,[KI])]→WP}
  (h0:tY e root=false→ ∀w',Ah w w'→k ((1,()),()) w')
  (h1:tY e root=true→ ∀w',Ar w' b (soC {s with e:=e,root:=root,boot:=boot,age:=0,has:=true})→Ap (λx=>x=b) w w'→k ((0,()),()) w'):
  Ad prog F.Iy [.pointer (some ⟨b,0,none⟩),.agg #[iV e.1,iV e.2.1,iV e.2.2],.agg #[iV root,uV boot]] w false [(false,[KI])] k:=by
 refine Iy.ok ?_
 refine Ae λp1 w2 e1 k1 u1=>Ae λp3 w4 e3 k3 u3=>Le rfl ((k1.Ai u3).Xd (Cj.cl' λw7 u7=>?_))
 have g7:=(u1.trans u3).trans u7
 have no:(lI e=true→0≤root→root<64→False)→tY e root=false:=λh=>by
  cases hp:tY e root
  ·rfl
  ·obtain⟨a,b,c⟩:=xH.1 hp;exact(h a b c).elim
 refine En (λc=>h0 (no λx _ _=>by have c:lI e=false:=c;rw[c] at x;cases x) w7 g7) λc0=>?_
 have c0:lI e=true:=c0
 have q1:=(k1.Ai u3).Ai u7
 have q3:=k3.Ai u7
 refine q3.i0 rfl (Cf (λc=>h0 (no λ_ x _=>by have c:root<0:=c;omega) w7 g7) λc1=>q3.i0 rfl (Cf (λc=>h0 (no λ_ _ x=>by have c:root≥64:=c;omega) w7 g7) λc2=>?_))
 have c1: ¬root<0:=c1
 have c2: ¬root≥64:=c2
 rw[Aq]
 have lb:=hB.lt
 refine q1.drew.Xd (q3.drew.cA (cs:=[KI,KU]) (root,boot,()) rfl ?_)
 rw[Ac]
 have B7:=(hB.Ai g7).drew
 have n13:b≠p1∧b≠p3:=by have:=u1.size;omega
 refine B7.sN 1 _ (by first|(simp[soC];done)|exact Nat.le_of_ble_eq_true rfl) rfl λw14 k14 u14=>⟨⟨q3.drew.Zo u14 (by omega) 0 0 (by simp),q3.drew.Zo u14 (by omega) 0 1 (by simp),trivial⟩,?_⟩
 rw[Ac]
 refine k14.sN 4 _ (by simp[soC,splice]) rfl λw16 k16 u16=>⟨trivial,?_⟩
 rw[Ac]
 refine k16.sN 6 _ (by simp[soC,splice]) rfl λw18 k18 u18=>⟨trivial,?_⟩
 rw[Ac]
 refine k18.sN 7 _ (by simp[soC,splice]) rfl λw20 k20 u20=>⟨trivial,?_⟩
 refine h1 (xH.2 ⟨c0,by omega,by omega⟩) w20 k20 ?_
 exact Ap.trans (Ap.trans (Ap.trans (Ap.trans (Ap.Ed (g7.trans (Ah.drew _))) u14 λ_ _ h=>h) u16 λ_ _ h=>h) u18 λ_ _ h=>h) u20 λ_ _ h=>h
theorem Fh.cl{b:Nat}{s:So}{w:World}(hB:Ar w b (soC s)){k:TR []→WP}(h: ∀w',Ar w' b (soC ⟨s.limit,(0,0,0),0,0,0,false⟩)→Ap (λx=>x=b) w w'→k () w'):
  Ad prog F.Fh [.pointer (some ⟨b,0,none⟩)] w true [] k:=by
 refine Fh.ok ?_
 refine We rfl ?_
 rw[Ac]
 refine hB.i0 rfl ?_
 rw[Ac]
 exact hB.E5 _ rfl rfl λw4 k4 u4=>h w4 k4 u4
abbrev A5:=Int×Int×Int×Int×Int
abbrev K5:List CK:=[KI,KI,KI,KU,KI]
def cA5(a:A5):List Value:=[iV a.1,iV a.2.1,iV a.2.2.1,uV a.2.2.2.1,iV a.2.2.2.2]
def dM(a:A5):Ky K5:=(a.1,a.2.1,a.2.2.1,a.2.2.2.1,a.2.2.2.2,())
def tmS(s:So)(loc:Int):A5×Int:=
 if s.has=false then((0,0,0,0,0),9)
 else if loc<0∨loc>1125899906842624 then((0,0,0,0,0),8)
 else if wrap .i64 (loc+s.e.2.1)<0∨wrap .i64 (loc+s.e.2.1)>1125899906842624 then((0,0,0,0,0),8)
 else((wrap .i64 (loc+s.e.2.1),s.e.2.2,s.root,s.boot,3),0)
theorem Am.cl0{b bf be r:Nat}{s:So}{loc:Int}{f:Fl}{q:Sl}{e:El}{l:Tz}{es:List E3}{w:World}(hB:Ar w b (soC s))(hF:FlB w bf be r f q e l es)(hs:Xm f e es.length=false)
  {k:TR [(true,K5),(false,[KI])]→WP} (h: ∀w',Ah w w'→k (dM (tmS s loc).1,((tmS s loc).2,()),()) w'):
  Ad prog F.Am [.pointer (some ⟨b,0,none⟩),.pointer (some ⟨bf,0,none⟩),iV loc] w true [(true,K5),(false,[KI])] k:=by
 refine Am.ok ?_
 refine Ae λp1 w2 e1 k1 u1=>?_
 refine Bh.by (λz w'=>w'=w2∧z.1=false) (Le rfl ⟨rfl,rfl⟩) ?_
 rintro⟨z,_⟩ _ ⟨rfl,hz⟩ _
 dsimp only at hz
 subst hz
 refine Le rfl (Az.cl (hF.Ai u1) λw9 u9=>Le hs ?_)
 have B9:=(hB.Ai u1).Ai u9
 have k9:=k1.Ai u9
 have g9:=u1.trans u9
 have out: ∀(a:A5) (c:Int) (w':World),Ah w w'→Ar w' p1 (cA5 (0,0,0,0,0))→tmS s loc=(a,c)→ ∀{P:Prop},(∀w'',Ar w'' p1 (cA5 a)→Ah w w''→k (dM a,(c,()),()) w''):=by
  intro a c w' _ _ ht P w'' _ g
  have:=h w'' g
  rw[ht] at this;exact this
 have fin: ∀{w' w'':World},Ah w9 w'→Ap (λx=>x=p1) w' w''→Ah w w'':=λg u=>Ap.trans (g9.trans g) u λi hi h=>by omega
 rw[Ac]
 refine B9.c1 7 (c:=.b) (x:=s.has) rfl (En (λc=>?_) λc=>?_)
 ·have c:s.has=false:=c
  refine k9.E5 _ rfl rfl λw16 k16 u16=>k16.cA (dM (0,0,0,0,0)) rfl ?_
  have:=h w16 (fin (Ah.refl _) u16)
  unfold tmS at this;rw[if_pos c] at this;exact this
 have c:s.has=true:=c
 have e0: ¬s.has=false:=by rw[c];simp
 refine Cf (λc1=>?_) λc1=>?_
 ·have c1:loc<0:=c1
  refine k9.E5 _ rfl rfl λw16 k16 u16=>k16.cA (dM (0,0,0,0,0)) rfl ?_
  have:=h w16 (fin (Ah.refl _) u16)
  unfold tmS at this;rw[if_neg e0,if_pos (.inl c1)] at this;exact this
 refine Cf (λc2=>?_) λc2=>?_
 ·have c2:loc>1125899906842624:=c2
  refine k9.E5 _ rfl rfl λw16 k16 u16=>k16.cA (dM (0,0,0,0,0)) rfl ?_
  have:=h w16 (fin (Ah.refl _) u16)
  unfold tmS at this;rw[if_neg e0,if_pos (.inr c2)] at this;exact this
 have e1: ¬(loc<0∨loc>1125899906842624):=λh=>h.elim c1 c2
 rw[Ac]
 refine B9.c2 1 1 (x:=s.e.2.1) rfl ?_
 refine Cf (λc3=>?_) λc3=>?_
 ·refine k9.E5 _ rfl rfl λw16 k16 u16=>k16.cA (dM (0,0,0,0,0)) rfl ?_
  have:=h w16 (fin (Ah.refl _) u16)
  unfold tmS at this;rw[if_neg e0,if_neg e1,if_pos (.inl c3)] at this;exact this
 refine Cf (λc4=>?_) λc4=>?_
 ·refine k9.E5 _ rfl rfl λw16 k16 u16=>k16.cA (dM (0,0,0,0,0)) rfl ?_
  have:=h w16 (fin (Ah.refl _) u16)
  unfold tmS at this;rw[if_neg e0,if_neg e1,if_pos (.inr c4)] at this;exact this
 have e2: ¬(wrap .i64 (loc+s.e.2.1)<0∨wrap .i64 (loc+s.e.2.1)>1125899906842624):=λh=>h.elim c3 c4
 rw[Aq,Ac]
 refine B9.drew.c2 1 2 (x:=s.e.2.2) rfl ?_
 rw[Ac]
 refine B9.drew.cN 4 (cs:=[KI,KU]) (s.root,s.boot,()) rfl ?_
 refine k9.drew.E5 _ rfl rfl λw33 k33 u33=>⟨trivial,k33.cA (dM (wrap .i64 (loc+s.e.2.1),s.e.2.2,s.root,s.boot,3)) rfl ?_⟩
 have:=h w33 (fin (Ah.drew _) u33)
 unfold tmS at this;rw[if_neg e0,if_neg e1,if_neg e2] at this;exact this
end Go.Proofs.YtppeepkmnijdpaaGreatDoor
