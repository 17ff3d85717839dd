import Derived.Test.YticgocmhmffneaaGreatDoorMcC
namespace Go.Proofs.YticgocmhmffneaaGreatDoor
open Go.Eng Go Tryz
set_option linter.unusedSimpArgs false
set_option linter.unusedVariables false
set_option maxRecDepth 100000
set_option maxHeartbeats 8000000
abbrev MK:List CK:=[KU,KU]
structure El where
 me:Int
 tmo:Int
 ign:Int
 boot:Int
 seq:Int
 root:Int
 beats:Int
 quiet:Int
def elC(e:El)(q:Option Nat):List Value:=[iV e.me,iV e.tmo,iV e.ign,uV e.boot,uV e.seq,iV e.root,iV e.beats,iV e.quiet,.map q]
abbrev Um:=List (Int×Jf MK)
structure oJ(w:World)(b r:Nat)(e:El)(l:Um):Prop where
 blk:Az w b (elC e (some r))
 map:Zr w r true MK l
theorem Zr.ne{w:World}{r b:Nat}{cs:List Value}{ag:Bool}{ks:List CK}{l:List (Int×Jf ks)}(h:Zr w r ag ks l)(k:Az w b cs):b≠r:=by
 intro e;subst e
 obtain⟨es,c,h1,_⟩:=h
 obtain⟨t,h2⟩:=k
 rw[h1] at h2;cases h2
theorem oJ.upd{S:NP}{w w':World}{b r:Nat}{e:El}{l:Um}(h:oJ w b r e l)(u:Am S w w')(h1: ¬S b)(h2: ¬S r):oJ w' b r e l:=⟨h.blk.upd u h1,h.map.upd u h2⟩
theorem oJ.Ai{w w':World}{b r:Nat}{e:El}{l:Um}(h:oJ w b r e l)(u:Af w w'):oJ w' b r e l:=h.upd u (λx=>x) λx=>x
structure Fl where
 me:Int
 tmo:Int
 ign:Int
 need:Int
 Aw:Int
 ll:Int
 lg:Int
 lh:Int
def flC(be:Nat)(f:Fl)(s:Sl):List Value:=[.pointer (some ⟨be,0,none⟩),iV f.me,iV f.tmo,iV f.ign,iV f.need,iV f.Aw,.slice s.1 s.2.1 s.2.2,iV f.ll,iV f.lg,iV f.lh]
def elG(r0 r1:Int):Bool:=decide (1≤r0)&&decide (r0≤1000)&&decide (0≤r1)&&decide (r1≤1000)
def tV(r0 r1 r2 r3:Int):Bool:=elG r0 r1&&decide (1≤r2)&&decide (r2≤8)&&decide (0≤r3)&&decide (r3≤10)
theorem lF{a b:Int}:elG a b=true↔1≤a∧a≤1000∧0≤b∧b≤1000:=by unfold elG;simp[and_assoc]
theorem Ya{a b c d:Int}:tV a b c d=true↔elG a b=true∧1≤c∧c≤8∧0≤d∧d≤10:=by unfold tV;simp[and_assoc]
theorem Hq.cl{r0 r1:Int}{w:World}{k:TR [(false,[.b])]→WP}(h: ∀w',Af w w'→k ((elG r0 r1,()),()) w'):Ae prog F.Hq [.agg #[iV r0,iV r1]] w false [(false,[.b])] k:=by
 refine Hq.ok ?_
 unfold Hq.wp
 refine Ad λp1 w2 e1 k1 u1=>?_
 have key: ∀b:Bool,(b=true↔1≤r0∧r0≤1000∧0≤r1∧r1≤1000)→k ((b,()),()) w2:=λb hb=>by
  have:b=elG r0 r1:=by rw[Bool.eq_iff_iff,hb,lF]
  rw[this];exact h w2 u1
 refine k1.i0 rfl (Dx (λc1=>k1.i0 rfl (Dx (λc2=>k1.i1 1 rfl (Dx (λc3=>k1.i1 1 rfl (key _ ?_)) λc3=>key _ ?_)) λc2=>key _ ?_)) λc1=>key _ ?_)<;>((try replace c1:r0≥1:=c1);(try replace c1: ¬r0≥1:=c1);(try replace c2:r0≤1000:=c2);(try replace c2: ¬r0≤1000:=c2);(try replace c3:r1≥0:=c3);(try replace c3: ¬r1≥0:=c3);(try show decide (r1≤1000)=true↔_);simp;omega)
theorem Hu.cl{r0 r1 r2 r3:Int}{w:World}{k:TR [(false,[.b])]→WP}(h: ∀w',Af w w'→k ((tV r0 r1 r2 r3,()),()) w'):Ae prog F.Hu [.agg #[iV r0,iV r1,iV r2,iV r3]] w false [(false,[.b])] k:=by
 refine Hu.ok ?_
 unfold Hu.wp
 refine Ad λp1 w2 e1 k1 u1=>?_
 refine k1.cN 0 (cs:=[KI,KI]) (r0,r1,()) rfl (Hq.cl λw5 u5=>?_)
 have key: ∀b:Bool,(b=true↔elG r0 r1=true∧1≤r2∧r2≤8∧0≤r3∧r3≤10)→k ((b,()),()) w5:=λb hb=>by
  have:b=tV r0 r1 r2 r3:=by rw[Bool.eq_iff_iff,hb,Ya]
  rw[this];exact h w5 (u1.trans u5)
 have q:=k1.Ai u5
 dsimp only
 refine bM (λc0=>q.i1 2 rfl (Dx (λc1=>q.i1 2 rfl (Dx (λc2=>q.i1 3 rfl (Dx (λc3=>q.i1 3 rfl (key _ ?_)) λc3=>key _ ?_)) λc2=>key _ ?_)) λc1=>key _ ?_)) λc0=>key _ ?_
 all_goals (have c0:elG r0 r1=_:=c0;rw[c0];(try replace c1:r2≥1:=c1);(try replace c1: ¬r2≥1:=c1);(try replace c2:r2≤8:=c2);(try replace c2: ¬r2≤8:=c2);(try replace c3:r3≥0:=c3);(try replace c3: ¬r3≥0:=c3);(try show decide (r3≤10)=true↔_);simp)
 all_goals omega
theorem Hr.cl{b:Nat}{q:Option Nat}{e:El}{boot:Int}{w:World}(hB:Az w b (elC e q)){k:TR []→WP}
  (h: ∀w' m,w.heap.size≤m→oJ w' b m {e with boot:=boot,seq:=0,root:= -1,beats:=0,quiet:=0} []→Am (λx=>x=b) w w'→k () w'):
  Ae prog F.Hr [.pointer (some ⟨b,0,none⟩),uV boot] w true [] k:=by
 refine Hr.ok ?_
 unfold Hr.wp
 refine Vt rfl ?_
 rw[Be,Ac]
 have lb:=hB.lt
 have B:=hB.drew
 refine B.i0 rfl ?_
 rw[Ac]
 refine B.cN 1 (cs:=[KI,KI]) (e.tmo,e.ign,()) rfl (Amn true MK λm w7 e6 M6 u6=>⟨?_,?_⟩)
 ·exact⟨B.X3 u6 (λx=>x) 1 0 (by simp[elC]),B.X3 u6 (λx=>x) 1 1 (by simp[elC]),B.hold u6 (λx=>x) 0 (by simp[elC]),trivial⟩
 ·rw[Ac]
  have g7:=(Af.drew w).trans u6
  refine(hB.Ai g7).Fg _ rfl rfl λw9 k9 u9=>⟨trivial,?_⟩
  have lm:w.heap.size≤m:=by have:w.drew.heap.size=w.heap.size:=rfl;omega
  refine h w9 m lm ⟨k9,M6.upd u9 (by omega)⟩ (Am.trans (Am.Bj g7) u9 λi hi h=>h)
theorem Wv.cl{me r0 r1:Int}{w:World}{k:TR [(false,[.p]),(false,[KI])]→WP}
  (h0:(me<0∨64≤me∨elG r0 r1=false)→ ∀w',Af w w'→k ((none,()),(1,()),()) w')
  (h1:0≤me→me<64→elG r0 r1=true→ ∀b m w',w.heap.size≤b→w.heap.size≤m→oJ w' b m ⟨me,r0,r1,0,0,-1,0,0⟩ []→Af w w'→k ((some ⟨b,0,none⟩,()),(0,()),()) w'):
  Ae prog F.Wv [iV me,.agg #[iV r0,iV r1]] w true [(false,[.p]),(false,[KI])] k:=by
 refine Wv.ok ?_
 unfold Wv.wp
 refine Ad λp1 w2 e1 k1 u1=>?_
 refine Dx (λc=>h0 (.inl c) w2 u1) λc1=>Dx (λc=>h0 (.inr (.inl c)) w2 u1) λc2=>?_
 have c1: ¬me<0:=c1
 have c2: ¬me≥64:=c2
 refine k1.ld2 (Hq.cl λw5 u5=>Ee (λc=>h0 (.inr (.inr c)) w5 (u1.trans u5)) λc3=>(k1.Ai u5).ld2 ?_)
 refine Ad λp7 w8 e7 k7 u7=>?_
 have g8:=(u1.trans u5).trans u7
 have s5:=(u1.trans u5).size
 refine Hr.cl (q:=none) (e:=⟨me,r0,r1,0,0,0,0,0⟩) k7 λw10 m lm E10 u10=>?_
 refine h1 (by omega) (by omega) c3 p7 m w10 (by omega) (by have:=u7.size;omega) E10 (Am.trans g8 u10 λi hi h=>by omega)
structure FlB(w:World)(bf be r:Nat)(f:Fl)(s:Sl)(e:El)(l:Um)(es:List E3):Prop where
 blk:Az w bf (flC be f s)
 el:oJ w be r e l
 Abt:Ku w s es
 ne:bf≠be
theorem FlB.Ai{w w':World}{bf be r:Nat}{f:Fl}{s:Sl}{e:El}{l:Um}{es:List E3}(h:FlB w bf be r f s e l es)(u:Af w w'):FlB w' bf be r f s e l es:=⟨h.blk.Ai u,h.el.Ai u,h.Abt.Ai u,h.ne⟩
theorem FlB.upd{S:NP}{w w':World}{bf be r:Nat}{f:Fl}{s:Sl}{e:El}{l:Um}{es:List E3}(h:FlB w bf be r f s e l es)(u:Am S w w')(h1: ¬S bf)(h2: ¬S be)(h3: ¬S r)(h4: ∀a,s.1=some a→ ¬S a.block):FlB w' bf be r f s e l es:=⟨h.blk.upd u h1,h.el.upd u h2 h3,Row.upd h.Abt u h4,h.ne⟩
theorem Ku.nil(w:World):Ku w (none,0,0) []:=⟨rfl,λh=>absurd rfl h⟩
theorem Ui.cl{me r0 r1 r2 r3:Int}{w:World}{k:TR [(false,[.p]),(false,[KI])]→WP}
  (h0:(me<0∨64≤me∨tV r0 r1 r2 r3=false)→ ∀w',Af w w'→k ((none,()),(1,()),()) w')
  (h1:0≤me→me<64→tV r0 r1 r2 r3=true→ ∀bf be m w',w.heap.size≤bf→w.heap.size≤be→w.heap.size≤m→FlB w' bf be m ⟨me,r0,r1,r2,r3,0,0,0⟩ (none,0,0) ⟨me,r0,r1,0,0,-1,0,0⟩ [] []→Af w w'→k ((some ⟨bf,0,none⟩,()),(0,()),()) w'):
  Ae prog F.Ui [iV me,.agg #[iV r0,iV r1,iV r2,iV r3]] w true [(false,[.p]),(false,[KI])] k:=by
 refine Ui.ok ?_
 unfold Ui.wp
 refine Ad λp1 w2 e1 k1 u1=>?_
 refine k1.cA (cs:=[KI,KI,KI,KI]) (r0,r1,r2,r3,()) rfl (Hu.cl λw5 u5=>Ee (λc=>h0 (.inr (.inr c)) w5 (u1.trans u5)) λc3=>?_)
 have c3:tV r0 r1 r2 r3=true:=c3
 have g5:=u1.trans u5
 have k5:=k1.Ai u5
 refine k5.cN 0 (cs:=[KI,KI]) (r0,r1,()) rfl (Wv.cl (λc w8 u8=>?_) λc1 c2 c4 be m w8 lb lm E8 u8=>?_)
 ·refine Vt rfl ?_
  rcases c with c|c|c
  ·exact h0 (.inl c) w8 (g5.trans u8)
  ·exact h0 (.inr (.inl c)) w8 (g5.trans u8)
  ·rw[(Ya.1 c3).1] at c;cases c
 ·refine Jl rfl ((k5.Ai u8).cA (cs:=[KI,KI,KI,KI]) (r0,r1,r2,r3,()) rfl (Ad λbf w11 eb kb ub=>?_))
  have s8:=(g5.trans u8).size
  have s5:=g5.size
  have ne:bf≠be:=by have:=E8.blk.lt;omega
  exact h1 c1 c2 c3 bf be m w11 (by omega) (by omega) (by omega) ⟨kb,E8.Ai ub,Ku.nil _,ne⟩ ((g5.trans u8).trans ub)
theorem Bc.cl{b r:Nat}{e:El}{l:Um}{w:World}(hB:oJ w b r e l){k:TR [(false,[.b])]→WP}
  (h: ∀w',Af w w'→k (((e.root==e.me),()),()) w'):Ae prog F.Bc [.pointer (some ⟨b,0,none⟩)] w false [(false,[.b])] k:=by
 refine Bc.ok ?_
 unfold Bc.wp
 rw[Be]
 refine Vt rfl ?_
 rw[Ac]
 refine hB.blk.drew.i1 5 rfl ?_
 rw[Ac]
 exact hB.blk.drew.i0 rfl (h _ (Af.drew w))
theorem Dk.at{w:World}{a:Addr}{s:Sl}(hc:w.cell? a=some (.slice s.1 s.2.1 s.2.2)){k:TR [(false,[KI])]→WP}(hk:k (((s.2.1:Int),()),()) w):
  Ae prog F.Dk [.pointer (some a)] w false [(false,[KI])] k:=by
 refine Dk.ok ?_
 unfold Dk.wp
 refine Jl rfl ?_
 rw[Ac]
 exact Zj (x:=s) hc rfl hk
def Xb(f:Fl)(e:El)(n:Nat):Bool:=(e.root==e.me)||decide ((n:Int)≥f.need)
theorem Ba.cl{bf be r:Nat}{f:Fl}{s:Sl}{e:El}{l:Um}{es:List E3}{w:World}(hB:FlB w bf be r f s e l es){k:TR [(false,[.b])]→WP}
  (h: ∀w',Af w w'→k ((Xb f e es.length,()),()) w'):Ae prog F.Ba [.pointer (some ⟨bf,0,none⟩)] w false [(false,[.b])] k:=by
 refine Ba.ok ?_
 unfold Ba.wp
 rw[Be]
 refine Vt rfl ?_
 rw[Ac]
 have hD:=hB.Ai (Af.drew w)
 refine hD.blk.c0 (c:=.p) (x:=some ⟨be,0,none⟩) rfl (Bc.cl hD.el λw5 u1=>⟨⟨hD.blk.hold u1 (λx=>x) 0 (by simp[flC]),trivial⟩,?_⟩)
 have hD2:=hD.Ai u1
 have g2:=(Af.drew w).trans u1
 unfold Xb at h
 refine bM (λc=>?_) λc=>?_
 ·have c:(e.root==e.me)=true:=c
  rw[c] at h
  exact h _ g2
 ·have c:(e.root==e.me)=false:=c
  rw[c] at h
  rw[Ac,Ac]
  refine hD2.blk.c2 2 2 (x:=f.need) rfl ?_
  have hc:w5.cell? (Addr.add ⟨bf,0,none⟩ 6)=some (.slice s.1 s.2.1 s.2.2):=by rw[N8,Nat.zero_add,hD2.blk.cell];rfl
  refine Dk.at hc ⟨⟨hD2.blk.X3 (Af.refl _) (λx=>x) 2 2 (by simp[flC]),hD.blk.hold u1 (λx=>x) 0 (by simp[flC]),trivial⟩,?_⟩
  rw[hD2.Abt.len]
  exact h _ g2
end Go.Proofs.YticgocmhmffneaaGreatDoor
namespace Go.Proofs.YticgocmhmffneaaGreatDoor
open Go.Eng Go Tryz
open Go.IntKind (wrap)
set_option linter.unusedSimpArgs false
set_option linter.unusedVariables false
set_option maxRecDepth 100000
set_option maxHeartbeats 8000000
structure So where
 limit:Int
 e:E3
 root:Int
 boot:Int
 age:Int
 has:Bool
def soC(s:So):List Value:=[iV s.limit,iV s.e.1,iV s.e.2.1,iV s.e.2.2,iV s.root,uV s.boot,iV s.age,.bool s.has]
def dZ(e:E3):Bool:=decide (0≤e.1)&&decide (e.1≤1125899906842624)&&decide (-1125899906842624≤e.2.1)&&decide (e.2.1≤1125899906842624)&&decide (1≤e.2.2)&&decide (e.2.2≤63)
theorem Ad1{e:E3}:dZ e=true↔0≤e.1∧e.1≤1125899906842624∧ -1125899906842624≤e.2.1∧e.2.1≤1125899906842624∧1≤e.2.2∧e.2.2≤63:=by unfold dZ;simp[and_assoc]
theorem C9.cl'{e:E3}{w:World}{k:TR [(false,[.b])]→WP}(h: ∀w',Af w w'→k ((dZ e,()),()) w'):Ae prog F.C9 [.agg #[iV e.1,iV e.2.1,iV e.2.2]] w false [(false,[.b])] k:=by
 refine C9.ok ?_
 unfold C9.wp
 refine Ad λp1 w2 e1 k1 u1=>?_
 have key: ∀b:Bool,(b=true↔0≤e.1∧e.1≤1125899906842624∧ -1125899906842624≤e.2.1∧e.2.1≤1125899906842624∧1≤e.2.2∧e.2.2≤63)→k ((b,()),()) w2:=λb hb=>by
  have:b=dZ e:=by rw[Bool.eq_iff_iff,hb,Ad1]
  rw[this];exact h w2 u1
 refine k1.i0 rfl (Dx (λc1=>k1.i0 rfl (Dx (λc2=>k1.i1 1 rfl (Dx (λc3=>k1.i1 1 rfl (Dx (λc4=>k1.i1 2 rfl (Dx (λc5=>k1.i1 2 rfl (key _ ?_)) λc5=>key _ ?_)) λc4=>key _ ?_)) λc3=>key _ ?_)) λc2=>key _ ?_)) λc1=>key _ ?_)<;>((try replace c1:e.1≥0:=c1);(try replace c1: ¬e.1≥0:=c1);(try replace c2:e.1≤1125899906842624:=c2);(try replace c2: ¬e.1≤1125899906842624:=c2);(try replace c3:e.2.1≥ -1125899906842624:=c3);(try replace c3: ¬e.2.1≥ -1125899906842624:=c3);(try replace c4:e.2.1≤1125899906842624:=c4);(try replace c4: ¬e.2.1≤1125899906842624:=c4);(try replace c5:e.2.2≥1:=c5);(try replace c5: ¬e.2.2≥1:=c5);(try show decide (e.2.2≤63)=true↔_);simp;omega)
theorem Vm.cl{limit:Int}{w:World}{k:TR [(false,[.p]),(false,[KI])]→WP}
  (h0:(limit<1∨limit>1000)→k ((none,()),(1,()),()) w)
  (h1:1≤limit→limit≤1000→ ∀b w',w.heap.size≤b→Az w' b (soC ⟨limit,(0,0,0),0,0,0,false⟩)→Af w w'→k ((some ⟨b,0,none⟩,()),(0,()),()) w'):
  Ae prog F.Vm [iV limit] w true [(false,[.p]),(false,[KI])] k:=by
 refine Vm.ok ?_
 unfold Vm.wp
 refine Dx (λc=>h0 (.inl c)) λc1=>Dx (λc=>h0 (.inr c)) λc2=>?_
 have c1: ¬limit<1:=c1
 have c2: ¬limit>1000:=c2
 exact Ad λb w2 e k1 u1=>h1 (by omega) (by omega) b w2 (by omega) k1 u1
def fM(e:E3)(root:Int):Bool:=dZ e&&decide (0≤root)&&decide (root<64)
theorem iP{e:E3}{r:Int}:fM e r=true↔dZ e=true∧0≤r∧r<64:=by unfold fM;simp[and_assoc]
theorem Je.cl{b:Nat}{s:So}{e:E3}{root boot:Int}{w:World}(hB:Az w b (soC s)){k:TR [(false,[KI])]→WP}
  (h0:fM e root=false→ ∀w',Af w w'→k ((1,()),()) w')
  (h1:fM e root=true→ ∀w',Az w' b (soC {s with e:=e,root:=root,boot:=boot,age:=0,has:=true})→Am (λx=>x=b) w w'→k ((0,()),()) w'):
  Ae prog F.Je [.pointer (some ⟨b,0,none⟩),.agg #[iV e.1,iV e.2.1,iV e.2.2],.agg #[iV root,uV boot]] w false [(false,[KI])] k:=by
 refine Je.ok ?_
 unfold Je.wp
 refine Ad λp1 w2 e1 k1 u1=>Ad λp3 w4 e3 k3 u3=>Jl rfl ((k1.Ai u3).bC (C9.cl' λw7 u7=>?_))
 have g7:=(u1.trans u3).trans u7
 have no:(dZ e=true→0≤root→root<64→False)→fM e root=false:=λh=>by
  cases hp:fM e root
  ·rfl
  ·obtain⟨a,b,c⟩:=iP.1 hp;exact(h a b c).elim
 refine Ee (λc=>h0 (no λx _ _=>by have c:dZ e=false:=c;rw[c] at x;cases x) w7 g7) λc0=>?_
 have c0:dZ e=true:=c0
 have q1:=(k1.Ai u3).Ai u7
 have q3:=k3.Ai u7
 refine q3.i0 rfl (Dx (λc=>h0 (no λ_ x _=>by have c:root<0:=c;omega) w7 g7) λc1=>q3.i0 rfl (Dx (λc=>h0 (no λ_ _ x=>by have c:root≥64:=c;omega) w7 g7) λc2=>?_))
 have c1: ¬root<0:=c1
 have c2: ¬root≥64:=c2
 rw[Be]
 have lb:=hB.lt
 refine q1.drew.bC (q3.drew.cA (cs:=[KI,KU]) (root,boot,()) rfl ?_)
 rw[Ac]
 have B7:=(hB.Ai g7).drew
 have n13:b≠p1∧b≠p3:=by have:=u1.size;omega
 refine B7.sN 1 _ (by simp[soC]) rfl λw14 k14 u14=>⟨⟨q3.drew.X3 u14 (by omega) 0 0 (by simp),q3.drew.X3 u14 (by omega) 0 1 (by simp),trivial⟩,?_⟩
 rw[Ac]
 refine k14.sN 4 _ (by simp[soC,splice]) rfl λw16 k16 u16=>⟨trivial,?_⟩
 rw[Ac]
 refine k16.sN 6 _ (by simp[soC,splice]) rfl λw18 k18 u18=>⟨trivial,?_⟩
 rw[Ac]
 refine k18.sN 7 _ (by simp[soC,splice]) rfl λw20 k20 u20=>⟨trivial,?_⟩
 refine h1 (iP.2 ⟨c0,by omega,by omega⟩) w20 k20 ?_
 exact Am.trans (Am.trans (Am.trans (Am.trans (Am.Bj (g7.trans (Af.drew _))) u14 λ_ _ h=>h) u16 λ_ _ h=>h) u18 λ_ _ h=>h) u20 λ_ _ h=>h
theorem Fe.cl{b:Nat}{s:So}{w:World}(hB:Az w b (soC s)){k:TR []→WP}(h: ∀w',Az w' b (soC ⟨s.limit,(0,0,0),0,0,0,false⟩)→Am (λx=>x=b) w w'→k () w'):
  Ae prog F.Fe [.pointer (some ⟨b,0,none⟩)] w true [] k:=by
 refine Fe.ok ?_
 unfold Fe.wp
 refine Vt rfl ?_
 rw[Ac]
 refine hB.i0 rfl ?_
 rw[Ac]
 exact hB.Fg _ rfl rfl λw4 k4 u4=>h w4 k4 u4
theorem Eo.cl{b:Nat}{s:So}{w:World}(hB:Az w b (soC s))(hh:s.has=true)(ha:0≤s.age∧s.age≤1000){k:TR []→WP}
  (h0:s.age+1≥s.limit→ ∀w',Az w' b (soC ⟨s.limit,(0,0,0),0,0,0,false⟩)→Am (λx=>x=b) w w'→k () w')
  (h1:s.age+1<s.limit→ ∀w',Az w' b (soC {s with age:=s.age+1})→Am (λx=>x=b) w w'→k () w'):
  Ae prog F.Eo [.pointer (some ⟨b,0,none⟩)] w true [] k:=by
 refine Eo.ok ?_
 unfold Eo.wp
 refine Jl rfl ?_
 rw[Ac]
 refine hB.c1 7 (c:=.b) (x:=s.has) rfl (Jl (by rw[hh];rfl) ?_)
 rw[Ac]
 refine hB.i1 6 rfl ?_
 rw[Ac,Ah (by unfold I64;omega)]
 refine hB.sN 6 _ (by simp[soC]) rfl λw6 k6 u6=>?_
 rw[Be,Ac]
 have k6:Az w6 b (soC {s with age:=s.age+1}):=k6
 refine k6.drew.i1 6 rfl ?_
 rw[Ac]
 refine k6.drew.i0 rfl (Dx (λc=>?_) λc=>?_)
 ·exact Fe.cl k6.drew λw13 k13 u13=>h0 c w13 k13 (Am.trans u6.drew u13 λ_ _ h=>h)
 ·exact h1 (by have c: ¬s.age+1≥s.limit:=c;omega) _ k6.drew u6.drew
abbrev A5:=Int×Int×Int×Int×Int
abbrev K5:List CK:=[KI,KI,KI,KU,KI]
def cA5(a:A5):List Value:=[iV a.1,iV a.2.1,iV a.2.2.1,uV a.2.2.2.1,iV a.2.2.2.2]
def Yc(a:A5):Jf K5:=(a.1,a.2.1,a.2.2.1,a.2.2.2.1,a.2.2.2.2,())
def uD(s:So)(loc:Int):A5×Int:=
 if s.has=false then((0,0,0,0,0),9)
 else if loc<0∨loc>1125899906842624 then((0,0,0,0,0),8)
 else if wrap .i64 (loc+s.e.2.1)<0∨wrap .i64 (loc+s.e.2.1)>1125899906842624 then((0,0,0,0,0),8)
 else((wrap .i64 (loc+s.e.2.1),s.e.2.2,s.root,s.boot,3),0)
theorem Ar.cl0{b bf be r:Nat}{s:So}{loc:Int}{f:Fl}{q:Sl}{e:El}{l:Um}{es:List E3}{w:World}(hB:Az w b (soC s))(hF:FlB w bf be r f q e l es)(hs:Xb f e es.length=false)
  {k:TR [(true,K5),(false,[KI])]→WP} (h: ∀w',Af w w'→k (Yc (uD s loc).1,((uD s loc).2,()),()) w'):
  Ae prog F.Ar [.pointer (some ⟨b,0,none⟩),.pointer (some ⟨bf,0,none⟩),iV loc] w true [(true,K5),(false,[KI])] k:=by
 refine Ar.ok ?_
 unfold Ar.wp
 refine Ad λp1 w2 e1 k1 u1=>?_
 refine Cc.by (λz w'=>w'=w2∧z.1=false) (Jl rfl ⟨rfl,rfl⟩) ?_
 rintro⟨z,_⟩ _ ⟨rfl,hz⟩ _
 dsimp only at hz
 subst hz
 refine Jl rfl (Ba.cl (hF.Ai u1) λw9 u9=>Jl hs ?_)
 have B9:=(hB.Ai u1).Ai u9
 have k9:=k1.Ai u9
 have g9:=u1.trans u9
 have out: ∀(a:A5) (c:Int) (w':World),Af w w'→Az w' p1 (cA5 (0,0,0,0,0))→uD s loc=(a,c)→ ∀{P:Prop},(∀w'',Az w'' p1 (cA5 a)→Af w w''→k (Yc a,(c,()),()) w''):=by
  intro a c w' _ _ ht P w'' _ g
  have:=h w'' g
  rw[ht] at this;exact this
 have fin: ∀{w' w'':World},Af w9 w'→Am (λx=>x=p1) w' w''→Af w w'':=λg u=>Am.trans (g9.trans g) u λi hi h=>by omega
 rw[Ac]
 refine B9.c1 7 (c:=.b) (x:=s.has) rfl (Ee (λc=>?_) λc=>?_)
 ·have c:s.has=false:=c
  refine k9.Fg _ rfl rfl λw16 k16 u16=>k16.cA (Yc (0,0,0,0,0)) rfl ?_
  have:=h w16 (fin (Af.refl _) u16)
  unfold uD at this;rw[if_pos c] at this;exact this
 have c:s.has=true:=c
 have e0: ¬s.has=false:=by rw[c];simp
 refine Dx (λc1=>?_) λc1=>?_
 ·have c1:loc<0:=c1
  refine k9.Fg _ rfl rfl λw16 k16 u16=>k16.cA (Yc (0,0,0,0,0)) rfl ?_
  have:=h w16 (fin (Af.refl _) u16)
  unfold uD at this;rw[if_neg e0,if_pos (.inl c1)] at this;exact this
 refine Dx (λc2=>?_) λc2=>?_
 ·have c2:loc>1125899906842624:=c2
  refine k9.Fg _ rfl rfl λw16 k16 u16=>k16.cA (Yc (0,0,0,0,0)) rfl ?_
  have:=h w16 (fin (Af.refl _) u16)
  unfold uD at this;rw[if_neg e0,if_pos (.inr c2)] at this;exact this
 have e1: ¬(loc<0∨loc>1125899906842624):=λh=>h.elim c1 c2
 rw[Ac]
 refine B9.c2 1 1 (x:=s.e.2.1) rfl ?_
 refine Dx (λc3=>?_) λc3=>?_
 ·refine k9.Fg _ rfl rfl λw16 k16 u16=>k16.cA (Yc (0,0,0,0,0)) rfl ?_
  have:=h w16 (fin (Af.refl _) u16)
  unfold uD at this;rw[if_neg e0,if_neg e1,if_pos (.inl c3)] at this;exact this
 refine Dx (λc4=>?_) λc4=>?_
 ·refine k9.Fg _ rfl rfl λw16 k16 u16=>k16.cA (Yc (0,0,0,0,0)) rfl ?_
  have:=h w16 (fin (Af.refl _) u16)
  unfold uD at this;rw[if_neg e0,if_neg e1,if_pos (.inr c4)] at this;exact this
 have e2: ¬(wrap .i64 (loc+s.e.2.1)<0∨wrap .i64 (loc+s.e.2.1)>1125899906842624):=λh=>h.elim c3 c4
 rw[Be,Ac]
 refine B9.drew.c2 1 2 (x:=s.e.2.2) rfl ?_
 rw[Ac]
 refine B9.drew.cN 4 (cs:=[KI,KU]) (s.root,s.boot,()) rfl ?_
 refine k9.drew.Fg _ rfl rfl λw33 k33 u33=>⟨trivial,k33.cA (Yc (wrap .i64 (loc+s.e.2.1),s.e.2.2,s.root,s.boot,3)) rfl ?_⟩
 have:=h w33 (fin (Af.drew _) u33)
 unfold uD at this;rw[if_neg e0,if_neg e1,if_neg e2] at this;exact this
end Go.Proofs.YticgocmhmffneaaGreatDoor
namespace Go.Proofs.YticgocmhmffneaaGreatDoor
open Go.Eng Go Tryz
open Go.IntKind (wrap)
set_option linter.unusedSimpArgs false
set_option linter.unusedVariables false
set_option maxRecDepth 100000
set_option maxHeartbeats 8000000
def mine(e:El):Bool:=e.root==e.me
def jA(e:El)(root:Int):Bool:=
 if root<0∨root≥e.me then false else if mine e=true then e.quiet==0 else if e.root<0 then true else decide (root≤e.root)
def wW(m o:Jf MK):Bool:=if tC m.1 o.1=true then true else if m.1=o.1 then tC m.2.1 o.2.1 else false
def frE(l:Um)(root:Int)(m:Jf MK):Bool:=match Vu l root with|some o=>wW m o|none=>true
def tX(e:El)(l:Um)(root:Int)(m:Jf MK):Int:=
 if jA e root=false then 0 else if frE l root m=false then 0 else if e.root≠root then 2 else if((Vu l root).getD (0,0,())).1≠m.1 then 2 else 1
def xU(e:El)(root:Int):El:={e with root:=root,beats:=0,quiet:=0}
def btB(e:El):Bool:=if mine e=true then false else if wrap .i64 (e.beats+1)<e.tmo then false else true
def eG(e:El):El:=
 if mine e=true then{e with quiet:=if 0>wrap .i64 (e.quiet-1) then 0 else wrap .i64 (e.quiet-1)}
 else if wrap .i64 (e.beats+1)<e.tmo then{e with beats:=wrap .i64 (e.beats+1)}
 else{e with root:=e.me,beats:=0,quiet:=e.ign}
def isE(e:El):El:=if mine e=true then{e with seq:=wrap .u16 (e.seq+1)} else e
def isM(e:El):Jf MK:=if mine e=true then(e.boot,wrap .u16 (e.seq+1),()) else(0,0,())
def oN(e:El)(l:Um):Jf MK:=if e.root<0 then(0,0,()) else if mine e=true then(e.boot,e.seq,()) else(Vu l e.root).getD (0,0,())
def mkB(e:El):Bool:=if e.root<0 then false else if mine e=true then decide (e.seq>0) else true
theorem Dc.cl{b r:Nat}{e:El}{l:Um}{w:World}(hB:oJ w b r e l){k:TR [(false,[KI])]→WP}
  (h:k ((e.root,()),()) w):Ae prog F.Dc [.pointer (some ⟨b,0,none⟩)] w false [(false,[KI])] k:=by
 refine Dc.ok ?_
 unfold Dc.wp
 refine Jl rfl ?_
 rw[Ac]
 exact hB.blk.i1 5 rfl h
theorem Ns.cl{b r:Nat}{e:El}{l:Um}{root:Int}{w:World}(hB:oJ w b r e l){k:TR [(false,[.b])]→WP}
  (h: ∀w',Af w w'→k ((jA e root,()),()) w'):Ae prog F.Ns [.pointer (some ⟨b,0,none⟩),iV root] w false [(false,[.b])] k:=by
 refine Ns.ok ?_
 unfold Ns.wp
 refine Cc.by (λz w'=>w'=w∧(z.1=true↔root<0∨root≥e.me)) ?_ ?_
 ·refine Dx (λc=>⟨rfl,by have c:root<0:=c;simp[c]⟩) λc=>?_
  have c: ¬root<0:=c
  rw[Ac]
  exact hB.blk.i0 rfl ⟨rfl,by simp[c]⟩
 ·rintro⟨z,_⟩ _ ⟨rfl,hz⟩ _
  dsimp only at hz
  unfold jA at h
  refine bM (λc=>?_) λc=>?_
  ·have c:z=true:=c
   have:=h _ (Af.refl _)
   rw[if_pos (hz.1 c)] at this;exact this
  ·have c:z=false:=c
   have hn: ¬(root<0∨root≥e.me):=λx=>by rw[hz.2 x] at c;cases c
   rw[if_neg hn] at h
   refine Bc.cl hB λw7 u7=>?_
   have hB:=hB.Ai u7
   refine bM (λc=>?_) λc=>?_
   ·have c:mine e=true:=c
    rw[if_pos c] at h
    rw[Ac]
    exact hB.blk.i1 7 rfl (h _ u7)
   ·have c:mine e=false:=c
    rw[if_neg (by rw[c];simp)] at h
    rw[Ac]
    refine hB.blk.i1 5 rfl (Dx (λc=>?_) λc=>?_)
    ·have c:e.root<0:=c
     rw[if_pos c] at h;exact h _ u7
    ·have c: ¬e.root<0:=c
     rw[if_neg c] at h
     rw[Ac]
     exact hB.blk.i1 5 rfl (h _ u7)
theorem Kw.cl{m o:Jf MK}{w:World}{k:TR [(false,[.b])]→WP}(h: ∀w',Af w w'→k ((wW m o,()),()) w'):
  Ae prog F.Kw [.agg #[uV m.1,uV m.2.1],.agg #[uV o.1,uV o.2.1]] w false [(false,[.b])] k:=by
 refine Kw.ok ?_
 unfold Kw.wp
 refine Ad λp1 w2 e1 k1 u1=>Ad λp3 w4 e3 k3 u3=>?_
 have q:=k1.Ai u3
 have g:=u1.trans u3
 unfold wW at h
 refine q.c0 rfl (k3.c0 rfl (Pz.cl (bM (λc=>?_) λc=>q.c0 rfl (k3.c0 rfl (Yl (λc2=>q.c1 1 rfl (k3.c1 1 rfl (Pz.cl ?_))) λc2=>?_)))))
 ·have c:tC m.1 o.1=true:=c
  have:=h _ g
  rw[if_pos c] at this;exact this
 ·have c:tC m.1 o.1=false:=c
  have c2:m.1=o.1:=c2
  have:=h _ g
  rw[if_neg (by rw[c];simp),if_pos c2] at this;exact this
 ·have c:tC m.1 o.1=false:=c
  have c2:m.1≠o.1:=c2
  have:=h _ g
  rw[if_neg (by rw[c];simp),if_neg c2] at this;exact this
def elS(b r:Nat):NP:=λz=>z=b∨z=r
theorem Lc.cl{b r:Nat}{e:El}{l:Um}{root:Int}{m:Jf MK}{w:World}(hB:oJ w b r e l){k:TR [(false,[KI])]→WP}
  (h0:tX e l root m=0→ ∀w',Af w w'→k ((0,()),()) w')
  (h1: ∀c,tX e l root m=c→c≠0→ ∀w',oJ w' b r (xU e root) (Xd l root m)→Am (elS b r) w w'→k ((c,()),()) w'):
  Ae prog F.Lc [.pointer (some ⟨b,0,none⟩),iV root,.agg #[uV m.1,uV m.2.1]] w false [(false,[KI])] k:=by
 refine Lc.ok ?_
 unfold Lc.wp
 refine Ad λp1 w2 e1 k1 u1=>Jl rfl ?_
 have lb:=hB.blk.lt
 have lr:=hB.map.lt
 refine Ns.cl (hB.Ai u1) λw4 u4=>Ee (λc=>?_) λc=>?_
 ·have c:jA e root=false:=c
  exact h0 (by unfold tX;rw[if_pos c]) w4 (u1.trans u4)
 have cm: ¬jA e root=false:=by have c:jA e root=true:=c;rw[c];simp
 have g4:=u1.trans u4
 have B4:=hB.Ai g4
 rw[Ac]
 refine B4.blk.c1 8 (c:=.m) (x:=some r) rfl ?_
 refine Anh B4.map (z:=((0:Int),(0:Int),())) (kt:=T.int) (et:=T.yB) (by kernel_rfl) (by kernel_rfl) (λw=>by kernel_rfl) ?_
 generalize hx:(Vu l root).getD (0,0,())=x
 refine Ad λp9 w10 e9 k9 u9=>k9.Fg _ rfl rfl λw11 k11 u11=>?_
 have g11:Af w4 w11:=Af.fresh (Af.refl _) u9 u11 e9
 have q1:=k1.Ai (u4.trans g11)
 have l1:=k1.lt
 have s4:=u4.size
 refine Cc.by (λ_ w'=>Af w11 w'∧frE l root m=true) ?_ ?_
 ·cases hm:Vu l root with
  |none=>exact Jl rfl ⟨Af.refl _,by unfold frE;rw[hm]⟩
  |some o=>
   have ho:x=o:=by rw[←hx,hm];rfl
   refine Vt rfl (q1.cA (cs:=MK) m rfl (k11.cA (cs:=MK) x rfl (Kw.cl λw18 u18=>Ee (λc=>?_) λc=>?_)))
   ·have c:wW m x=false:=c
    refine h0 ?_ w18 ((g4.trans g11).trans u18)
    unfold tX frE
    rw[if_neg cm,hm]
    dsimp only
    rw[←ho,if_pos c]
   ·have c:wW m x=true:=c
    exact⟨u18,by unfold frE;rw[hm,←ho];exact c⟩
 rintro _ w14 ⟨u14,hf⟩ _
 have B14:=(B4.Ai g11).Ai u14
 have q14:=q1.Ai u14
 have x14:=k11.Ai u14
 have hN:tX e l root m=if e.root≠root then 2 else if x.1≠m.1 then 2 else 1:=by
  unfold tX;rw[if_neg cm,if_neg (by rw[hf];simp),hx]
 refine Cc.by (λz w'=>w'=w14∧tX e l root m=if z.1=true then 2 else 1) ?_ ?_
 ·rw[Ac]
  refine B14.blk.i1 5 rfl (bK (λc=>⟨rfl,?_⟩) λc=>x14.c0 rfl (q14.c0 rfl ⟨rfl,?_⟩))
  ·have c:e.root≠root:=c
   rw[hN,if_pos c];rfl
  ·have c:e.root=root:=c
   rw[hN,if_neg (λh=>h c)]
   show _=if(x.1 !=m.1)=true then(2:Int) else 1
   by_cases hxm:x.1=m.1
   ·rw[if_neg (λh=>h hxm),if_neg (by simp[hxm])]
   ·rw[if_pos hxm,if_pos (by simp[hxm])]
 rintro⟨z,_⟩ _ ⟨rfl,hz⟩ _
 dsimp only at hz
 rw[Be,Ac]
 have B:=B14.Ai (Af.drew _)
 refine B.blk.c1 8 (c:=.m) (x:=some r) rfl (q14.drew.cA (cs:=MK) m rfl ?_)
 refine An0 (v:=m) B.map (kt:=T.int) (et:=T.yB) (by kernel_rfl) (by kernel_rfl) λw30 M30 u30=>⟨trivial,?_⟩
 have ne:=Zr.ne hB.map hB.blk
 have b30:=B.blk.upd u30 ne
 rw[Ac]
 refine b30.sN 5 _ (by simp[elC]) rfl λw32 k32 u32=>?_
 rw[Ac]
 refine k32.sN 6 _ (by simp[elC,splice]) rfl λw34 k34 u34=>?_
 rw[Ac]
 refine k34.sN 7 _ (by simp[elC,splice]) rfl λw36 k36 u36=>?_
 have M36:=((M30.upd u32 (λh=>ne h.symm)).upd u34 (λh=>ne h.symm)).upd u36 (λh=>ne h.symm)
 have G14:=((g4.trans g11).trans u14).trans (Af.drew _)
 have U:Am (elS b r) w w36:=Am.trans (Am.trans (Am.trans (Am.trans (Am.Bj G14) u30 λi _ h=>.inr h) u32 λi _ h=>.inl h) u34 λi _ h=>.inl h) u36 λi _ h=>.inl h
 have fin: ∀c,tX e l root m=c→c≠0→k ((c,()),()) w36:=λc hc h=>h1 c hc h w36 ⟨k36,M36⟩ U
 refine bM (λc=>?_) λc=>?_
 ·have c:z=true:=c
  rw[if_pos c] at hz
  exact fin 2 hz (by decide)
 ·have c:z=false:=c
  rw[if_neg (by rw[c];simp)] at hz
  exact fin 1 hz (by decide)
theorem Jt.cl{b r:Nat}{e:El}{l:Um}{w:World}(hB:oJ w b r e l){k:TR [(false,[.b])]→WP}
  (h: ∀w',oJ w' b r (eG e) l→Am (λz=>z=b) w w'→k ((btB e,()),()) w'):
  Ae prog F.Jt [.pointer (some ⟨b,0,none⟩)] w false [(false,[.b])] k:=by
 refine Jt.ok ?_
 unfold Jt.wp
 have ne:=Zr.ne hB.map hB.blk
 refine Jl rfl (Bc.cl hB λw2 u2=>?_)
 have B2:=hB.Ai u2
 refine bM (λc=>?_) λc=>?_
 ·have c:mine e=true:=c
  rw[Ac]
  refine B2.blk.i1 7 rfl ?_
  rw[Ac]
  refine B2.blk.sN 7 _ (by simp[elC]) rfl λw6 k6 u6=>?_
  have:=h w6 ⟨by unfold eG;rw[if_pos c];exact k6,(B2.map.upd u6 (λh=>ne h.symm))⟩ (Am.trans (Am.Bj u2) u6 λ_ _ h=>h)
  unfold btB at this;rw[if_pos c] at this;exact this
 ·have c: ¬mine e=true:=by have c:mine e=false:=c;rw[c];simp
  rw[Ac]
  refine B2.blk.i1 6 rfl ?_
  rw[Ac]
  refine B2.blk.sN 6 _ (by simp[elC]) rfl λw10 k10 u10=>?_
  have U10:Am (λz=>z=b) w w10:=Am.trans (Am.Bj u2) u10 λ_ _ h=>h
  have M10:=B2.map.upd u10 (λh=>ne h.symm)
  change Az w10 b (elC {e with beats:=wrap .i64 (e.beats+1)} (some r)) at k10
  rw[Be,Ac]
  refine k10.drew.i1 6 rfl ?_
  rw[Ac]
  refine k10.drew.i1 1 rfl (Dx (λc2=>?_) λc2=>?_)
  ·have c2:wrap .i64 (e.beats+1)<e.tmo:=c2
   have:=h _ ⟨by unfold eG;rw[if_neg c,if_pos c2];exact k10.drew,M10.drew⟩ U10.drew
   unfold btB at this;rw[if_neg c,if_pos c2] at this;exact this
  ·have c2: ¬wrap .i64 (e.beats+1)<e.tmo:=c2
   rw[Be,Ac]
   have k11:=k10.drew.drew
   refine k11.i0 rfl ?_
   rw[Ac]
   refine k11.c2 1 1 (x:=e.ign) rfl ?_
   rw[Ac]
   refine k11.sN 5 _ (by simp[elC]) rfl λw22 k22 u22=>⟨trivial,?_⟩
   rw[Ac]
   refine k22.sN 6 _ (by simp[elC,splice]) rfl λw24 k24 u24=>⟨trivial,?_⟩
   rw[Ac]
   refine k24.sN 7 _ (by simp[elC,splice]) rfl λw26 k26 u26=>⟨trivial,?_⟩
   have M26:=(((M10.drew.drew.upd u22 (λh=>ne h.symm)).upd u24 (λh=>ne h.symm)).upd u26 (λh=>ne h.symm))
   have:=h w26 ⟨by unfold eG;rw[if_neg c,if_neg c2];exact k26,M26⟩ (Am.trans (Am.trans (Am.trans U10.drew.drew u22 λ_ _ h=>h) u24 λ_ _ h=>h) u26 λ_ _ h=>h)
   unfold btB at this;rw[if_neg c,if_neg c2] at this;exact this
theorem I5.cl{b r:Nat}{e:El}{l:Um}{w:World}(hB:oJ w b r e l){k:TR [(true,MK),(false,[.b])]→WP}
  (h: ∀w',oJ w' b r (isE e) l→Am (λz=>z=b) w w'→k (isM e,(mine e,()),()) w'):
  Ae prog F.I5 [.pointer (some ⟨b,0,none⟩)] w true [(true,MK),(false,[.b])] k:=by
 refine I5.ok ?_
 unfold I5.wp
 have ne:=Zr.ne hB.map hB.blk
 have lb:=hB.blk.lt
 refine Ad λp1 w2 e1 k1 u1=>Bc.cl (hB.Ai u1) λw4 u4=>?_
 have B4:=(hB.Ai u1).Ai u4
 have k4:=k1.Ai u4
 unfold isE isM at h
 refine Ee (λc=>?_) λc=>?_
 ·have c:mine e=false:=c
  refine k4.Fg _ rfl rfl λw5 k5 u5=>k5.cA (cs:=MK) (0,0,()) rfl ?_
  have g5:Af w w5:=Am.trans (u1.trans u4) u5 λi hi h=>by omega
  rw[c,if_neg (by simp),if_neg (by simp)] at h
  exact h w5 (hB.Ai g5) (Am.Bj g5)
 ·have c:mine e=true:=c
  rw[c,if_pos rfl,if_pos rfl] at h
  rw[Ac]
  refine B4.blk.c1 4 rfl (Qu.cl ?_)
  rw[Ac]
  refine B4.blk.sN 4 _ (by simp[elC]) rfl λw12 k12 u12=>?_
  change Az w12 b (elC {e with seq:=wrap .u16 (e.seq+1)} (some r)) at k12
  rw[Be,Ac]
  refine k12.drew.c1 3 rfl ?_
  rw[Ac]
  refine k12.drew.c1 4 rfl ?_
  have n1:p1≠b:=by omega
  refine(k4.upd u12 n1).drew.Fg _ rfl rfl λw18 k18 u18=>⟨trivial,k18.cA (cs:=MK) (e.boot,wrap .u16 (e.seq+1),()) rfl ?_⟩
  have lr:=hB.map.lt
  refine h w18 ⟨k12.drew.upd u18 (λh=>n1 h.symm),((B4.map.upd u12 (λh=>ne h.symm)).drew).upd u18 (by omega)⟩ ?_
  exact Am.trans (Am.trans (Am.Bj (u1.trans u4)) u12 λ_ _ h=>h).drew u18 λi hi h=>by omega
theorem Hl.cl{b r:Nat}{e:El}{l:Um}{w:World}(hB:oJ w b r e l){k:TR [(true,MK),(false,[.b])]→WP}
  (h: ∀w',Af w w'→k (oN e l,(mkB e,()),()) w'):
  Ae prog F.Hl [.pointer (some ⟨b,0,none⟩)] w true [(true,MK),(false,[.b])] k:=by
 refine Hl.ok ?_
 unfold Hl.wp
 have lb:=hB.blk.lt
 refine Ad λp1 w2 e1 k1 u1=>?_
 have B2:=hB.Ai u1
 unfold oN mkB at h
 refine Cc.by (λz w'=>w'=w2∧(z.1=true↔e.root<0)) ?_ ?_
 ·refine Jl rfl ?_
  rw[Ac]
  exact B2.blk.i1 5 rfl ⟨rfl,by simp⟩
 rintro⟨z,_⟩ _ ⟨rfl,hz⟩ _
 dsimp only at hz
 refine bM (λc=>?_) λc=>?_
 ·have c:z=true:=c
  rw[if_pos (hz.1 c),if_pos (hz.1 c)] at h
  refine k1.Fg _ rfl rfl λw8 k8 u8=>k8.cA (cs:=MK) (0,0,()) rfl (h w8 (Af.fresh (Af.refl _) u1 u8 e1))
 have c:z=false:=c
 have hn: ¬e.root<0:=λx=>by rw[hz.2 x] at c;cases c
 rw[if_neg hn,if_neg hn] at h
 refine Bc.cl B2 λw11 u11=>?_
 have B:=(B2.Ai u11).Ai (Af.drew _)
 have k11:=(k1.Ai u11).drew
 have g:Af w w11.drew:=(u1.trans u11).trans (Af.drew _)
 refine bM (λc=>?_) λc=>?_
 ·have c:mine e=true:=c
  rw[if_pos c,if_pos c] at h
  rw[Be,Ac]
  refine B.blk.c1 3 rfl ?_
  rw[Ac]
  refine B.blk.c1 4 rfl ?_
  rw[Ac]
  refine B.blk.c1 4 rfl ?_
  refine k11.Fg _ rfl rfl λw19 k19 u19=>⟨⟨?_,trivial⟩,k19.cA (cs:=MK) (e.boot,e.seq,()) rfl (h w19 (Am.trans g u19 λi hi h=>by omega))⟩
  exact B.blk.hold u19 (by omega) 4 (by simp[elC])
 ·have c: ¬mine e=true:=by have c:mine e=false:=c;rw[c];simp
  rw[if_neg c,if_neg c] at h
  rw[Be,Ac]
  refine B.blk.c1 8 (c:=.m) (x:=some r) rfl ?_
  rw[Ac]
  refine B.blk.i1 5 rfl ?_
  refine Amx B.map (z:=((0:Int),(0:Int),())) (kt:=T.int) (et:=T.yB) (by kernel_rfl) (by kernel_rfl) (λw=>by kernel_rfl) ⟨trivial,?_⟩
  refine k11.Fg _ rfl rfl λw27 k27 u27=>⟨trivial,k27.cA (cs:=MK) ((Vu l e.root).getD (0,0,())) rfl (h w27 (Am.trans g u27 λi hi h=>by omega))⟩
end Go.Proofs.YticgocmhmffneaaGreatDoor
