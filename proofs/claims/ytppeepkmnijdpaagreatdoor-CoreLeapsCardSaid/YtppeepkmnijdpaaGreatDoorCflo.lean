import Derived.Test.YtppeepkmnijdpaaGreatDoorMcC
namespace Go.Proofs.YtppeepkmnijdpaaGreatDoor
open Go.Eng Go Tryz
set_option linter.unusedSimpArgs false
set_option linter.unusedVariables false
set_option maxRecDepth 100000
set_option maxHeartbeats 8000000
abbrev MK:List CK:=[KU,KU]
abbrev M2:=Int×Int
structure El where
 me:Int
 tmo:Int
 ign:Int
 boot:Int
 seq:Int
 root:Int
 beats:Int
 quiet:Int
def elC(e:El)(q:Option Nat):List Value:=[iV e.me,iV e.tmo,iV e.ign,uV e.boot,uV e.seq,iV e.root,iV e.beats,iV e.quiet,.map q]
abbrev Tz:=List (Int×Ky MK)
structure pJ(w:World)(b r:Nat)(e:El)(l:Tz):Prop where
 blk:Ar w b (elC e (some r))
 map:Zb w r true MK l
theorem Zb.ne{w:World}{r b:Nat}{cs:List Value}{ag:Bool}{ks:List CK}{l:List (Int×Ky ks)}(h:Zb w r ag ks l)(k:Ar w b cs):b≠r:=by
 intro e;subst e
 obtain⟨es,c,h1,_⟩:=h
 obtain⟨t,h2⟩:=k
 rw[h1] at h2;cases h2
theorem pJ.upd{S:NP}{w w':World}{b r:Nat}{e:El}{l:Tz}(h:pJ w b r e l)(u:Ap S w w')(h1: ¬S b)(h2: ¬S r):pJ w' b r e l:=⟨h.blk.upd u h1,h.map.upd u h2⟩
theorem pJ.Ai{w w':World}{b r:Nat}{e:El}{l:Tz}(h:pJ w b r e l)(u:Ah w w'):pJ w' b r e l:=h.upd u (λx=>x) λx=>x
structure Fl where
 me:Int
 tmo:Int
 ign:Int
 need:Int
 drift:Int
 ll:Int
 lg:Int
 lh:Int
def flC(be:Nat)(f:Fl)(s:Sl):List Value:=[.pointer (some ⟨be,0,none⟩),iV f.me,iV f.tmo,iV f.ign,iV f.need,iV f.drift,.slice s.1 s.2.1 s.2.2,iV f.ll,iV f.lg,iV f.lh]
def elG(r0 r1:Int):Bool:=decide (1≤r0)&&decide (r0≤1000)&&decide (0≤r1)&&decide (r1≤1000)
def flG(r0 r1 r2 r3:Int):Bool:=elG r0 r1&&decide (1≤r2)&&decide (r2≤8)&&decide (0≤r3)&&decide (r3≤10)
theorem pV{a b:Int}:elG a b=true↔1≤a∧a≤1000∧0≤b∧b≤1000:=by unfold elG;simp[and_assoc]
theorem Vg{a b c d:Int}:flG a b c d=true↔elG a b=true∧1≤c∧c≤8∧0≤d∧d≤10:=by unfold flG;simp[and_assoc]
theorem Gw.cl{r0 r1:Int}{w:World}{k:TR [(false,[.b])]→WP}(h: ∀w',Ah w w'→k ((elG r0 r1,()),()) w'):Ad prog F.Gw [.agg #[iV r0,iV r1]] w false [(false,[.b])] k:=by
 refine Gw.ok ?_
 refine Ae λp1 w2 e1 k1 u1=>?_
 have key: ∀b:Bool,(b=true↔1≤r0∧r0≤1000∧0≤r1∧r1≤1000)→k ((b,()),()) w2:=λb hb=>by
  have:b=elG r0 r1:=by rw[Bool.eq_iff_iff,hb,pV]
  rw[this];exact h w2 u1
 refine k1.i0 rfl (Cf (λc1=>k1.i0 rfl (Cf (λc2=>k1.i1 1 rfl (Cf (λc3=>k1.i1 1 rfl (key _ ?_)) λc3=>key _ ?_)) λc2=>key _ ?_)) λc1=>key _ ?_)<;>((try replace c1:r0≥1:=c1);(try replace c1: ¬r0≥1:=c1);(try replace c2:r0≤1000:=c2);(try replace c2: ¬r0≤1000:=c2);(try replace c3:r1≥0:=c3);(try replace c3: ¬r1≥0:=c3);(try show decide (r1≤1000)=true↔_);simp;omega)
theorem Gz.cl{r0 r1 r2 r3:Int}{w:World}{k:TR [(false,[.b])]→WP}(h: ∀w',Ah w w'→k ((flG r0 r1 r2 r3,()),()) w'):Ad prog F.Gz [.agg #[iV r0,iV r1,iV r2,iV r3]] w false [(false,[.b])] k:=by
 refine Gz.ok ?_
 refine Ae λp1 w2 e1 k1 u1=>?_
 refine k1.cN 0 (cs:=[KI,KI]) (r0,r1,()) rfl (Gw.cl λw5 u5=>?_)
 have key: ∀b:Bool,(b=true↔elG r0 r1=true∧1≤r2∧r2≤8∧0≤r3∧r3≤10)→k ((b,()),()) w5:=λb hb=>by
  have:b=flG r0 r1 r2 r3:=by rw[Bool.eq_iff_iff,hb,Vg]
  rw[this];exact h w5 (u1.trans u5)
 have q:=k1.Ai u5
 dsimp only
 refine bQ (λc0=>q.i1 2 rfl (Cf (λc1=>q.i1 2 rfl (Cf (λc2=>q.i1 3 rfl (Cf (λc3=>q.i1 3 rfl (key _ ?_)) λc3=>key _ ?_)) λc2=>key _ ?_)) λc1=>key _ ?_)) λc0=>key _ ?_
 all_goals (have c0:elG r0 r1=_:=c0;rw[c0];(try replace c1:r2≥1:=c1);(try replace c1: ¬r2≥1:=c1);(try replace c2:r2≤8:=c2);(try replace c2: ¬r2≤8:=c2);(try replace c3:r3≥0:=c3);(try replace c3: ¬r3≥0:=c3);(try show decide (r3≤10)=true↔_);simp)
 all_goals omega
theorem Gy.cl{b:Nat}{q:Option Nat}{e:El}{boot:Int}{w:World}(hB:Ar w b (elC e q)){k:TR []→WP}
  (h: ∀w' m,w.heap.size≤m→pJ w' b m {e with boot:=boot,seq:=0,root:= -1,beats:=0,quiet:=0} []→Ap (λx=>x=b) w w'→k () w'):
  Ad prog F.Gy [.pointer (some ⟨b,0,none⟩),uV boot] w true [] k:=by
 refine Gy.ok ?_
 refine We rfl ?_
 rw[Aq,Ac]
 have lb:=hB.lt
 have B:=hB.drew
 refine B.i0 rfl ?_
 rw[Ac]
 refine B.cN 1 (cs:=[KI,KI]) (e.tmo,e.ign,()) rfl (Atv true MK λm w7 e6 M6 u6=>⟨?_,?_⟩)
 ·exact⟨B.Zo u6 (λx=>x) 1 0 (by simp[elC]),B.Zo u6 (λx=>x) 1 1 (by simp[elC]),B.hold u6 (λx=>x) 0 (by simp[elC]),trivial⟩
 ·rw[Ac]
  have g7:=(Ah.drew w).trans u6
  refine(hB.Ai g7).E5 _ rfl rfl λw9 k9 u9=>⟨trivial,?_⟩
  have lm:w.heap.size≤m:=by have:w.drew.heap.size=w.heap.size:=rfl;omega
  refine h w9 m lm ⟨k9,M6.upd u9 (by omega)⟩ (Ap.trans (Ap.Ed g7) u9 λi hi h=>h)
theorem V3.cl{me r0 r1:Int}{w:World}{k:TR [(false,[.p]),(false,[KI])]→WP}
  (h0:(me<0∨64≤me∨elG r0 r1=false)→ ∀w',Ah w w'→k ((none,()),(1,()),()) w')
  (h1:0≤me→me<64→elG r0 r1=true→ ∀b m w',w.heap.size≤b→w.heap.size≤m→pJ w' b m ⟨me,r0,r1,0,0,-1,0,0⟩ []→Ah w w'→k ((some ⟨b,0,none⟩,()),(0,()),()) w'):
  Ad prog F.V3 [iV me,.agg #[iV r0,iV r1]] w true [(false,[.p]),(false,[KI])] k:=by
 refine V3.ok ?_
 refine Ae λp1 w2 e1 k1 u1=>?_
 refine Cf (λc=>h0 (.inl c) w2 u1) λc1=>Cf (λc=>h0 (.inr (.inl c)) w2 u1) λc2=>?_
 have c1: ¬me<0:=c1
 have c2: ¬me≥64:=c2
 refine k1.ld2 (Gw.cl λw5 u5=>En (λc=>h0 (.inr (.inr c)) w5 (u1.trans u5)) λc3=>(k1.Ai u5).ld2 ?_)
 refine Ae λp7 w8 e7 k7 u7=>?_
 have g8:=(u1.trans u5).trans u7
 have s5:=(u1.trans u5).size
 refine Gy.cl (q:=none) (e:=⟨me,r0,r1,0,0,0,0,0⟩) k7 λw10 m lm E10 u10=>?_
 refine h1 (by omega) (by omega) c3 p7 m w10 (by omega) (by have:=u7.size;omega) E10 (Ap.trans g8 u10 λi hi h=>by omega)
structure FlB(w:World)(bf be r:Nat)(f:Fl)(s:Sl)(e:El)(l:Tz)(es:List E3):Prop where
 blk:Ar w bf (flC be f s)
 el:pJ w be r e l
 vN:Nu w s es
 ne:bf≠be
theorem FlB.Ai{w w':World}{bf be r:Nat}{f:Fl}{s:Sl}{e:El}{l:Tz}{es:List E3}(h:FlB w bf be r f s e l es)(u:Ah w w'):FlB w' bf be r f s e l es:=⟨h.blk.Ai u,h.el.Ai u,h.vN.Ai u,h.ne⟩
theorem Nu.nil(w:World):Nu w (none,0,0) []:=⟨rfl,λh=>absurd rfl h⟩
theorem Rn.cl{me r0 r1 r2 r3:Int}{w:World}{k:TR [(false,[.p]),(false,[KI])]→WP}
  (h0:(me<0∨64≤me∨flG r0 r1 r2 r3=false)→ ∀w',Ah w w'→k ((none,()),(1,()),()) w')
  (h1:0≤me→me<64→flG r0 r1 r2 r3=true→ ∀bf be m w',w.heap.size≤bf→w.heap.size≤be→w.heap.size≤m→FlB w' bf be m ⟨me,r0,r1,r2,r3,0,0,0⟩ (none,0,0) ⟨me,r0,r1,0,0,-1,0,0⟩ [] []→Ah w w'→k ((some ⟨bf,0,none⟩,()),(0,()),()) w'):
  Ad prog F.Rn [iV me,.agg #[iV r0,iV r1,iV r2,iV r3]] w true [(false,[.p]),(false,[KI])] k:=by
 refine Rn.ok ?_
 refine Ae λp1 w2 e1 k1 u1=>?_
 refine k1.cA (cs:=[KI,KI,KI,KI]) (r0,r1,r2,r3,()) rfl (Gz.cl λw5 u5=>En (λc=>h0 (.inr (.inr c)) w5 (u1.trans u5)) λc3=>?_)
 have c3:flG r0 r1 r2 r3=true:=c3
 have g5:=u1.trans u5
 have k5:=k1.Ai u5
 refine k5.cN 0 (cs:=[KI,KI]) (r0,r1,()) rfl (V3.cl (λc w8 u8=>?_) λc1 c2 c4 be m w8 lb lm E8 u8=>?_)
 ·refine We rfl ?_
  rcases c with c|c|c
  ·exact h0 (.inl c) w8 (g5.trans u8)
  ·exact h0 (.inr (.inl c)) w8 (g5.trans u8)
  ·rw[(Vg.1 c3).1] at c;cases c
 ·refine Le rfl ((k5.Ai u8).cA (cs:=[KI,KI,KI,KI]) (r0,r1,r2,r3,()) rfl (Ae λbf w11 eb kb ub=>?_))
  have s8:=(g5.trans u8).size
  have s5:=g5.size
  have ne:bf≠be:=by have:=E8.blk.lt;omega
  exact h1 c1 c2 c3 bf be m w11 (by omega) (by omega) (by omega) ⟨kb,E8.Ai ub,Nu.nil _,ne⟩ ((g5.trans u8).trans ub)
theorem A8.cl{b r:Nat}{e:El}{l:Tz}{w:World}(hB:pJ w b r e l){k:TR [(false,[.b])]→WP}
  (h: ∀w',Ah w w'→k (((e.root==e.me),()),()) w'):Ad prog F.A8 [.pointer (some ⟨b,0,none⟩)] w false [(false,[.b])] k:=by
 refine A8.ok ?_
 rw[Aq]
 refine We rfl ?_
 rw[Ac]
 refine hB.blk.drew.i1 5 rfl ?_
 rw[Ac]
 exact hB.blk.drew.i0 rfl (h _ (Ah.drew w))
theorem C9.at{w:World}{a:Addr}{s:Sl}(hc:w.cell? a=some (.slice s.1 s.2.1 s.2.2)){k:TR [(false,[KI])]→WP}(hk:k (((s.2.1:Int),()),()) w):
  Ad prog F.C9 [.pointer (some a)] w false [(false,[KI])] k:=by
 refine C9.ok ?_
 refine Le rfl ?_
 rw[Ac]
 exact Tt (x:=s) hc rfl hk
def Xm(f:Fl)(e:El)(n:Nat):Bool:=(e.root==e.me)||decide ((n:Int)≥f.need)
theorem Az.cl{bf be r:Nat}{f:Fl}{s:Sl}{e:El}{l:Tz}{es:List E3}{w:World}(hB:FlB w bf be r f s e l es){k:TR [(false,[.b])]→WP}
  (h: ∀w',Ah w w'→k ((Xm f e es.length,()),()) w'):Ad prog F.Az [.pointer (some ⟨bf,0,none⟩)] w false [(false,[.b])] k:=by
 refine Az.ok ?_
 rw[Aq]
 refine We rfl ?_
 rw[Ac]
 have hD:=hB.Ai (Ah.drew w)
 refine hD.blk.c0 (c:=.p) (x:=some ⟨be,0,none⟩) rfl (A8.cl hD.el λw5 u1=>⟨⟨hD.blk.hold u1 (λx=>x) 0 (by simp[flC]),trivial⟩,?_⟩)
 have hD2:=hD.Ai u1
 have g2:=(Ah.drew w).trans u1
 unfold Xm at h
 refine bQ (λc=>?_) λc=>?_
 ·have c:(e.root==e.me)=true:=c
  rw[c] at h
  exact h _ g2
 ·have c:(e.root==e.me)=false:=c
  rw[c] at h
  rw[Ac,Ac]
  refine hD2.blk.c2 2 2 (x:=f.need) rfl ?_
  have hc:w5.cell? (Addr.add ⟨bf,0,none⟩ 6)=some (.slice s.1 s.2.1 s.2.2):=by rw[Lr,Nat.zero_add,hD2.blk.cell];rfl
  refine C9.at hc ⟨⟨hD2.blk.Zo (Ah.refl _) (λx=>x) 2 2 (by simp[flC]),hD.blk.hold u1 (λx=>x) 0 (by simp[flC]),trivial⟩,?_⟩
  rw[hD2.vN.len]
  exact h _ g2
end Go.Proofs.YtppeepkmnijdpaaGreatDoor
