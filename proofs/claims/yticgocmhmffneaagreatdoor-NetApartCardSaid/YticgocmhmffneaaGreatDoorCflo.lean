import Derived.Test.YticgocmhmffneaaGreatDoorMcC
namespace Go.Proofs.YticgocmhmffneaaGreatDoor
open Go.Eng Go Tryz
set_option linter.unusedSimpArgs false
set_option linter.unusedVariables false
set_option maxRecDepth 100000
set_option maxHeartbeats 8000000
abbrev MK:List CK:=[KU,KU]
structure El where
  me:Int
  tmo:Int
  ign:Int
  boot:Int
  seq:Int
  root:Int
  beats:Int
  quiet:Int
def lI(e:El)(q:Option Nat):List Value:=[iV e.me,iV e.tmo,iV e.ign,uV e.boot,uV e.seq,iV e.root,iV e.beats,iV e.quiet,.map q]
abbrev Um:=List (Int×Jf MK)
structure oJ(w:World)(b r:Nat)(e:El)(l:Um):Prop where
  blk:Az w b (lI e (some r))
  map:Zr w r true MK l
theorem Zr.ne{w:World}{r b:Nat}{cs:List Value}{ag:Bool}{ks:List CK}{l:List (Int×Jf ks)}(h:Zr w r ag ks l)(k:Az w b cs):b≠r:=by
  intro e;subst e
  obtain⟨es,c,h1,_⟩:=h
  obtain⟨t,h2⟩:=k
  rw[h1] at h2;cases h2
theorem oJ.upd{S:NP}{w w':World}{b r:Nat}{e:El}{l:Um}(h:oJ w b r e l)(u:Am S w w')(h1: ¬S b)(h2: ¬S r):oJ w' b r e l:=⟨h.blk.upd u h1,h.map.upd u h2⟩
theorem oJ.Ai{w w':World}{b r:Nat}{e:El}{l:Um}(h:oJ w b r e l)(u:Af w w'):oJ w' b r e l:=h.upd u (fun x=>x) fun x=>x
structure Fl where
  me:Int
  tmo:Int
  ign:Int
  need:Int
  Aw:Int
  ll:Int
  lg:Int
  lh:Int
def flC(be:Nat)(f:Fl)(s:Sl):List Value:=[.pointer (some ⟨be,0,none⟩),iV f.me,iV f.tmo,iV f.ign,iV f.need,iV f.Aw,.slice s.1 s.2.1 s.2.2,iV f.ll,iV f.lg,iV f.lh]
def rP(r0 r1:Int):Bool:=decide (1≤r0)&&decide (r0≤1000)&&decide (0≤r1)&&decide (r1≤1000)
def tV(r0 r1 r2 r3:Int):Bool:=rP r0 r1&&decide (1≤r2)&&decide (r2≤8)&&decide (0≤r3)&&decide (r3≤10)
theorem lF{a b:Int}:rP a b=true↔1≤a∧a≤1000∧0≤b∧b≤1000:=by unfold rP;simp[and_assoc]
theorem Ya{a b c d:Int}:tV a b c d=true↔rP a b=true∧1≤c∧c≤8∧0≤d∧d≤10:=by unfold tV;simp[and_assoc]
theorem Hq.cl{r0 r1:Int}{w:World}{k:TR [(false,[.b])]→WP}(h: ∀w',Af w w'→k ((rP r0 r1,()),()) w'):Ae prog F.Hq [.agg #[iV r0,iV r1]] w false [(false,[.b])] k:=by
  refine Hq.ok ?_
  unfold Hq.wp
  refine Ad fun p1 w2 e1 k1 u1=>?_
  have key: ∀b:Bool,(b=true↔1≤r0∧r0≤1000∧0≤r1∧r1≤1000)→k ((b,()),()) w2:=fun b hb=>by
    have:b=rP r0 r1:=by rw[Bool.eq_iff_iff,hb,lF]
    rw[this];exact h w2 u1
  refine k1.i0 rfl (Dx (fun c1=>k1.i0 rfl (Dx (fun c2=>k1.i1 1 rfl (Dx (fun c3=>k1.i1 1 rfl (key _ ?_)) fun c3=>key _ ?_)) fun c2=>key _ ?_)) fun c1=>key _ ?_)<;>((try replace c1:r0≥1:=c1);(try replace c1: ¬r0≥1:=c1);(try replace c2:r0≤1000:=c2);(try replace c2: ¬r0≤1000:=c2);(try replace c3:r1≥0:=c3);(try replace c3: ¬r1≥0:=c3);(try show decide (r1≤1000)=true↔_);simp;omega)
theorem Hu.cl{r0 r1 r2 r3:Int}{w:World}{k:TR [(false,[.b])]→WP}(h: ∀w',Af w w'→k ((tV r0 r1 r2 r3,()),()) w'):Ae prog F.Hu [.agg #[iV r0,iV r1,iV r2,iV r3]] w false [(false,[.b])] k:=by
  refine Hu.ok ?_
  unfold Hu.wp
  refine Ad fun p1 w2 e1 k1 u1=>?_
  refine k1.cN 0 (cs:=[KI,KI]) (r0,r1,()) rfl (Hq.cl fun w5 u5=>?_)
  have key: ∀b:Bool,(b=true↔rP r0 r1=true∧1≤r2∧r2≤8∧0≤r3∧r3≤10)→k ((b,()),()) w5:=fun b hb=>by
    have:b=tV r0 r1 r2 r3:=by rw[Bool.eq_iff_iff,hb,Ya]
    rw[this];exact h w5 (u1.trans u5)
  have q:=k1.Ai u5
  dsimp only
  refine bM (fun c0=>q.i1 2 rfl (Dx (fun c1=>q.i1 2 rfl (Dx (fun c2=>q.i1 3 rfl (Dx (fun c3=>q.i1 3 rfl (key _ ?_)) fun c3=>key _ ?_)) fun c2=>key _ ?_)) fun c1=>key _ ?_)) fun c0=>key _ ?_
  all_goals (have c0:rP r0 r1=_:=c0;rw[c0];(try replace c1:r2≥1:=c1);(try replace c1: ¬r2≥1:=c1);(try replace c2:r2≤8:=c2);(try replace c2: ¬r2≤8:=c2);(try replace c3:r3≥0:=c3);(try replace c3: ¬r3≥0:=c3);(try show decide (r3≤10)=true↔_);simp)
  all_goals omega
theorem Hr.cl{b:Nat}{q:Option Nat}{e:El}{boot:Int}{w:World}(hB:Az w b (lI e q)){k:TR []→WP}
    (h: ∀w' m,w.heap.size≤m→oJ w' b m {e with boot:=boot,seq:=0,root:= -1,beats:=0,quiet:=0} []→Am (fun x=>x=b) w w'→k () w'):
    Ae prog F.Hr [.pointer (some ⟨b,0,none⟩),uV boot] w true [] k:=by
  refine Hr.ok ?_
  unfold Hr.wp
  refine Vt rfl ?_
  rw[Be,Ac]
  have lb:=hB.lt
  have B:=hB.drew
  refine B.i0 rfl ?_
  rw[Ac]
  refine B.cN 1 (cs:=[KI,KI]) (e.tmo,e.ign,()) rfl (Amn true MK fun m w7 e6 M6 u6=>⟨?_,?_⟩)
  · exact⟨B.X3 u6 (fun x=>x) 1 0 (by simp[lI]),B.X3 u6 (fun x=>x) 1 1 (by simp[lI]),B.hold u6 (fun x=>x) 0 (by simp[lI]),trivial⟩
  · rw[Ac]
    have g7:=(Af.drew w).trans u6
    refine(hB.Ai g7).Fg _ rfl rfl fun w9 k9 u9=>⟨trivial,?_⟩
    have lm:w.heap.size≤m:=by have:w.drew.heap.size=w.heap.size:=rfl;omega
    refine h w9 m lm ⟨k9,M6.upd u9 (by omega)⟩ (Am.trans (Am.Bj g7) u9 fun i hi h=>h)
theorem Wv.cl{me r0 r1:Int}{w:World}{k:TR [(false,[.p]),(false,[KI])]→WP}
    (h0:(me<0∨64≤me∨rP r0 r1=false)→ ∀w',Af w w'→k ((none,()),(1,()),()) w')
    (h1:0≤me→me<64→rP r0 r1=true→ ∀b m w',w.heap.size≤b→w.heap.size≤m→oJ w' b m ⟨me,r0,r1,0,0,-1,0,0⟩ []→Af w w'→k ((some ⟨b,0,none⟩,()),(0,()),()) w'):
    Ae prog F.Wv [iV me,.agg #[iV r0,iV r1]] w true [(false,[.p]),(false,[KI])] k:=by
  refine Wv.ok ?_
  unfold Wv.wp
  refine Ad fun p1 w2 e1 k1 u1=>?_
  refine Dx (fun c=>h0 (.inl c) w2 u1) fun c1=>Dx (fun c=>h0 (.inr (.inl c)) w2 u1) fun c2=>?_
  have c1: ¬me<0:=c1
  have c2: ¬me≥64:=c2
  refine k1.ld2 (Hq.cl fun w5 u5=>Ee (fun c=>h0 (.inr (.inr c)) w5 (u1.trans u5)) fun c3=>(k1.Ai u5).ld2 ?_)
  refine Ad fun p7 w8 e7 k7 u7=>?_
  have g8:=(u1.trans u5).trans u7
  have s5:=(u1.trans u5).size
  refine Hr.cl (q:=none) (e:=⟨me,r0,r1,0,0,0,0,0⟩) k7 fun w10 m lm E10 u10=>?_
  refine h1 (by omega) (by omega) c3 p7 m w10 (by omega) (by have:=u7.size;omega) E10 (Am.trans g8 u10 fun i hi h=>by omega)
structure FlB(w:World)(bf be r:Nat)(f:Fl)(s:Sl)(e:El)(l:Um)(es:List E3):Prop where
  blk:Az w bf (flC be f s)
  el:oJ w be r e l
  Abt:Ku w s es
  ne:bf≠be
theorem FlB.Ai{w w':World}{bf be r:Nat}{f:Fl}{s:Sl}{e:El}{l:Um}{es:List E3}(h:FlB w bf be r f s e l es)(u:Af w w'):FlB w' bf be r f s e l es:=⟨h.blk.Ai u,h.el.Ai u,h.Abt.Ai u,h.ne⟩
theorem FlB.upd{S:NP}{w w':World}{bf be r:Nat}{f:Fl}{s:Sl}{e:El}{l:Um}{es:List E3}(h:FlB w bf be r f s e l es)(u:Am S w w')(h1: ¬S bf)(h2: ¬S be)(h3: ¬S r)(h4: ∀a,s.1=some a→ ¬S a.block):FlB w' bf be r f s e l es:=⟨h.blk.upd u h1,h.el.upd u h2 h3,Row.upd h.Abt u h4,h.ne⟩
theorem Ku.nil(w:World):Ku w (none,0,0) []:=⟨rfl,fun h=>absurd rfl h⟩
theorem Ui.cl{me r0 r1 r2 r3:Int}{w:World}{k:TR [(false,[.p]),(false,[KI])]→WP}
    (h0:(me<0∨64≤me∨tV r0 r1 r2 r3=false)→ ∀w',Af w w'→k ((none,()),(1,()),()) w')
    (h1:0≤me→me<64→tV r0 r1 r2 r3=true→ ∀bf be m w',w.heap.size≤bf→w.heap.size≤be→w.heap.size≤m→FlB w' bf be m ⟨me,r0,r1,r2,r3,0,0,0⟩ (none,0,0) ⟨me,r0,r1,0,0,-1,0,0⟩ [] []→Af w w'→k ((some ⟨bf,0,none⟩,()),(0,()),()) w'):
    Ae prog F.Ui [iV me,.agg #[iV r0,iV r1,iV r2,iV r3]] w true [(false,[.p]),(false,[KI])] k:=by
  refine Ui.ok ?_
  unfold Ui.wp
  refine Ad fun p1 w2 e1 k1 u1=>?_
  refine k1.cA (cs:=[KI,KI,KI,KI]) (r0,r1,r2,r3,()) rfl (Hu.cl fun w5 u5=>Ee (fun c=>h0 (.inr (.inr c)) w5 (u1.trans u5)) fun c3=>?_)
  have c3:tV r0 r1 r2 r3=true:=c3
  have g5:=u1.trans u5
  have k5:=k1.Ai u5
  refine k5.cN 0 (cs:=[KI,KI]) (r0,r1,()) rfl (Wv.cl (fun c w8 u8=>?_) fun c1 c2 c4 be m w8 lb lm E8 u8=>?_)
  · refine Vt rfl ?_
    rcases c with c|c|c
    · exact h0 (.inl c) w8 (g5.trans u8)
    · exact h0 (.inr (.inl c)) w8 (g5.trans u8)
    · rw[(Ya.1 c3).1] at c;cases c
  · refine Jl rfl ((k5.Ai u8).cA (cs:=[KI,KI,KI,KI]) (r0,r1,r2,r3,()) rfl (Ad fun bf w11 eb kb ub=>?_))
    have s8:=(g5.trans u8).size
    have s5:=g5.size
    have ne:bf≠be:=by have:=E8.blk.lt;omega
    exact h1 c1 c2 c3 bf be m w11 (by omega) (by omega) (by omega) ⟨kb,E8.Ai ub,Ku.nil _,ne⟩ ((g5.trans u8).trans ub)
theorem Bc.cl{b r:Nat}{e:El}{l:Um}{w:World}(hB:oJ w b r e l){k:TR [(false,[.b])]→WP}
    (h: ∀w',Af w w'→k (((e.root==e.me),()),()) w'):Ae prog F.Bc [.pointer (some ⟨b,0,none⟩)] w false [(false,[.b])] k:=by
  refine Bc.ok ?_
  unfold Bc.wp
  rw[Be]
  refine Vt rfl ?_
  rw[Ac]
  refine hB.blk.drew.i1 5 rfl ?_
  rw[Ac]
  exact hB.blk.drew.i0 rfl (h _ (Af.drew w))
theorem Dk.at{w:World}{a:Addr}{s:Sl}(hc:w.cell? a=some (.slice s.1 s.2.1 s.2.2)){k:TR [(false,[KI])]→WP}(hk:k (((s.2.1:Int),()),()) w):
    Ae prog F.Dk [.pointer (some a)] w false [(false,[KI])] k:=by
  refine Dk.ok ?_
  unfold Dk.wp
  refine Jl rfl ?_
  rw[Ac]
  exact Zj (x:=s) hc rfl hk
def Xb(f:Fl)(e:El)(n:Nat):Bool:=(e.root==e.me)||decide ((n:Int)≥f.need)
theorem Ba.cl{bf be r:Nat}{f:Fl}{s:Sl}{e:El}{l:Um}{es:List E3}{w:World}(hB:FlB w bf be r f s e l es){k:TR [(false,[.b])]→WP}
    (h: ∀w',Af w w'→k ((Xb f e es.length,()),()) w'):Ae prog F.Ba [.pointer (some ⟨bf,0,none⟩)] w false [(false,[.b])] k:=by
  refine Ba.ok ?_
  unfold Ba.wp
  rw[Be]
  refine Vt rfl ?_
  rw[Ac]
  have hD:=hB.Ai (Af.drew w)
  refine hD.blk.c0 (c:=.p) (x:=some ⟨be,0,none⟩) rfl (Bc.cl hD.el fun w5 u1=>⟨⟨hD.blk.hold u1 (fun x=>x) 0 (by simp[flC]),trivial⟩,?_⟩)
  have hD2:=hD.Ai u1
  have g2:=(Af.drew w).trans u1
  unfold Xb at h
  refine bM (fun c=>?_) fun c=>?_
  · have c:(e.root==e.me)=true:=c
    rw[c] at h
    exact h _ g2
  · have c:(e.root==e.me)=false:=c
    rw[c] at h
    rw[Ac,Ac]
    refine hD2.blk.c2 2 2 (x:=f.need) rfl ?_
    have hc:w5.cell? (Addr.add ⟨bf,0,none⟩ 6)=some (.slice s.1 s.2.1 s.2.2):=by rw[N8,Nat.zero_add,hD2.blk.cell];rfl
    refine Dk.at hc ⟨⟨hD2.blk.X3 (Af.refl _) (fun x=>x) 2 2 (by simp[flC]),hD.blk.hold u1 (fun x=>x) 0 (by simp[flC]),trivial⟩,?_⟩
    rw[hD2.Abt.len]
    exact h _ g2
end Go.Proofs.YticgocmhmffneaaGreatDoor
