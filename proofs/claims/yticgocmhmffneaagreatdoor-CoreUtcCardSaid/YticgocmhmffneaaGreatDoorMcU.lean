import Derived.Test.YticgocmhmffneaaGreatDoorEngX
import Derived.Test.YticgocmhmffneaaGreatDoorSh
namespace Go.Proofs.YticgocmhmffneaaGreatDoor
open Go.Eng Go
set_option linter.unusedSimpArgs false
set_option linter.unusedVariables false
set_option maxRecDepth 100000
set_option maxHeartbeats 8000000
theorem Aq1(a b:Int):a<b∨b≤a:=by omega
def lpY(y:Int):Bool:=decide (y%4=0∧(y%100≠0∨y%400=0))
def Ajj(y m:Int):Int:=if m=2 then(if lpY y=true then 29 else 28) else if m=4∨m=6∨m=9∨m=11 then 30 else 31
def yrs(y:Int):Int:=365*(y-1)+(y-1)/4-(y-1)/100+(y-1)/400
def Ai8(y:Int):Nat→Int
 |0=>0
 |n+1=>Ai8 y n+Ajj y (n+1)
abbrev D3:=Int×Int×Int
def Ai3(d:D3):Prop:=1≤d.1∧d.1≤9999∧1≤d.2.1∧d.2.1≤12∧1≤d.2.2∧d.2.2≤Ajj d.1 d.2.1
instance instNnCcal_845 (d:D3):Decidable (Ai3 d):=by unfold Ai3;exact inferInstance
def Aqw(d:D3):Bool:=decide (Ai3 d)
def Anx(d:D3):Int:= -719162+yrs d.1+Ai8 d.1 (d.2.1-1).toNat+d.2.2-1
theorem Ajz(y m:Int):28≤Ajj y m∧Ajj y m≤31:=by unfold Ajj;split<;>(try split)<;>omega
theorem Ard(y:Int):yrs (y+1)=yrs y+365+(if lpY y=true then 1 else 0):=by
 unfold yrs lpY
 simp only[decide_eq_true_eq]
 split<;>omega
theorem Au4{a b:Int}(h:a<b):yrs a+365≤yrs b:=by
 unfold yrs
 have h1:(a-1)/400≤(b-1)/400:=by omega
 have h2:(a-1)/4-(a-1)/100≤(b-1)/4-(b-1)/100:=by omega
 omega
theorem Ax0(y:Int):Ai8 y 12=365+(if lpY y=true then 1 else 0):=by
 simp only[Ai8,Ajj]
 cases lpY y<;>simp
theorem An7(y:Int)(a b:Nat)(h:a≤b):Ai8 y a≤Ai8 y b:=by
 induction b with
 |zero=>have:a=0:=by omega
        subst this;exact Int.le_refl _
 |succ b ih=>
  rcases Nat.lt_or_ge b a with h1|h1
  ·have:a=b+1:=by omega
   subst this;exact Int.le_refl _
  ·have:=ih h1
   have:=(Ajz y (b+1)).1
   simp only[Ai8];omega
theorem As8(y:Int)(a:Nat):0≤Ai8 y a:=An7 y 0 a (by omega)
theorem As4{d:D3}(h:Ai3 d):1≤Ai8 d.1 (d.2.1-1).toNat+d.2.2∧Ai8 d.1 (d.2.1-1).toNat+d.2.2≤Ai8 d.1 d.2.1.toNat∧Ai8 d.1 d.2.1.toNat≤Ai8 d.1 12:=by
 obtain⟨h1,h2,h3,h4,h5,h6⟩:=h
 have e:d.2.1.toNat=(d.2.1-1).toNat+1:=by omega
 have e2:(((d.2.1-1).toNat:Int)+1)=d.2.1:=by omega
 have:=As8 d.1 (d.2.1-1).toNat
 refine⟨by omega,?_,An7 _ _ _ (by omega)⟩
 rw[e];simp only[Ai8]
 rw[e2];omega
theorem Apx{d:D3}(h:Ai3 d): -719162+yrs d.1≤Anx d∧Anx d< -719162+yrs (d.1+1):=by
 have:=As4 h
 have c:=Ax0 d.1
 rw[Ard]
 unfold Anx
 omega
def Arl(d:D3):Int:=(d.1*13+d.2.1)*32+d.2.2
theorem Atn{a b:D3}(ha:Ai3 a)(hb:Ai3 b)(h:Arl a<Arl b):Anx a<Anx b:=by
 have i1:=As4 ha
 have i2:=As4 hb
 have y1:=Apx ha
 have y2:=Apx hb
 obtain⟨a1,a2,a3,a4,a5,a6⟩:=ha
 obtain⟨b1,b2,b3,b4,b5,b6⟩:=hb
 have m1:=(Ajz a.1 a.2.1).2
 have m2:=(Ajz b.1 b.2.1).2
 unfold Arl at h
 rcases Int.lt_trichotomy a.1 b.1 with c|c|c
 ·rcases Aq1 (a.1+1) b.1 with c2|c2
  ·have:=Au4 c2;omega
  ·have:a.1+1=b.1:=by omega
   rw[←this] at y2;omega
 ·unfold Anx
  rw[←c] at h i2⊢
  rcases Int.lt_trichotomy a.2.1 b.2.1 with e|e|e
  ·have:=An7 a.1 a.2.1.toNat (b.2.1-1).toNat (by omega)
   omega
  ·rw[←e] at h⊢;omega
  ·omega
 ·omega
theorem Avb{a b:D3}(ha:Ai3 a)(hb:Ai3 b)(h:Arl a=Arl b):a=b:=by
 obtain⟨a1,a2,a3,a4,a5,a6⟩:=ha
 obtain⟨b1,b2,b3,b4,b5,b6⟩:=hb
 have m1:=(Ajz a.1 a.2.1).2
 have m2:=(Ajz b.1 b.2.1).2
 unfold Arl at h
 obtain⟨x,y,z⟩:=a
 obtain⟨x',y',z'⟩:=b
 dsimp only at*
 have:x=x':=by omega
 have:y=y':=by omega
 have:z=z':=by omega
 subst_vars;rfl
theorem Avg{a b:D3}(ha:Ai3 a)(hb:Ai3 b)(h:Anx a=Anx b):a=b:=by
 rcases Int.lt_trichotomy (Arl a) (Arl b) with c|c|c
 ·have:=Atn ha hb c;omega
 ·exact Avb ha hb c
 ·have:=Atn hb ha c;omega
abbrev U6:=Int×Int×Int×Int×Int×Int
end Go.Proofs.YticgocmhmffneaaGreatDoor
namespace Go.Proofs.YticgocmhmffneaaGreatDoor
open Go.Eng Go Tryz
open Go.IntKind (wrap)
set_option linter.unusedSimpArgs false
set_option linter.unusedVariables false
set_option maxRecDepth 100000
set_option maxHeartbeats 8000000
abbrev Ajt:List (Bool×List CK):=[(false,[KI])]
abbrev RB1:List (Bool×List CK):=[(false,[.b])]
abbrev K3:List CK:=[KI,KI,KI]
abbrev tD(d:D3):Jf K3:=(d.1,d.2.1,d.2.2,())
abbrev vD(d:D3):Value:=.agg #[iV d.1,iV d.2.1,iV d.2.2]
theorem Atf{x n:Int}(hx:0≤x):Int.tmod x n=x%n:=Int.tmod_eq_emod_of_nonneg hx
theorem Atl{x n:Int}(hx:0≤x):Int.tdiv x n=x/n:=Int.tdiv_eq_ediv_of_nonneg hx
theorem bq{b:Bool}{p:Prop}[Decidable p](h:b=true↔p):b=decide p:=by
 rw[Bool.eq_iff_iff,decide_eq_true_iff];exact h
theorem Acr.cl{y:Int}(hy:0≤y){w:World}{k:TR RB1→WP}(h:k ((lpY y,()),()) w):Ae prog F.Acr [iV y] w false RB1 k:=by
 refine Acr.ok ?_
 unfold Acr.wp
 simp only[Atf hy]
 rw[Pg (by decide)]
 unfold lpY at h
 refine Yl (λc1=>?_) λc1=>?_
 ·rw[Pg (by decide)]
  refine bK (λc2=>?_) λc2=>?_
  ·rw[decide_eq_true (by omega)] at h;exact h
  ·rw[Pg (by decide)]
   have e:((y%400)==0)=decide (y%4=0∧(y%100≠0∨y%400=0)):=bq (by rw[beq_iff_eq];omega)
   rw[e];exact h
 ·rw[decide_eq_false (by omega)] at h;exact h
theorem Acz.cl{y:Int}(hy:0≤y){w:World}{k:TR RB1→WP}(h:k ((lpY y,()),()) w):Ae prog F.Acz [iV y] w false RB1 k:=by
 refine Acz.ok ?_
 unfold Acz.wp
 simp only[Atf hy]
 rw[Pg (by decide)]
 unfold lpY at h
 refine Yl (λc1=>?_) λc1=>?_
 ·rw[decide_eq_true (by omega)] at h;exact h
 ·rw[Pg (by decide)]
  refine Yl (λc2=>?_) λc2=>?_
  ·rw[Pg (by decide)]
   have e:((y%100) !=0)=decide (y%4=0∧(y%100≠0∨y%400=0)):=bq (by rw[bne_iff_ne];omega)
   rw[e];exact h
  ·rw[decide_eq_false (by omega)] at h;exact h
theorem Aad.cl{y m:Int}(hy:0≤y)(h1:1≤m)(h2:m≤12){w:World}{k:TR Ajt→WP}(h:k ((Ajj y m,()),()) w):Ae prog F.Aad [iV y,iV m] w false Ajt k:=by
 refine Aad.ok ?_
 unfold Aad.wp
 have key:(m≠2∨lpY y=false)→ ∀{A:Int→Prop},A (Ajj y m)→aiK [0,31,28,31,30,31,30,31,31,30,31,30,31] 13 m A:=by
  intro hm A hA
  have hc:m=1∨m=2∨m=3∨m=4∨m=5∨m=6∨m=7∨m=8∨m=9∨m=10∨m=11∨m=12:=by omega
  unfold Ajj at hA
  rcases hc with rfl|rfl|rfl|rfl|rfl|rfl|rfl|rfl|rfl|rfl|rfl|rfl
  all_goals first
   |exact hA
   |(rcases hm with hm|hm
     ·exact absurd rfl hm
     ·rw[hm] at hA;exact hA)
 refine Yl (λc=>?_) λc=>key (.inl c) h
 refine Acr.cl hy (bM (λc2=>?_) λc2=>key (.inr c2) h)
 have e:Ajj y m=29:=by unfold Ajj;rw[if_pos c,if_pos c2]
 rw[e] at h;exact h
theorem Acp.cl{y m:Int}(hy:0≤y){w:World}{k:TR Ajt→WP}(h:k ((Ajj y m,()),()) w):Ae prog F.Acp [iV y,iV m] w false Ajt k:=by
 refine Acp.ok ?_
 unfold Acp.wp
 unfold Ajj at h
 refine Cc.by (λz w'=>w'=w∧z.1=decide (m=4∨m=6∨m=9∨m=11)) ?_ ?_
 ·refine Yl (λc=>⟨rfl,?_⟩) λc1=>Yl (λc=>⟨rfl,?_⟩) λc2=>Yl (λc=>⟨rfl,?_⟩) λc3=>⟨rfl,?_⟩
  ·exact bq (by simp;omega)
  ·exact bq (by simp;omega)
  ·exact bq (by simp;omega)
  ·exact bq (by simp;omega)
 ·rintro⟨z,_⟩ _ ⟨rfl,hz⟩ _
  dsimp only at hz
  subst hz
  refine Dx (λc=>?_) λc=>Yl (λc2=>?_) λc2=>?_
  ·rw[if_neg (by omega),if_pos c] at h;exact h
  ·rw[if_pos c2] at h
   exact Acz.cl hy (bM (λc3=>by rw[if_pos c3] at h;exact h) λc3=>by have c3:lpY y=false:=c3;rw[if_neg (by rw[c3];simp)] at h;exact h)
  ·rw[if_neg c2,if_neg c] at h;exact h
theorem Att{d:D3}{b:Bool}(h:b=true↔Ai3 d):b=Aqw d:=bq h
theorem Afs.cl{d:D3}{w:World}{k:TR RB1→WP}(h: ∀w',Af w w'→k ((Aqw d,()),()) w'):Ae prog F.Afs [vD d] w false RB1 k:=by
 refine Afs.ok ?_
 unfold Afs.wp
 refine Ad λp1 w2 e1 k1 u1=>?_
 rw[Be]
 have k1:=k1.drew
 have g:=u1.trans (Af.drew _)
 generalize w2.drew=w3 at k1 g
 have no: ¬Ai3 d→ ∀{w'},Af w w'→k ((false,()),()) w':=λhn w' g'=>by
  have:=h w' g'
  rw[show Aqw d=false from decide_eq_false hn] at this;exact this
 refine k1.i0 rfl (Dx (λc1=>?_) λc=>no (λhg=>c hg.1) g)
 refine k1.i0 rfl (Dx (λc2=>?_) λc=>no (λhg=>c hg.2.1) g)
 refine k1.i1 1 rfl (Dx (λc3=>?_) λc=>no (λhg=>c hg.2.2.1) g)
 refine k1.i1 1 rfl (Dx (λc4=>?_) λc=>no (λhg=>c hg.2.2.2.1) g)
 refine k1.i1 2 rfl (Dx (λc5=>?_) λc=>no (λhg=>c hg.2.2.2.2.1) g)
 refine k1.i1 2 rfl (k1.i0 rfl (k1.i1 1 rfl ?_))
 have c1:d.1≥1:=c1
 have c2:d.1≤9999:=c2
 have c3:d.2.1≥1:=c3
 have c4:d.2.1≤12:=c4
 have c5:d.2.2≥1:=c5
 refine Acp.cl (by omega) ⟨⟨k1.hold (Af.refl _) (λx=>x) 2 (by simp),k1.hold (Af.refl _) (λx=>x) 2 (by simp),k1.hold (Af.refl _) (λx=>x) 1 (by simp),k1.hold (Af.refl _) (λx=>x) 1 (by simp),k1.hold (Af.refl _) (λx=>x) 0 (by simp),k1.hold (Af.refl _) (λx=>x) 0 (by simp),trivial⟩,?_⟩
 have e:decide (d.2.2≤Ajj d.1 d.2.1)=Aqw d:=Att (by rw[decide_eq_true_iff];unfold Ai3;omega)
 have:=h w3 g
 rw[←e] at this;exact this
theorem Ati{y:Int}(h1:1≤y)(h2:y≤20000):0≤yrs y∧yrs y≤8000000:=by unfold yrs;omega
theorem Aac.cl{y:Int}(h1:1≤y)(h2:y≤20000){w:World}{k:TR Ajt→WP}(h:k ((yrs y,()),()) w):Ae prog F.Aac [iV y] w false Ajt k:=by
 refine Aac.ok ?_
 unfold Aac.wp
 rw[Pg (by decide),Pg (by decide),Pg (by decide)]
 have e0:wrap .i64 (y-1)=y-1:=Ah (by unfold I64;omega)
 simp only[e0,Atl (show 0≤y-1 by omega)]
 rw[Ah (n:=365*(y-1)) (by unfold I64;omega),Ah (n:=(y-1)/4) (by unfold I64;omega),Ah (n:=(y-1)/100) (by unfold I64;omega),Ah (n:=(y-1)/400) (by unfold I64;omega),
  Ah (n:=365*(y-1)+(y-1)/4) (by unfold I64;omega),Ah (n:=365*(y-1)+(y-1)/4-(y-1)/100) (by unfold I64;omega),Ah (n:=365*(y-1)+(y-1)/4-(y-1)/100+(y-1)/400) (by unfold I64;omega)]
 exact h
theorem Atk(y:Int): ∀n:Nat,0≤Ai8 y n∧Ai8 y n≤31*n
 |0=>by simp[Ai8]
 |n+1=>by
  have:=Atk y n
  have:=Ajz y (n+1)
  simp only[Ai8];omega
theorem Ahn.cl{n:Int}(hn:I64 n){w:World}{k:TR [(true,K3),(false,[.b])]→WP}(h0:n< -719162∨2932896<n→ ∀w',Af w w'→k (tD (0,0,0),(false,()),()) w')
  (h1: -719162≤n→n≤2932896→ ∀d:D3,Ai3 d→Anx d=n→ ∀w',Af w w'→k (tD d,(true,()),()) w'):Ae prog F.Ahn [iV n] w true [(true,K3),(false,[.b])] k:=by
 refine Ahn.ok ?_
 unfold Ahn.wp
 have fin: ∀{p1:Nat} {W W':World},w.heap.size=p1→Af w W→Am (λx=>x=p1) W W'→Af w W':=λe g u=>Am.trans g u λi hi h=>by omega
 refine Ad λp1 w2 e1 k1 u1=>Dx (λc=>?_) λc1=>Dx (λc=>?_) λc2=>?_
 ·exact k1.Fg _ rfl rfl λw3 k3 u3=>k3.bC (h0 (.inl (by have c:n< -719162:=c;exact c)) w3 (fin e1 u1 u3))
 ·exact k1.Fg _ rfl rfl λw3 k3 u3=>k3.bC (h0 (.inr c) w3 (fin e1 u1 u3))
 have c1: ¬n< -719162:=c1
 have c2: ¬n>2932896:=c2
 have h1:=h1 (by omega) (by omega)
 have ea:wrap .i64 (n-Int.negSucc 719161)=n+719162:=by rw[Ah (by unfold I64;omega)];omega
 rw[Pg (by decide),ea,Atl (by omega),Ah (n:=(n+719162)/366) (by unfold I64;omega),Ah (n:=(n+719162)/366+1) (by unfold I64;omega)]
 refine Ci.by (λz W=>1≤z.1∧z.1≤9999∧yrs z.1≤n+719162∧Az W p1 [iV 0,iV 0,iV 0]∧Af w W)
  (λz=>(20000-z.1).toNat) ⟨by show 1≤(n+719162)/366+1;omega,by show(n+719162)/366+1≤9999;omega,by show yrs ((n+719162)/366+1)≤_;unfold yrs;omega,k1,u1⟩ ?_
 rintro⟨y,_⟩ W ⟨i1,i2,i3,hB,hG⟩ _
 dsimp only at i1 i2 i3
 rw[show wrap .i64 ((y,()).1+1)=y+1 from Ah (by show I64 (y+1);unfold I64;omega)]
 refine Aac.cl (by omega) (by omega) (Dx (λc=>?_) λc=>?_)
 ·have c:yrs (y+1)≤n+719162:=c
  have lt:y+1≤9999:=by
   rcases Aq1 (y+1) 10000 with h|h
   ·omega
   ·have:y+1=10000:=by omega
    rw[this] at c
    have:yrs 10000=3652059:=by decide
    omega
  exact⟨⟨by show(1:Int)≤y+1;omega,lt,c,hB,hG⟩,by show(20000-(y+1)).toNat<(20000-y).toNat;omega⟩
 ·have c: ¬yrs (y+1)≤n+719162:=c
  rw[Ard] at c
  refine Aac.cl i1 (by show y≤20000;omega) ?_
  have eb:wrap .i64 (n+719162-yrs y)=n+719162-yrs y:=Ah (by have:=Ati i1 (by omega:y≤20000);unfold I64;omega)
  rw[show wrap .i64 (n+719162-yrs (y,()).1)=n+719162-yrs y from eb]
  have y12:=Ax0 y
  refine Ci.by (λz W=> ∃i:Nat,i<12∧z.2.1=(i:Int)+1∧z.1=n+719162-yrs y-Ai8 y i∧0≤z.1∧Az W p1 [iV 0,iV 0,iV 0]∧Af w W)
   (λz=>(20-z.2.1).toNat) ⟨0,by omega,rfl,by simp[Ai8],by show 0≤n+719162-yrs y;omega,hB,hG⟩ ?_
  rintro⟨r,m,_⟩ W2 ⟨i,hi,e2,e3,e4,hB2,hG2⟩ _
  dsimp only at e2 e3 e4
  subst e2
  have ml:=Ajz y (i+1)
  have cr:=Atk y i
  refine Aad.cl (by show 0≤y;omega) (by show(1:Int)≤(i:Int)+1;omega) (by show(i:Int)+1≤12;omega) (Dx (λc2=>?_) λc2=>?_)
  ·have c2:r≥Ajj y ((i:Int)+1):=c2
   have i11:i<11:=by
    rcases Nat.lt_or_ge i 11 with h|h
    ·exact h
    ·have:i=11:=by omega
     subst this
     have:Ai8 y 12=Ai8 y 11+Ajj y ((11:Nat)+1:Int):=rfl
     omega
   have ew:wrap .i64 (r-Ajj y ((i:Int)+1))=r-Ajj y ((i:Int)+1):=Ah (by have:=Ati i1 (by omega:y≤20000);unfold I64;omega)
   refine Aad.cl (by show 0≤y;omega) (by show(1:Int)≤(i:Int)+1;omega) (by show(i:Int)+1≤12;omega) ⟨⟨i+1,by omega,?_,?_,?_,hB2,hG2⟩,?_⟩
   ·show wrap .i64 ((i:Int)+1+1)=_
    rw[Ah (by unfold I64;omega)];omega
   ·show wrap .i64 (r-Ajj y ((i:Int)+1))=_
    rw[ew];simp only[Ai8];omega
   ·show 0≤wrap .i64 (r-Ajj y ((i:Int)+1))
    rw[ew];omega
   ·show(20-wrap .i64 ((i:Int)+1+1)).toNat<(20-((i:Int)+1)).toNat
    rw[Ah (by unfold I64;omega)];omega
  ·have c2: ¬r≥Ajj y ((i:Int)+1):=c2
   have ew:wrap .i64 (r+1)=r+1:=Ah (by unfold I64;omega)
   refine hB2.Fg _ rfl rfl λw3 k3 u3=>k3.bC ?_
   have ei:((i:Int)+1-1).toNat=i:=by omega
   have:=h1 (y,(i:Int)+1,r+1) ⟨i1,i2,by show(1:Int)≤(i:Int)+1;omega,by show(i:Int)+1≤12;omega,by show(1:Int)≤r+1;omega,by show r+1≤Ajj y ((i:Int)+1);omega⟩
    (by show-719162+yrs y+Ai8 y ((i:Int)+1-1).toNat+(r+1)-1=n;rw[ei];omega) w3 (fin e1 hG2 u3)
   rw[show(wrap .i64 ((r,(i:Int)+1,()).1+1))=r+1 from ew]
   exact this
end Go.Proofs.YticgocmhmffneaaGreatDoor
namespace Go.Proofs.YticgocmhmffneaaGreatDoor
open Go.Eng Go Tryz
open Go.IntKind (wrap)
set_option linter.unusedSimpArgs false
set_option linter.unusedVariables false
set_option maxRecDepth 100000
set_option maxHeartbeats 8000000
abbrev K2:List CK:=[KI,KI]
abbrev P2:=Int×Int
abbrev L2:=List P2
def t2(l:P2):Jf K2:=(l.1,l.2,())
def Abg(w:World)(s:Sl)(ls:L2):Prop:=aP w s K2 (ls.map t2)
theorem Abg.len{w:World}{s:Sl}{ls:L2}(h:Abg w s ls):s.2.1=ls.length:=by
 have:=aP.len h (by decide);rwa [List.length_map] at this
theorem Abg.Ai{w w':World}{s:Sl}{ls:L2}(h:Abg w s ls)(u:Af w w'):Abg w' s ls:=aP.Ai h u
theorem Aoa{ls:L2}{i:Nat}{l:P2}(h:ls[i]? =some l):(ls.map t2)[i]? =some (t2 l):=by rw[List.getElem?_map,h];rfl
theorem Abg.ix{w:World}{s:Sl}{ls:L2}(h:Abg w s ls){z:Int}{i:Nat}{l:P2}(hz:z=i)(hi:ls[i]? =some l){k:Addr→Prop}(hk: ∀a,s.1=some a→k a):Ny s.1 s.2.1 z k:=
 aP.ix h (by decide) hz (Aoa hi) hk
theorem Abg.A8{w:World}{s:Sl}{ls:L2}(h:Abg w s ls){a:Addr}(ha:s.1=some a){i:Nat}{l:P2}(hi:ls[i]? =some l){k:Jf K2→Prop}(hk:k (l.1,l.2,())):Eng.A8 K2 (a.add (((i:Int)).toNat*2)) 0 w k:=
 aP.A8 h ha (Aoa hi) hk
theorem Abg.addr{w:World}{s:Sl}{ls:L2}(h:Abg w s ls){i:Nat}{l:P2}(hi:ls[i]? =some l): ∃a,s.1=some a:=aP.addr h (by decide) (Aoa hi)
theorem Abg.f0{w:World}{s:Sl}{ls:L2}(h:Abg w s ls){a:Addr}(ha:s.1=some a){i:Nat}{l:P2}(hi:ls[i]? =some l){z:Int}(hz:z=i){k:Int→Prop}(hk:k l.1):ld1 KI (a.add (z.toNat*2)) w k:=by
 subst hz
 have:=flat_get (Aoa hi) 0 (iV l.1) rfl
 refine Zj (Row.ld h ha this) (Jk _ _) hk
theorem Abg.f1{w:World}{s:Sl}{ls:L2}(h:Abg w s ls){a:Addr}(ha:s.1=some a){i:Nat}{l:P2}(hi:ls[i]? =some l){z:Int}(hz:z=i){k:Int→Prop}(hk:k l.2):ld1 KI ((a.add (z.toNat*2)).add 1) w k:=by
 subst hz
 rw[add_add]
 have:=flat_get (Aoa hi) 1 (iV l.2) rfl
 refine Zj (Row.ld h ha this) (Jk _ _) hk
structure TbL where
 st:Int
 ah:Int
 en:Int
 ls:L2
def ahS(a:Int):L2→Int→Int
 |[],_=>a
 |l::ls,day=>ahS (if l.1<day then a+l.2 else a) ls day
def Ai0:L2→Int→Int
 |[],_=>0
 |l::ls,day=>if l.1=day then l.2 else Ai0 ls day
def Asc(en:Int):Int→L2→Prop
 |_,[]=>True
 |lo,l::ls=>lo<l.1∧l.1<en∧Asc en l.1 ls
instance decAsc (en:Int):(lo:Int)→(ls:L2)→Decidable (Asc en lo ls)
 |_,[]=>.isTrue trivial
 |lo,l::ls=>by unfold Asc;have:=decAsc en l.1 ls;exact inferInstance
def Stp(l:P2):Prop:=l.2=1∨l.2= -1
instance instNnCleap_2971 (l:P2):Decidable (Stp l):=by unfold Stp;exact inferInstance
def Ap8(m:TbL):Prop:= -719162≤m.st∧m.st≤2932896∧ -719162≤m.en∧m.en≤2932896∧m.st<m.en∧0≤m.ah∧m.ah≤99
instance instNnCleap_3179 (m:TbL):Decidable (Ap8 m):=by unfold Ap8;exact inferInstance
def Alq(m:TbL):Int:=if¬Ap8 m then 1 else if¬(∀l∈m.ls,Stp l) then 1 else if 64<m.ls.length then 6 else if¬Asc m.en (m.st-1) m.ls then 12 else 0
def Ai5(m:TbL):Prop:=Ap8 m∧(∀l∈m.ls,Stp l)∧m.ls.length≤64∧Asc m.en (m.st-1) m.ls
theorem Auc{m:TbL}(h:Alq m=0):Ai5 m:=by
 unfold Alq at h
 split at h
 ·cases h
 split at h
 ·cases h
 split at h
 ·cases h
 split at h
 ·cases h
 rename_i h1 h2 h3 h4
 exact⟨Decidable.not_not.1 h1,Decidable.not_not.1 h2,by omega,Decidable.not_not.1 h4⟩
theorem Atq{m:TbL}(h:Ai5 m):Alq m=0:=by
 unfold Alq
 rw[if_neg (λx=>x h.1),if_neg (λx=>x h.2.1),if_neg (by have:=h.2.2.1;omega),if_neg (λx=>x h.2.2.2)]
theorem Aw5(ls:L2)(day:Int): ∀a c,ahS (a+c) ls day=ahS a ls day+c:=by
 induction ls with
 |nil=>intro a c;rfl
 |cons l ls ih=>
  intro a c
  simp only[ahS]
  split
  ·rw[show a+c+l.2=(a+l.2)+c by omega,ih]
  ·rw[ih]
theorem Aqz{ls:L2}(h: ∀l∈ls,Stp l)(day:Int): ∀a,a-ls.length≤ahS a ls day∧ahS a ls day≤a+ls.length:=by
 induction ls with
 |nil=>intro a;simp[ahS]
 |cons l ls ih=>
  intro a
  have hs:Stp l:=h l (by simp)
  unfold Stp at hs
  have ih:=ih λl hl=>h l (by simp[hl])
  simp only[ahS,List.length_cons]
  split
  ·have:=ih (a+l.2);omega
  ·have:=ih a;omega
theorem Asc.mem{en lo:Int}{ls:L2}(h:Asc en lo ls): ∀l∈ls,lo<l.1∧l.1<en:=by
 induction ls generalizing lo with
 |nil=>intro l hl;cases hl
 |cons x ls ih=>
  intro l hl
  obtain⟨h1,h2,h3⟩:=h
  rcases List.mem_cons.1 hl with rfl|hl
  ·exact⟨h1,h2⟩
  ·have:=ih h3 l hl;omega
theorem Apq{en lo:Int}{ls:L2}(h:Asc en lo ls){day:Int}(hd:day≤lo+1): ∀a,ahS a ls day=a:=by
 induction ls generalizing lo with
 |nil=>intro a;rfl
 |cons x ls ih=>
  intro a
  obtain⟨h1,h2,h3⟩:=h
  simp only[ahS]
  rw[if_neg (by omega),ih h3 (by omega)]
theorem Avj{en lo:Int}{ls:L2}(h:Asc en lo ls)(day:Int): ∀a,ahS a ls (day+1)=ahS a ls day+Ai0 ls day:=by
 induction ls generalizing lo with
 |nil=>intro a;simp[ahS,Ai0]
 |cons x ls ih=>
  intro a
  obtain⟨h1,h2,h3⟩:=h
  simp only[ahS,Ai0]
  by_cases c:x.1=day
  ·rw[if_pos c,if_pos (by omega),if_neg (by omega),Aw5,Apq h3 (by omega),Apq h3 (by omega)]
  ·rw[if_neg c]
   by_cases c2:x.1<day
   ·rw[if_pos (by omega),if_pos c2,ih h3]
   ·rw[if_neg (by omega),if_neg c2,ih h3]
theorem Aw4{ls:L2}(h: ∀l∈ls,Stp l)(day:Int): -1≤Ai0 ls day∧Ai0 ls day≤1:=by
 induction ls with
 |nil=>simp[Ai0]
 |cons l ls ih=>
  have hs:Stp l:=h l (by simp)
  unfold Stp at hs
  have ih:=ih λl hl=>h l (by simp[hl])
  simp only[Ai0]
  split<;>omega
abbrev cT(m:TbL)(s:Sl):List Value:=[iV m.st,iV m.ah,iV m.en,.slice s.1 s.2.1 s.2.2]
def TbW(w:World)(b:Nat)(m:TbL):Prop:= ∃s:Sl,Az w b (cT m s)∧Abg w s m.ls
theorem TbW.Ai{w w':World}{b:Nat}{m:TbL}(h:TbW w b m)(u:Af w w'):TbW w' b m:=by
 obtain⟨s,h1,h2⟩:=h;exact⟨s,h1.Ai u,h2.Ai u⟩
theorem TbW.drew{w:World}{b:Nat}{m:TbL}(h:TbW w b m):TbW w.drew b m:=h.Ai (Af.drew w)
theorem TbW.lt{w:World}{b:Nat}{m:TbL}(h:TbW w b m):b<w.heap.size:=by obtain⟨s,h1,_⟩:=h;exact h1.lt
def inR(m:TbL)(day:Int):Prop:=m.st≤day∧day<m.en
instance instNnCleap_7278 (m:TbL) (day:Int):Decidable (inR m day):=by unfold inR;exact inferInstance
theorem Ae5.cl{n:Int}{w:World}{k:TR RB1→WP}(h:k ((decide (-719162≤n∧n≤2932896),()),()) w):Ae prog F.Ae5 [iV n] w false RB1 k:=by
 refine Ae5.ok ?_
 unfold Ae5.wp
 refine Dx (λc=>?_) λc=>?_
 ·have c:n≥Int.negSucc 719161:=c
  rw[show decide (n≤2932896)=decide (-719162≤n∧n≤2932896) from bq (by rw[decide_eq_true_iff];omega)];exact h
 ·have c: ¬n≥Int.negSucc 719161:=c
  rw[decide_eq_false (by omega)] at h;exact h
theorem dJ.cl{l:P2}{w:World}{k:TR RB1→WP}(h: ∀w',Af w w'→k ((decide (¬Stp l),()),()) w'):Ae prog F.dJ [.agg #[iV l.1,iV l.2]] w false RB1 k:=by
 refine dJ.ok ?_
 unfold dJ.wp
 refine Ad λp1 w2 e1 k1 u1=>k1.i1 1 rfl (bK (λc=>k1.i1 1 rfl ?_) λc=>?_)
 ·have c:l.2≠1:=c
  have:=h w2 u1
  rw[show(l.2 !=Int.negSucc 0)=decide (¬Stp l) from bq (by unfold Stp;rw[bne_iff_ne];omega)];exact this
 ·have c:l.2=1:=c
  have:=h w2 u1
  rw[decide_eq_false (λx=>x (.inl c))] at this;exact this
theorem slices_IndexFunc.cl{s:Sl}{ls:L2}{w:World}(hR:Abg w s ls)(hn:ls.length≤1000000000){k:TR Ajt→WP}
  (h0:(∀l∈ls,Stp l)→ ∀w',Af w w'→k ((-1,()),()) w') (h1: ¬(∀l∈ls,Stp l)→ ∀(i:Nat) w',Af w w'→k ((i,()),()) w'):
  Ae prog F.rP [.slice s.1 s.2.1 s.2.2,.func (.func F.dJ) #[] #[]] w false Ajt k:=by
 refine Vj.ok ?_
 unfold Vj.wp
 have hl:=hR.len
 refine Ci.by (λz W=> ∃i:Nat,z.1=i∧i≤ls.length∧(∀l∈ls.take i,Stp l)∧Af w W) (λz=>((ls.length:Int)-z.1).toNat) ⟨0,rfl,by omega,by simp,Af.refl _⟩ ?_
 rintro⟨z,_⟩ W ⟨i,hz,hi,hs,hG⟩ _
 dsimp only at hz
 subst hz
 refine Dx (λc=>?_) λc=>?_
 ·have c:(i:Int)<s.2.1:=c
  have hi1:i<ls.length:=by omega
  have hx:ls[i]? =some ls[i]:=List.getElem?_eq_getElem hi1
  refine(hR.Ai hG).ix rfl hx λa ha=>(hR.Ai hG).A8 ha hx (dJ.cl λw7 u7=>Dx (λc2=>?_) λc2=>?_)
  ·exact h1 (λh=>c2 (h _ (List.getElem_mem hi1))) i w7 (hG.trans u7)
  ·have e:wrap .i64 ((i:Int)+1)=((i+1:Nat):Int):=by rw[Ah (by unfold I64;omega)];omega
   refine⟨⟨i+1,e,by omega,?_,hG.trans u7⟩,?_⟩
   ·intro l hl2
    rw[List.take_add_one,hx] at hl2
    rcases List.mem_append.1 hl2 with h|h
    ·exact hs l h
    ·simp at h;rw[h];exact Decidable.not_not.1 c2
   ·show((ls.length:Int)-wrap .i64 ((i:Int)+1)).toNat<((ls.length:Int)-(i:Int)).toNat
    rw[e];omega
 ·have c: ¬(i:Int)<s.2.1:=c
  have:i=ls.length:=by omega
  subst this
  rw[List.take_length] at hs
  exact h0 hs W hG
theorem slices_ContainsFunc.cl{s:Sl}{ls:L2}{w:World}(hR:Abg w s ls)(hn:ls.length≤1000000000){k:TR RB1→WP}
  (h: ∀w',Af w w'→k ((decide (¬ ∀l∈ls,Stp l),()),()) w'):
  Ae prog F.lI [.slice s.1 s.2.1 s.2.2,.func (.func F.dJ) #[] #[]] w false RB1 k:=by
 refine Tf.ok ?_
 unfold Tf.wp
 refine slices_IndexFunc.cl hR hn (λc w' u=>?_) λc i w' u=>?_
 ·have:=h w' u
  rw[decide_eq_false (λx=>x c)] at this;exact this
 ·have:=h w' u
  rw[decide_eq_true c] at this
  rw[show decide (((((i:Int),()),()):TR Ajt).1.1≥0)=true from decide_eq_true (Int.natCast_nonneg i)];exact this
theorem Ao7.cl{s:Sl}{ls:L2}{w:World}(hR:Abg w s ls)(hn:ls.length≤1000000)(hI: ∀l∈ls,I64 l.1∧I64 l.2){k:TR [(false,[.sl])]→WP}
  (h: ∀(s':Sl) w',Abg w' s' ls→Af w w'→k ((s',()),()) w'):
  Ae prog F.Kq [.slice s.1 s.2.1 s.2.2] w false [(false,[.sl])] k:=by
 refine Kq.ok ?_
 unfold Kq.wp
 have hl:=hR.len
 refine bM (λc=>?_) λc=>?_
 ·have e:ls=[]:=by
   cases ls with
   |nil=>rfl
   |cons l ls=>
    obtain⟨a,ha⟩:=hR.addr (i:=0) rfl
    rw[ha] at c;cases c
  subst e
  exact h (none,0,0) w ⟨rfl,λx=>absurd rfl x⟩ (Af.refl _)
 ·refine Zv 2 0 (by simp) (by omega) λb w2 e2 o2 u2=>?_
  refine Vx (s:=(some ⟨b,0,none⟩,0,0)) (x:=s) (e:=T.Ags) (size:=2) (base:=b) (by kernel_rfl) (by kernel_rfl) (by decide) o2 (Row.Ai hR u2) ?_ (by show 0+s.2.1≤_;omega) (by have:=(o2.blk rfl).2.1;show b≤_;exact Nat.le_of_lt this) λs' w4 o4 u4 hb=>?_
  ·intro u hu
   obtain⟨l,_,hu⟩:=List.mem_flatMap.1 hu
   simp only[encs,enc,List.mem_cons,List.not_mem_nil,or_false] at hu
   rcases hu with rfl|rfl<;>rfl
  ·refine h s' w4 ?_ (Am.trans u2 u4 λi hi ⟨a,ha,hb⟩=>?_)
   ·have:=o4.row;rw[List.nil_append] at this;exact this
   ·simp only[Option.some.injEq] at ha
    subst ha
    have hb:b=i:=hb
    omega
theorem Ae8.cl{m:TbL}{s:Sl}{w:World}(hR:Abg w s m.ls)(hn:m.ls.length≤1000000)(hI: ∀l∈m.ls,I64 l.1∧I64 l.2){k:TR [(false,[.p]),(false,[KI])]→WP}
  (h0:Alq m≠0→ ∀w',Af w w'→k ((none,()),(Alq m,()),()) w')
  (h1:Alq m=0→ ∀b w',w.heap.size≤b→TbW w' b m→Af w w'→k ((some ⟨b,0,none⟩,()),(0,()),()) w'):
  Ae prog F.Ae8 [iV m.st,iV m.ah,iV m.en,.slice s.1 s.2.1 s.2.2] w true [(false,[.p]),(false,[KI])] k:=by
 refine Ae8.ok ?_
 unfold Ae8.wp
 have hl:=hR.len
 have out1: ¬Ap8 m→ ∀{w'},Af w w'→k ((none,()),(1,()),()) w':=λhn w' g=>by
  have e:Alq m=1:=by unfold Alq;rw[if_pos hn]
  have:=h0 (by rw[e];decide) w' g
  rw[e] at this;exact this
 refine Ae5.cl (Ee (λc=>out1 (λh=>absurd (show-719162≤m.st∧m.st≤2932896 from⟨h.1,h.2.1⟩) (of_decide_eq_false c)) (Af.refl _)) λc1=>?_)
 refine Ae5.cl (Ee (λc=>out1 (λh=>absurd (show-719162≤m.en∧m.en≤2932896 from⟨h.2.2.1,h.2.2.2.1⟩) (of_decide_eq_false c)) (Af.refl _)) λc2=>?_)
 have c1: -719162≤m.st∧m.st≤2932896:=of_decide_eq_true c1
 have c2: -719162≤m.en∧m.en≤2932896:=of_decide_eq_true c2
 refine Dx (λc=>out1 (λh=>by have:=h.2.2.2.2.1;have c:m.st≥m.en:=c;omega) (Af.refl _)) λc3=>?_
 refine Dx (λc=>out1 (λh=>by have:=h.2.2.2.2.2.1;have c:m.ah<0:=c;omega) (Af.refl _)) λc4=>?_
 refine Dx (λc=>out1 (λh=>by have:=h.2.2.2.2.2.2;have c:m.ah>99:=c;omega) (Af.refl _)) λc5=>?_
 have c3: ¬m.st≥m.en:=c3
 have c4: ¬m.ah<0:=c4
 have c5: ¬m.ah>99:=c5
 have hr:Ap8 m:=⟨c1.1,c1.2,c2.1,c2.2,by omega,by omega,by omega⟩
 refine slices_ContainsFunc.cl hR (by omega) λw6 u6=>Dx (λc=>?_) λc6=>?_
 ·have e:Alq m=1:=by unfold Alq;rw[if_neg (λx=>x hr),if_pos c]
  have:=h0 (by rw[e];decide) w6 u6
  rw[e] at this;exact this
 have c6: ∀l∈m.ls,Stp l:=Decidable.not_not.1 c6
 refine Dx (λc=>?_) λc7=>?_
 ·have c:(s.2.1:Int)>64:=c
  have e:Alq m=6:=by unfold Alq;rw[if_neg (λx=>x hr),if_neg (λx=>x c6),if_pos (by omega)]
  have:=h0 (by rw[e];decide) w6 u6
  rw[e] at this;exact this
 have c7: ¬(s.2.1:Int)>64:=c7
 rw[Ah (n:=m.st-1) (by unfold I64;omega)]
 have out12: ¬Asc m.en (m.st-1) m.ls→ ∀{w'},Af w w'→k ((none,()),(12,()),()) w':=λhn w' g=>by
  have e:Alq m=12:=by unfold Alq;rw[if_neg (λx=>x hr),if_neg (λx=>x c6),if_neg (by omega),if_pos hn]
  have:=h0 (by rw[e];decide) w' g
  rw[e] at this;exact this
 refine Ci.by (λz W=> ∃i:Nat,z.2.1=i∧i≤m.ls.length∧(Asc m.en z.1 (m.ls.drop i)↔Asc m.en (m.st-1) m.ls)∧Af w W) (λz=>((m.ls.length:Int)-z.2.1).toNat) ⟨0,rfl,by omega,Iff.rfl,u6⟩ ?_
 rintro⟨lo,z,_⟩ W ⟨i,hz,hi,hA,hG⟩ _
 dsimp only at hz hA
 subst hz
 refine Dx (λc=>?_) λc=>?_
 ·have c:(i:Int)<s.2.1:=c
  have hi1:i<m.ls.length:=by omega
  have hx:m.ls[i]? =some m.ls[i]:=List.getElem?_eq_getElem hi1
  have hd:m.ls.drop i=m.ls[i]::m.ls.drop (i+1):=List.drop_eq_getElem_cons hi1
  rw[hd] at hA
  generalize m.ls[i]=x at*
  refine(hR.Ai hG).ix rfl hx λa ha=>(hR.Ai hG).A8 ha hx ?_
  refine Ad λp12 w13 e12 k12 u13=>k12.Fg _ rfl rfl λw14 k14 u14=>?_
  have g14:Af w w14:=Af.fresh hG u13 u14 e12
  refine k14.i0 rfl (Dx (λc2=>out12 (λh=>by have:=(hA.2 h).1;have c2:x.1≤lo:=c2;omega) g14) λc2=>?_)
  refine k14.i0 rfl (Dx (λc3=>out12 (λh=>by have:=(hA.2 h).2.1;have c3:x.1≥m.en:=c3;omega) g14) λc3=>k14.i0 rfl ?_)
  have c2: ¬x.1≤lo:=c2
  have c3: ¬x.1≥m.en:=c3
  have e:wrap .i64 ((i:Int)+1)=((i+1:Nat):Int):=by rw[Ah (by unfold I64;omega)];omega
  refine⟨⟨i+1,e,by omega,?_,g14⟩,?_⟩
  ·rw[←hA]
   exact⟨λh=>⟨by omega,by omega,h⟩,λh=>h.2.2⟩
  ·show((m.ls.length:Int)-wrap .i64 ((i:Int)+1)).toNat<((m.ls.length:Int)-(i:Int)).toNat
   rw[e];omega
 ·have c: ¬(i:Int)<s.2.1:=c
  have:i=m.ls.length:=by omega
  subst this
  rw[List.drop_length] at hA
  have hA:Asc m.en (m.st-1) m.ls:=hA.1 trivial
  refine Ao7.cl (hR.Ai hG) hn hI λs' w19 r19 u19=>Ad λp20 w21 e20 k20 u20=>?_
  have g:=hG.trans u19
  exact h1 (Atq ⟨hr,c6,by omega,hA⟩) p20 w21 (by have:=g.size;omega) ⟨s',k20,r19.Ai u20⟩ (g.trans u20)
end Go.Proofs.YticgocmhmffneaaGreatDoor
namespace Go.Proofs.YticgocmhmffneaaGreatDoor
open Go.Eng Go Go.RowKit Tryz
open Go.IntKind (wrap)
set_option linter.unusedSimpArgs false
set_option linter.unusedVariables false
set_option maxRecDepth 100000
set_option maxHeartbeats 8000000
abbrev RS2:List (Bool×List CK):=[(true,K2)]
def Amk(l:P2):TR RS2:=(t2 l,())
theorem Amv{i n:Nat}(hi:i<n)(hn:n≤1000000000):wrap .i64 ((i:Int)+1)=((i+1:Nat):Int):=by
 rw[Ah (by unfold I64;omega)];omega
theorem TbW.keep{B:Nat}{M:NP}{w w':World}{s:Sl}{ls:L2}(h:Abg w s ls)(u:wG B M w w')(hb:ls≠[]→ ∀a,s.1=some a→a.block<B∧ ¬M a.block):Abg w' s ls:=
 wG.row h u λhx=>hb λe=>hx (by subst e;rfl)
theorem Abg.blk{w:World}{s:Sl}{ls:L2}(h:Abg w s ls)(hx:ls≠[]){a:Addr}(ha:s.1=some a):a.block<w.heap.size:=by
 cases ls with
 |nil=>exact absurd rfl hx
 |cons l ls=>
  have:=flat_get (xs:=(l::ls).map t2) (i:=0) (x:=t2 l) rfl 0 (iV l.1) rfl
  have:=cell_lt (Row.ld h ha this)
  rwa [add_block] at this
theorem Ane.Ak2{w:World}{pb:Nat}{s:Sl}{ls:L2}{M:NP}{V:TR RS2→Prop}(hV: ∀l∈ls,V (Amk l))(hp:Az w pb [.slice s.1 s.2.1 s.2.2])(hR:Abg w s ls)(hn:ls.length≤1000000000)
  (hMp: ¬M pb) (hMs:ls≠[]→ ∀a,s.1=some a→ ¬M a.block):
  ItS prog (.func (.func F.Hm) #[] #[.pointer (some ⟨pb,0,none⟩)]) RS2 V (ls.map Amk) M w:=by
 refine Ahr (by kernel_rfl) λl J Jx W g hJ hJx hY h0=>?_
 refine Hm.ok ?_
 unfold Hm.wp
 have hl:=hR.len
 refine(hp.Ai g).sl0 ?_
 refine Ci.by (λz W'=> ∃i:Nat,z.1=i∧i≤ls.length∧J ((ls.map Amk).take i) W'∧Az W' pb [.slice s.1 s.2.1 s.2.2]∧Abg W' s ls)
  (λz=>((ls.length:Int)-z.1).toNat) ⟨0,rfl,by omega,by simpa using h0,hp.Ai g,hR.Ai g⟩ ?_
 rintro⟨z,_⟩ W4 ⟨i,hz,hi,hj,hpb,hRW⟩ _
 dsimp only at hz
 subst hz
 refine Dx (λc=>?_) λc=>?_
 ·have c:(i:Int)<s.2.1:=c
  have hi':i<ls.length:=by omega
  have he:ls[i]? =some ls[i]:=List.getElem?_eq_getElem hi'
  generalize ls[i]=e at he
  refine hRW.ix rfl he λa ha=>hRW.A8 ha he ?_
  refine Ad λp7 w8 e7 k7 u7=>k7.Fg _ rfl rfl λw9 k9 u9=>k9.ld2 ?_
  have g9:Af W4 w9:=Af.fresh (Af.refl _) u7 u9 e7
  show yiS prog l (gY RS2 (Amk e)) w9 _
  have ht:(ls.map Amk).take i++[Amk e]=(ls.map Amk).take (i+1):=by
   rw[List.take_add_one,List.getElem?_map,he];rfl
  refine hY _ (Amk e) w9 _ (hV e (List.mem_of_getElem? he)) (hJ _ _ _ hj g9) (by rw[List.length_take,List.length_map];omega) (λW2 hj2 kp=>?_) λW2 hj2=>?_
  ·rw[ht] at hj2
   refine⟨⟨i+1,Amv hi' hn,by omega,hj2,wG.blk (hpb.Ai g9) kp hp.lt hMp,?_⟩,?_⟩
   ·exact TbW.keep (hRW.Ai g9) kp λhx a ha=>⟨hR.blk hx ha,hMs hx a ha⟩
   ·show((ls.length:Int)-wrap .i64 ((i:Int)+1)).toNat<((ls.length:Int)-(i:Int)).toNat
    rw[Amv hi' hn];omega
  ·refine .inr ⟨_,List.take_prefix (i+1) (ls.map Amk),?_⟩
   rw[ht] at hj2;exact hj2
 ·have c: ¬(i:Int)<s.2.1:=c
  have hi':i=ls.length:=by omega
  subst hi'
  rw[←List.length_map (f:=Amk),List.take_length] at hj
  exact .inl hj
theorem uO.cl{w:World}{b:Nat}{m:TbL}{s:Sl}(hB:Az w b (cT m s)){k:TR [(false,[.any])]→WP}
  (hk: ∀pb w',w.heap.size=pb→Af w w'→Az w' pb [.slice s.1 s.2.1 s.2.2]→k ((.func (.func F.Hm) #[] #[.pointer (some ⟨pb,0,none⟩)],()),()) w'):
  Ae prog F.uO [.pointer (some ⟨b,0,none⟩)] w false [(false,[.any])] k:=by
 refine uO.ok ?_
 unfold uO.wp
 refine Jl rfl ?_
 rw[Ac]
 refine hB.c1 3 (c:=.sl) (x:=s) rfl ?_
 refine U8.ok ?_
 unfold U8.wp
 exact Ad λpb w' e k1 u1=>hk pb w' e u1 k1
def un2(x:TR RS2):P2:=(x.1.1,x.1.2.1)
theorem Au5(l:P2):un2 (Amk l)=l:=rfl
theorem Awz(ls:L2):(ls.map Amk).map un2=ls:=by rw[List.map_map];simp[Function.comp_def,Au5]
theorem Arc(ls:L2)(l:P2)(day:Int): ∀a,ahS a (ls++[l]) day=if l.1<day then ahS a ls day+l.2 else ahS a ls day:=by
 induction ls with
 |nil=>intro a;rfl
 |cons x ls ih=>intro a;simp only[List.cons_append,ahS];exact ih _
theorem aF.cl{w:World}{b:Nat}{m:TbL}(hT:TbW w b m)(hg:Ai5 m){day:Int}{k:TR [(false,[KI]),(false,[.b])]→WP}
  (h0: ¬inR m day→ ∀w',Af w w'→k ((0,()),(false,()),()) w') (h1:inR m day→ ∀w',Af w w'→k ((ahS m.ah m.ls day,()),(true,()),()) w'):
  Ae prog F.aF [.pointer (some ⟨b,0,none⟩),iV day] w true [(false,[KI]),(false,[.b])] k:=by
 refine aF.ok ?_
 unfold aF.wp
 refine Ad λp1 w2 e1 k1 u1=>?_
 rw[Be]
 have k1:=k1.drew
 have g3:=u1.trans (Af.drew w2)
 generalize w2.drew=w3 at k1 g3
 have T3:=hT.Ai g3
 obtain⟨s,hB,hR⟩:=T3
 refine Jl rfl (k1.i0 rfl ?_)
 rw[Ac]
 refine hB.i0 rfl (Dx (λc=>h0 (λh=>by have:=h.1;have c:day<m.st:=c;omega) w3 g3) λc1=>k1.i0 rfl ?_)
 rw[Ac]
 refine hB.i1 2 rfl (Dx (λc=>h0 (λh=>by have:=h.2;have c:day≥m.en:=c;omega) w3 g3) λc2=>?_)
 have c1: ¬day<m.st:=c1
 have c2: ¬day≥m.en:=c2
 have h1:=h1 ⟨by omega,by omega⟩
 rw[Ac]
 refine hB.i1 1 rfl (Ad λp12 w13 e12 k12 u13=>k12.Fg _ rfl rfl λw14 k14 u14=>?_)
 have g14:Af w3 w14:=Af.fresh (Af.refl _) u13 u14 e12
 refine uO.cl (hB.Ai g14) λpb w16 e16 u16 k16=>?_
 have g16:Af w w16:=(g3.trans g14).trans u16
 have l1:=k1.lt
 have l14:=k14.lt
 have l16:=k16.lt
 have hst:=hg.2.1
 have hln:=hg.2.2.1
 have R16:=hR.Ai (g14.trans u16)
 have K1:=k1.Ai (g14.trans u16)
 have K12:=k14.Ai u16
 have hs16:=g16.size
 have e3:=g3.size
 refine⟨λx=>Stp (un2 x),m.ls.map Amk,λz=>z=p12,
  λpre W=>Af w W∧Az W p1 [iV day]∧Az W p12 [iV (ahS m.ah (pre.map un2) day)]∧ ∀l∈pre.map un2,Stp l,λ_ _ _=>False,
  Ane.Ak2 (λl hl=>hst l hl) k16 R16 (by omega) (by omega) (λhx a ha h=>by have:=hR.blk hx ha;omega),
  λW tu=>⟨g16.turn tu g16.size,K1.turn tu,K12.turn tu,λl h=>by cases h⟩,?_,?_,λs hs=>by cases hs⟩
 ·intro x W hx hs
  refine Ad λp25 w26 e26 k26 u26=>k26.Fg _ rfl rfl λw27 k27 u27=>oZ (Af.fresh (Af.refl W) u26 u27 e26) ?_
  rintro W2 tu pre ⟨hg2,h1',h12,hpre⟩ hlen
  rw[List.length_map] at hlen
  have k2:=k27.turn tu
  have bnd:p12<p25:=by omega
  have hall: ∀l∈pre.map un2++[un2 x],Stp l:=λl h=>by
   rcases List.mem_append.1 h with h|h
   ·exact hpre l h
   ·rw[List.mem_singleton.1 h];exact hx
  have em:(pre++[x]).map un2=pre.map un2++[un2 x]:=by simp
  have sn:=Arc (pre.map un2) (un2 x) day m.ah
  refine k2.i0 rfl (h1'.i0 rfl (Dx (λc=>?_) λc=>?_))
  ·have c:(un2 x).1<day:=c
   rw[if_pos c] at sn
   have rg:=Aqz hall day m.ah
   rw[List.length_append,List.length_map,List.length_singleton,sn] at rg
   have hm:=hg.1
   unfold Ap8 at hm
   refine h12.i0 rfl (k2.i1 1 rfl (h12.s0 (by simp) λw32 k32 u32=>?_))
   have ew:wrap .i64 (ahS m.ah (pre.map un2) day+x.1.2.1)=ahS m.ah (pre.map un2) day+(un2 x).2:=Ah (by show I64 (_+(un2 x).2);unfold I64;omega)
   rw[ew] at k32
   refine⟨Rnd.Aqv u32 (by omega) rfl,λW4 t4=>⟨(Am.trans hg2 u32 λi hi h=>by omega).turn t4 g16.size,(h1'.upd u32 (by omega)).turn t4,?_,by rw[em];exact hall⟩⟩
   rw[em,sn];exact k32.turn t4
  ·have c: ¬(un2 x).1<day:=c
   rw[if_neg c] at sn
   refine⟨Rnd.Ai (Af.refl _),λW4 t4=>⟨hg2.turn t4 g16.size,h1'.turn t4,?_,by rw[em];exact hall⟩⟩
   rw[em,sn];exact h12.turn t4
 ·rintro D W hD ⟨hgW,h1',h12,_⟩ hm
  rw[Awz] at h12
  refine h12.i0 rfl (qC hm λw34 ht=>?_)
  exact h1 w34 (hgW.turn (ht w.heap.size (Nat.le_trans g16.size hD)) (Nat.le_refl _))
theorem aA.cl{w:World}{b p1 p3:Nat}{m:TbL}{s:Sl}{day:Int}{i:Nat}{l:P2}(h1:Az w p1 [.pointer (some ⟨b,0,none⟩)])(h3:Az w p3 [iV day])(hB:Az w b (cT m s))(hR:Abg w s m.ls)
  (hi:m.ls[i]? =some l) {k:TR RB1→WP} (h:k ((decide (l.1≥day),()),()) w.drew):
  Ae prog F.aA [iV i,.pointer (some ⟨p1,0,none⟩),.pointer (some ⟨p3,0,none⟩)] w false RB1 k:=by
 refine aA.ok ?_
 unfold aA.wp
 rw[Be]
 refine h1.drew.p0 ?_
 rw[Ac]
 refine hB.drew.c1 3 (c:=.sl) (x:=s) rfl ((hR.Ai (Af.drew w)).ix rfl hi λa ha=>(hR.Ai (Af.drew w)).f0 ha hi rfl (h3.drew.i0 rfl h))
theorem An2{en:Int}: ∀{lo:Int} {ls:L2},Asc en lo ls→ ∀{i j:Nat} {x y:P2},i<j→ls[i]? =some x→ls[j]? =some y→x.1<y.1
 |lo,[],h,i,j,x,y,hij,hx,hy=>by cases hx
 |lo,l::ls,h,i,j,x,y,hij,hx,hy=>by
  obtain⟨h1,h2,h3⟩:=h
  cases j with
  |zero=>omega
  |succ j=>
   cases i with
   |zero=>
    simp at hx hy
    subst hx
    exact(h3.mem y (List.mem_of_getElem? hy)).1
   |succ i=>simp at hx hy;exact An2 h3 (by omega) hx hy
theorem sort_Search.cl{w:World}{b p1 p3:Nat}{m:TbL}{s:Sl}{day:Int}(h1:Az w p1 [.pointer (some ⟨b,0,none⟩)])(h3:Az w p3 [iV day])(hB:Az w b (cT m s))(hR:Abg w s m.ls)
  {lo:Int} (hA:Asc m.en lo m.ls) (hn:m.ls.length≤1000000000) {k:TR Ajt→WP}
  (h: ∀(i:Nat) w',i≤m.ls.length→(∀j l,m.ls[j]? =some l→j<i→l.1<day)→(∀j l,m.ls[j]? =some l→i≤j→day≤l.1)→Af w w'→k ((i,()),()) w'):
  Ae prog F.sort_Search [iV (s.2.1:Int),.func (.func F.aA) #[] #[.pointer (some ⟨p1,0,none⟩),.pointer (some ⟨p3,0,none⟩)]] w false Ajt k:=by
 refine kE.ok ?_
 unfold kE.wp
 have hl:=hR.len
 refine Ci.by (λz W=> ∃i j:Nat,z.1=i∧z.2.1=j∧i≤j∧j≤m.ls.length∧(∀q l,m.ls[q]? =some l→q<i→l.1<day)∧(∀q l,m.ls[q]? =some l→j≤q→day≤l.1)∧Af w W)
  (λz=>(z.2.1-z.1).toNat) ⟨0,s.2.1,rfl,rfl,by omega,by omega,λq l _ h=>by omega,λq l hq h=>by have:=(List.getElem?_eq_some_iff.1 hq).1;omega,Af.refl _⟩ ?_
 rintro⟨z1,z2,_⟩ W ⟨i,j,e1,e2,hij,hj,hlo,hhi,hG⟩ _
 dsimp only at e1 e2
 subst e1 e2
 refine Dx (λc=>?_) λc=>?_
 ·have c:(i:Int)<(j:Int):=c
  rw[Vg (by decide)]
  have em:wrap .i64 (Qv .u64 (wrap .u64 (wrap .i64 ((i:Int)+(j:Int)))) 1)=(((i+j)/2:Nat):Int):=by
   rw[Ah (n:=(i:Int)+j) (by unfold I64;omega),Lp (by unfold V6;omega)]
   have:Qv .u64 ((i:Int)+j) 1=((i:Int)+j)/2:=bJ (k:=.u64) 1 (by decide)
   rw[this,Ah (by unfold I64;omega)];omega
  show Ae prog F.aA [iV (wrap .i64 (Qv .u64 (wrap .u64 (wrap .i64 ((i:Int)+(j:Int)))) 1)),_,_] W _ _ _
  rw[em]
  have hq1:(i+j)/2<m.ls.length:=by omega
  have hx:m.ls[(i+j)/2]? =some m.ls[(i+j)/2]:=List.getElem?_eq_getElem hq1
  generalize m.ls[(i+j)/2]=x at hx
  refine aA.cl (h1.Ai hG) (h3.Ai hG) (hB.Ai hG) (hR.Ai hG) hx (Ee (λc2=>?_) λc2=>?_)
  ·have c2: ¬x.1≥day:=of_decide_eq_false c2
   refine⟨⟨(i+j)/2+1,j,?_,rfl,by omega,hj,λq l hq h=>?_,hhi,hG.trans (Af.drew _)⟩,?_⟩
   ·show wrap .i64 ((((i+j)/2:Nat):Int)+1)=_
    rw[Ah (by unfold I64;omega)];omega
   ·rcases Nat.lt_or_ge q ((i+j)/2) with h2|h2
    ·have:=An2 hA h2 hq hx;omega
    ·have:q=(i+j)/2:=by omega
     subst this
     rw[hx] at hq;cases hq;omega
   ·show((j:Int)-wrap .i64 ((((i+j)/2:Nat):Int)+1)).toNat<((j:Int)-(i:Int)).toNat
    rw[Ah (by unfold I64;omega)];omega
  ·have c2:x.1≥day:=of_decide_eq_true c2
   refine⟨⟨i,(i+j)/2,rfl,rfl,by omega,by omega,hlo,λq l hq h=>?_,hG.trans (Af.drew _)⟩,?_⟩
   ·rcases Nat.lt_or_ge ((i+j)/2) q with h2|h2
    ·have:=An2 hA h2 hx hq;omega
    ·have:q=(i+j)/2:=by omega
     subst this
     rw[hx] at hq;cases hq;omega
   ·show((((i+j)/2:Nat):Int)-(i:Int)).toNat<((j:Int)-(i:Int)).toNat
    omega
 ·have c: ¬(i:Int)<(j:Int):=c
  have:i=j:=by omega
  subst this
  exact h i W hj hlo hhi hG
theorem Au6{en:Int}: ∀{lo:Int} {ls:L2},Asc en lo ls→ ∀{i:Nat} {x:P2},ls[i]? =some x→Ai0 ls x.1=x.2
 |lo,[],_,i,x,hx=>by cases hx
 |lo,l::ls,h,i,x,hx=>by
  obtain⟨h1,h2,h3⟩:=h
  cases i with
  |zero=>simp at hx;subst hx;simp[Ai0]
  |succ i=>
   simp at hx
   have:=(h3.mem x (List.mem_of_getElem? hx)).1
   simp only[Ai0]
   rw[if_neg (by omega),Au6 h3 hx]
theorem Arh: ∀{ls:L2} {day:Int},(∀l∈ls,l.1≠day)→Ai0 ls day=0
 |[],_,_=>rfl
 |l::ls,day,h=>by
  simp only[Ai0]
  rw[if_neg (h l (by simp)),Arh λx hx=>h x (by simp[hx])]
theorem rE.cl{w:World}{b:Nat}{m:TbL}(hT:TbW w b m)(hg:Ai5 m){day:Int}{k:TR Ajt→WP}(h: ∀w',Af w w'→k ((Ai0 m.ls day,()),()) w'):
  Ae prog F.rE [.pointer (some ⟨b,0,none⟩),iV day] w false Ajt k:=by
 refine rE.ok ?_
 unfold rE.wp
 refine Ad λp1 w2 e1 k1 u1=>Ad λp3 w4 e3 k3 u3=>?_
 have g4:=u1.trans u3
 obtain⟨s,hB,hR⟩:=hT.Ai g4
 have k1:=k1.Ai u3
 have hl:=hR.len
 refine k1.p0 (Jl rfl (k1.p0 ?_))
 rw[Ac]
 refine hB.c1 3 (c:=.sl) (x:=s) rfl (sort_Search.cl k1 k3 hB hR hg.2.2.2 (by have:=hg.2.2.1;omega) λi w10 hi hlo hhi u10=>?_)
 have hA:=hg.2.2.2
 have K1:=(k1.Ai u10).drew
 have K3:=(k3.Ai u10).drew
 have hB2:=(hB.Ai u10).drew
 have hR2:=(hR.Ai u10).Ai (Af.drew w10)
 have G:=(g4.trans u10).trans (Af.drew w10)
 refine Cc.by (λz w'=>Af w w'∧Az w' p1 [.pointer (some ⟨b,0,none⟩)]∧Az w' b (cT m s)∧Abg w' s m.ls∧z.1=decide (∃l,m.ls[i]? =some l∧l.1=day)) ?_ ?_
 ·rw[Be]
  generalize w10.drew=w14 at K1 K3 hB2 hR2 G
  refine K1.p0 ?_
  rw[Ac]
  refine hB2.c1 3 (c:=.sl) (x:=s) rfl (Dx (λc=>?_) λc=>?_)
  ·have c:(i:Int)<(s.2.1:Int):=c
   have hx:m.ls[i]? =some m.ls[i]:=List.getElem?_eq_getElem (by omega)
   generalize m.ls[i]=x at hx
   refine K1.p0 ?_
   rw[Ac]
   refine hB2.c1 3 (c:=.sl) (x:=s) rfl (hR2.ix rfl hx λa ha=>hR2.f0 ha hx rfl (K3.i0 rfl ⟨G,K1,hB2,hR2,?_⟩))
   refine bq ?_
   rw[beq_iff_eq]
   exact⟨λh=>⟨x,hx,h⟩,λ⟨l,h1,h2⟩=>by rw[hx] at h1;cases h1;exact h2⟩
  ·have c: ¬(i:Int)<(s.2.1:Int):=c
   refine⟨G,K1,hB2,hR2,?_⟩
   symm
   rw[decide_eq_false_iff_not]
   rintro⟨l,h1,_⟩
   have:=(List.getElem?_eq_some_iff.1 h1).1
   omega
 ·rintro⟨z,_⟩ w13 ⟨G,K1,hB2,hR2,hz⟩ _
  dsimp only at hz
  subst hz
  refine Dx (λc=>?_) λc=>?_
  ·obtain⟨l,hx,hd⟩:=c
   have e:=Au6 hA hx
   rw[hd] at e
   refine K1.p0 ?_
   rw[Ac]
   refine hB2.c1 3 (c:=.sl) (x:=s) rfl (hR2.ix rfl hx λa ha=>hR2.f1 ha hx rfl ?_)
   have:=h w13 G
   rw[e] at this;exact this
  ·have e:Ai0 m.ls day=0:=Arh λl hl hd=>by
    obtain⟨j,hj,hjl⟩:=List.getElem_of_mem hl
    have hj':m.ls[j]? =some l:=by rw[←hjl];exact List.getElem?_eq_getElem hj
    rcases Nat.lt_trichotomy j i with h1|h1|h1
    ·have:=hlo j l hj' h1;omega
    ·subst h1;exact c ⟨l,hj',hd⟩
    ·have hi':m.ls[i]? =some m.ls[i]:=List.getElem?_eq_getElem (by omega)
     have h2:=An2 hA h1 hi' hj'
     have h3:=hhi i _ hi' (Nat.le_refl _)
     omega
   have:=h w13 G
   rw[e] at this;exact this
abbrev vT(m:TbL)(s:Sl):Value:=.agg #[iV m.st,iV m.ah,iV m.en,.slice s.1 s.2.1 s.2.2]
theorem Abv.cl{w:World}{m:TbL}{s:Sl}(hR:Abg w s m.ls)(hg:Ai5 m){day:Int}{k:TR Ajt→WP}(h: ∀w',Af w w'→k ((ahS m.ah m.ls day,()),()) w'):
  Ae prog F.Abv [vT m s,iV day] w false Ajt k:=by
 refine Abv.ok ?_
 unfold Abv.wp
 have hl:=hR.len
 have hst:=hg.2.1
 have hln:=hg.2.2.1
 have hm:=hg.1
 unfold Ap8 at hm
 refine Ad λp1 w2 e1 k1 u1=>k1.i1 1 rfl (k1.c1 3 (c:=.sl) (x:=s) rfl ?_)
 refine Ci.by (λz W=> ∃i:Nat,z.1=ahS m.ah (m.ls.take i) day∧z.2.1=i∧i≤m.ls.length∧Af w W) (λz=>((m.ls.length:Int)-z.2.1).toNat) ⟨0,rfl,rfl,by omega,u1⟩ ?_
 rintro⟨z1,z2,_⟩ W ⟨i,e1,e2,hi,hG⟩ _
 dsimp only at e1 e2
 subst e1 e2
 refine Dx (λc=>?_) λc=>?_
 ·have c:(i:Int)<s.2.1:=c
  have hi':i<m.ls.length:=by omega
  have hx:m.ls[i]? =some m.ls[i]:=List.getElem?_eq_getElem hi'
  have hxs:=hst _ (List.getElem_mem hi')
  generalize m.ls[i]=x at hx hxs
  have sn:=Arc (m.ls.take i) x day m.ah
  have tk:m.ls.take (i+1)=m.ls.take i++[x]:=by rw[List.take_add_one,hx];rfl
  rw[←tk] at sn
  refine(hR.Ai hG).ix rfl hx λa ha=>(hR.Ai hG).A8 ha hx (Ad λp10 w11 e10 k10 u11=>k10.Fg _ rfl rfl λw12 k12 u12=>k12.i0 rfl ?_)
  have g12:Af w w12:=Af.fresh hG u11 u12 e10
  have dec:((m.ls.length:Int)-wrap .i64 ((i:Int)+1)).toNat<((m.ls.length:Int)-(i:Int)).toNat:=by rw[Amv hi' (by omega)];omega
  refine Dx (λc2=>k12.i1 1 rfl ?_) λc2=>?_
  ·have c2:x.1<day:=c2
   rw[if_pos c2] at sn
   have rg:=Aqz (ls:=m.ls.take (i+1)) (λl hl=>hst l (List.mem_of_mem_take hl)) day m.ah
   rw[List.length_take,Nat.min_eq_left (by omega),sn] at rg
   refine⟨⟨i+1,?_,Amv hi' (by omega),by omega,g12⟩,dec⟩
   rw[sn]
   exact Ah (n:=ahS m.ah (m.ls.take i) day+x.2) (by unfold I64;omega)
  ·have c2: ¬x.1<day:=c2
   rw[if_neg c2] at sn
   exact⟨⟨i+1,sn.symm,Amv hi' (by omega),by omega,g12⟩,dec⟩
 ·have c: ¬(i:Int)<s.2.1:=c
  have:i=m.ls.length:=by omega
  subst this
  have:=h W hG
  rw[List.take_length];exact this
theorem Af1.cl{w:World}{m:TbL}{s:Sl}(hR:Abg w s m.ls)(hn:m.ls.length≤1000000000){day:Int}{k:TR Ajt→WP}(h: ∀w',Af w w'→k ((Ai0 m.ls day,()),()) w'):
  Ae prog F.Af1 [vT m s,iV day] w false Ajt k:=by
 refine Af1.ok ?_
 unfold Af1.wp
 have hl:=hR.len
 refine Ad λp1 w2 e1 k1 u1=>k1.c1 3 (c:=.sl) (x:=s) rfl ?_
 refine Ci.by (λz W=> ∃i:Nat,z.1=i∧Ai0 m.ls day=Ai0 (m.ls.drop i) day∧i≤m.ls.length∧Af w W) (λz=>((m.ls.length:Int)-z.1).toNat) ⟨0,rfl,rfl,by omega,u1⟩ ?_
 rintro⟨z1,_⟩ W ⟨i,e1,hs,hi,hG⟩ _
 dsimp only at e1
 subst e1
 refine Dx (λc=>?_) λc=>?_
 ·have c:(i:Int)<s.2.1:=c
  have hi':i<m.ls.length:=by omega
  have hx:m.ls[i]? =some m.ls[i]:=List.getElem?_eq_getElem hi'
  rw[List.drop_eq_getElem_cons hi'] at hs
  generalize m.ls[i]=x at hx hs
  refine(hR.Ai hG).ix rfl hx λa ha=>(hR.Ai hG).A8 ha hx (Ad λp10 w11 e10 k10 u11=>k10.Fg _ rfl rfl λw12 k12 u12=>k12.i0 rfl ?_)
  have g12:Af w w12:=Af.fresh hG u11 u12 e10
  simp only[Ai0] at hs
  refine Yl (λc2=>k12.i1 1 rfl ?_) λc2=>?_
  ·have c2:x.1=day:=c2
   rw[if_pos c2] at hs
   have:=h w12 g12
   rw[hs] at this;exact this
  ·have c2: ¬x.1=day:=c2
   rw[if_neg c2] at hs
   refine⟨⟨i+1,Amv hi' (by omega),hs,by omega,g12⟩,?_⟩
   show((m.ls.length:Int)-wrap .i64 ((i:Int)+1)).toNat<((m.ls.length:Int)-(i:Int)).toNat
   rw[Amv hi' (by omega)];omega
 ·have c: ¬(i:Int)<s.2.1:=c
  have:i=m.ls.length:=by omega
  subst this
  rw[List.drop_length] at hs
  have:=h W hG
  rw[hs] at this;exact this
end Go.Proofs.YticgocmhmffneaaGreatDoor
