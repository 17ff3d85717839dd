import Derived.Test.YtppeepkmnijdpaaGreatDoorEngX
import Derived.Test.YtppeepkmnijdpaaGreatDoorSh
namespace Go.Proofs.YtppeepkmnijdpaaGreatDoor
open Go.Eng Go
set_option linter.unusedSimpArgs false
set_option linter.unusedVariables false
set_option maxRecDepth 100000
set_option maxHeartbeats 8000000
theorem aN(a b:Int):a<b∨b≤a:=by omega
def lpY(y:Int):Bool:=decide (y%4=0∧(y%100≠0∨y%400=0))
def Rw(y m:Int):Int:=if m=2 then(if lpY y=true then 29 else 28) else if m=4∨m=6∨m=9∨m=11 then 30 else 31
def N9(y:Int):Int:=365*(y-1)+(y-1)/4-(y-1)/100+(y-1)/400
def Oz(y:Int):Nat→Int
 |0=>0
 |n+1=>Oz y n+Rw y (n+1)
abbrev D3:=Int×Int×Int
def F8(d:D3):Prop:=1≤d.1∧d.1≤9999∧1≤d.2.1∧d.2.1≤12∧1≤d.2.2∧d.2.2≤Rw d.1 d.2.1
instance instClCcal_845 (d:D3):Decidable (F8 d):=by unfold F8;exact inferInstance
def Q4(d:D3):Bool:=decide (F8 d)
def Ja(d:D3):Int:= -719162+N9 d.1+Oz d.1 (d.2.1-1).toNat+d.2.2-1
theorem Oy(y m:Int):28≤Rw y m∧Rw y m≤31:=by unfold Rw;split<;>(try split)<;>omega
theorem gG(y:Int):N9 (y+1)=N9 y+365+(if lpY y=true then 1 else 0):=by
 unfold N9 lpY
 simp only[decide_eq_true_eq]
 split<;>omega
theorem fG{a b:Int}(h:a<b):N9 a+365≤N9 b:=by
 unfold N9
 have h1:(a-1)/400≤(b-1)/400:=by omega
 have h2:(a-1)/4-(a-1)/100≤(b-1)/4-(b-1)/100:=by omega
 omega
theorem Amy(y:Int):Oz y 12=365+(if lpY y=true then 1 else 0):=by
 simp only[Oz,Rw]
 cases lpY y<;>simp
theorem uI(y:Int)(a b:Nat)(h:a≤b):Oz y a≤Oz y b:=by
 induction b with
 |zero=>have:a=0:=by omega
        subst this;exact Int.le_refl _
 |succ b ih=>
  rcases Nat.lt_or_ge b a with h1|h1
  ·have:a=b+1:=by omega
   subst this;exact Int.le_refl _
  ·have:=ih h1
   have:=(Oy y (b+1)).1
   simp only[Oz];omega
theorem Ae3(y:Int)(a:Nat):0≤Oz y a:=uI y 0 a (by omega)
theorem Aee{d:D3}(h:F8 d):1≤Oz d.1 (d.2.1-1).toNat+d.2.2∧Oz d.1 (d.2.1-1).toNat+d.2.2≤Oz d.1 d.2.1.toNat∧Oz d.1 d.2.1.toNat≤Oz d.1 12:=by
 obtain⟨h1,h2,h3,h4,h5,h6⟩:=h
 have e:d.2.1.toNat=(d.2.1-1).toNat+1:=by omega
 have e2:(((d.2.1-1).toNat:Int)+1)=d.2.1:=by omega
 have:=Ae3 d.1 (d.2.1-1).toNat
 refine⟨by omega,?_,uI _ _ _ (by omega)⟩
 rw[e];simp only[Oz]
 rw[e2];omega
theorem nH{d:D3}(h:F8 d): -719162+N9 d.1≤Ja d∧Ja d< -719162+N9 (d.1+1):=by
 have:=Aee h
 have c:=Amy d.1
 rw[gG]
 unfold Ja
 omega
theorem jG{d:D3}(h:F8 d): -719162≤Ja d∧Ja d≤2932896:=by
 have h0:=nH h
 obtain⟨h1,h2,_⟩:=h
 have a1:0≤N9 d.1:=by
  rcases aN 1 d.1 with c|c
  ·have:=fG c;have:N9 1=0:=by decide
   omega
  ·have:d.1=1:=by omega
   rw[this];decide
 have a2:N9 (d.1+1)≤N9 10000:=by
  rcases aN (d.1+1) 10000 with c|c
  ·have:=fG c;omega
  ·have:d.1+1=10000:=by omega
   rw[this];exact Int.le_refl _
 have e:N9 10000=3652059:=by decide
 omega
def Abu(d:D3):Int:=(d.1*13+d.2.1)*32+d.2.2
theorem Agf{a b:D3}(ha:F8 a)(hb:F8 b)(h:Abu a<Abu b):Ja a<Ja b:=by
 have i1:=Aee ha
 have i2:=Aee hb
 have y1:=nH ha
 have y2:=nH hb
 obtain⟨a1,a2,a3,a4,a5,a6⟩:=ha
 obtain⟨b1,b2,b3,b4,b5,b6⟩:=hb
 have m1:=(Oy a.1 a.2.1).2
 have m2:=(Oy b.1 b.2.1).2
 unfold Abu at h
 rcases Int.lt_trichotomy a.1 b.1 with c|c|c
 ·rcases aN (a.1+1) b.1 with c2|c2
  ·have:=fG c2;omega
  ·have:a.1+1=b.1:=by omega
   rw[←this] at y2;omega
 ·unfold Ja
  rw[←c] at h i2⊢
  rcases Int.lt_trichotomy a.2.1 b.2.1 with e|e|e
  ·have:=uI a.1 a.2.1.toNat (b.2.1-1).toNat (by omega)
   omega
  ·rw[←e] at h⊢;omega
  ·omega
 ·omega
theorem Akb{a b:D3}(ha:F8 a)(hb:F8 b)(h:Abu a=Abu b):a=b:=by
 obtain⟨a1,a2,a3,a4,a5,a6⟩:=ha
 obtain⟨b1,b2,b3,b4,b5,b6⟩:=hb
 have m1:=(Oy a.1 a.2.1).2
 have m2:=(Oy b.1 b.2.1).2
 unfold Abu at h
 obtain⟨x,y,z⟩:=a
 obtain⟨x',y',z'⟩:=b
 dsimp only at*
 have:x=x':=by omega
 have:y=y':=by omega
 have:z=z':=by omega
 subst_vars;rfl
theorem Aay{a b:D3}(ha:F8 a)(hb:F8 b)(h:Ja a=Ja b):a=b:=by
 rcases Int.lt_trichotomy (Abu a) (Abu b) with c|c|c
 ·have:=Agf ha hb c;omega
 ·exact Akb ha hb c
 ·have:=Agf hb ha c;omega
def mJ(d:D3):D3:=if d.2.2+1>Rw d.1 d.2.1 then(if d.2.1+1>12 then(d.1+1,1,1) else(d.1,d.2.1+1,1)) else(d.1,d.2.1,d.2.2+1)
theorem Ah3{d:D3}(h:F8 d):Ja (mJ d)=Ja d+1∧(F8 (mJ d)∨d.1=9999∧mJ d=(10000,1,1)):=by
 have h':=h
 obtain⟨h1,h2,h3,h4,h5,h6⟩:=h
 have m1:=(Oy d.1 d.2.1).1
 unfold mJ
 split
 ·rename_i c
  have e:d.2.2=Rw d.1 d.2.1:=by omega
  split
  ·rename_i c2
   have e2:d.2.1=12:=by omega
   have g1:=Oy (d.1+1) 1
   refine⟨?_,?_⟩
   ·unfold Ja
    rw[e,e2,gG]
    simp only[show((1:Int)-1).toNat=0 from rfl,show((12:Int)-1).toNat=11 from rfl]
    have:=Amy d.1
    have e3:Oz d.1 12=Oz d.1 11+Rw d.1 12:=by show Oz d.1 11+Rw d.1 ((11:Nat)+1:Int)=_;rfl
    simp only[show Oz (d.1+1) 0=0 from rfl]
    omega
   ·by_cases c3:d.1=9999
    ·right;exact⟨c3,by rw[c3];rfl⟩
    ·left;exact⟨by show(1:Int)≤d.1+1;omega,by show d.1+1≤(9999:Int);omega,by show(1:Int)≤1;omega,by show(1:Int)≤12;omega,by show(1:Int)≤1;omega,by show(1:Int)≤Rw (d.1+1) 1;omega⟩
  ·rename_i c2
   have g1:=Oy d.1 (d.2.1+1)
   refine⟨?_,.inl ⟨h1,h2,by show(1:Int)≤d.2.1+1;omega,by show d.2.1+1≤(12:Int);omega,by show(1:Int)≤1;omega,by show(1:Int)≤Rw d.1 (d.2.1+1);omega⟩⟩
   unfold Ja
   have e2:(d.2.1+1-1).toNat=(d.2.1-1).toNat+1:=by omega
   have e3:(((d.2.1-1).toNat:Int)+1)=d.2.1:=by omega
   simp only[e2,Oz,e3]
   omega
 ·rename_i c
  exact⟨by unfold Ja;show-719162+N9 d.1+Oz d.1 (d.2.1-1).toNat+(d.2.2+1)-1=_;omega,.inl ⟨h1,h2,h3,h4,by show(1:Int)≤d.2.2+1;omega,by show d.2.2+1≤Rw d.1 d.2.1;omega⟩⟩
def Fb(l:List UInt8):ByteArray:=⟨l.toArray⟩
theorem Pq(l:List UInt8):(Fb l).size=l.length:=by simp[Fb,ByteArray.size]
theorem Di(a b:List UInt8):Fb a++Fb b=Fb (a++b):=by
 apply ByteArray.ext;simp[Fb]
theorem tZ(l:List UInt8):(Fb l).toList=l:=by rw[nR];simp[Fb]
theorem Ae8(s:ByteArray):Fb s.data.toList=s:=by cases s;simp[Fb]
theorem Afw{a b:List UInt8}(h:Fb a=Fb b):a=b:=by rw[←tZ a,h,tZ]
def xM(n:Nat):UInt8:=UInt8.ofNat (48+n%10)
def Zc(n:Nat):Nat→List UInt8
 |0=>[]
 |k+1=>Zc (n/10) k++[xM n]
theorem Gj(n:Nat): ∀k,(Zc n k).length=k
 |0=>rfl
 |k+1=>by simp[Zc,Gj]
theorem Wi(n:Nat):(xM n).toNat=48+n%10:=by
 unfold xM;rw[UInt8.toNat_ofNat'];omega
def N8(c:UInt8):Prop:=48≤c.toNat∧c.toNat≤57
theorem Ajp(n:Nat): ∀k,∀c∈Zc n k,N8 c
 |0,c,h=>by cases h
 |k+1,c,h=>by
  simp only[Zc,List.mem_append,List.mem_singleton] at h
  rcases h with h|rfl
  ·exact Ajp _ k c h
  ·unfold N8;rw[Wi];omega
def Rq(l:List UInt8):Nat:=l.foldl (λn c=>10*n+(c.toNat-48)) 0
theorem Xz(l:List UInt8)(c:UInt8):Rq (l++[c])=10*Rq l+(c.toNat-48):=by simp[Rq]
theorem Acf: ∀(k n:Nat),n<10^k→Rq (Zc n k)=n
 |0,n,h=>by simp at h;subst h;rfl
 |k+1,n,h=>by
  rw[Zc,Xz,Acf k (n/10) (by rw[Nat.pow_succ] at h;omega),Wi];omega
theorem Af7: ∀(l:List UInt8),(∀c∈l,N8 c)→Rq l<10^l.length:=by
 intro l
 induction h:l.length generalizing l with
 |zero=>intro _;rw[List.eq_nil_of_length_eq_zero h];simp[Rq]
 |succ k ih=>
  intro hc
  obtain⟨l',c,rfl⟩: ∃l' c,l=l'++[c]:=by
   have:l≠[]:=by intro e;subst e;simp at h
   exact⟨l.dropLast,l.getLast this,(List.dropLast_concat_getLast this).symm⟩
  have hl:l'.length=k:=by simpa using h
  have h1:N8 c:=hc c (by simp)
  unfold N8 at h1
  have:=ih l' hl λc h=>hc c (by simp[h])
  rw[Xz,Nat.pow_succ];omega
def eH(d:D3):List UInt8:=Zc d.1.toNat 4++45::(Zc d.2.1.toNat 2++45::Zc d.2.2.toNat 2)
theorem oP(d:D3):(eH d).length=10:=by simp[eH,Gj]
abbrev U6:=Int×Int×Int×Int×Int×Int
def dU(u:U6):D3:=(u.1,u.2.1,u.2.2.1)
def iZ(u:U6):Prop:=F8 (dU u)∧0≤u.2.2.2.1∧u.2.2.2.1≤23∧0≤u.2.2.2.2.1∧u.2.2.2.2.1≤59∧0≤u.2.2.2.2.2∧(u.2.2.2.2.2≤59∨u.2.2.2.2.2=60∧u.2.2.2.1=23∧u.2.2.2.2.1=59)
instance instClCcal_13533 (u:U6):Decidable (iZ u):=by unfold iZ;exact inferInstance
def rZ(u:U6):Bool:=decide (iZ u)
def lK(u:U6):Int:=3600*u.2.2.2.1+60*u.2.2.2.2.1+u.2.2.2.2.2
end Go.Proofs.YtppeepkmnijdpaaGreatDoor
namespace Go.Proofs.YtppeepkmnijdpaaGreatDoor
open Go.Eng Go Tryz
open Go.IntKind (wrap)
set_option linter.unusedSimpArgs false
set_option linter.unusedVariables false
set_option maxRecDepth 100000
set_option maxHeartbeats 8000000
abbrev Tm:List (Bool×List CK):=[(false,[KI])]
abbrev RB1:List (Bool×List CK):=[(false,[.b])]
abbrev K3:List CK:=[KI,KI,KI]
abbrev tD(d:D3):Ky K3:=(d.1,d.2.1,d.2.2,())
abbrev vD(d:D3):Value:=.agg #[iV d.1,iV d.2.1,iV d.2.2]
theorem rJ{x n:Int}(hx:0≤x):Int.tmod x n=x%n:=Int.tmod_eq_emod_of_nonneg hx
theorem lS{x n:Int}(hx:0≤x):Int.tdiv x n=x/n:=Int.tdiv_eq_ediv_of_nonneg hx
theorem bq{b:Bool}{p:Prop}[Decidable p](h:b=true↔p):b=decide p:=by
 rw[Bool.eq_iff_iff,decide_eq_true_iff];exact h
theorem Uu.cl{y:Int}(hy:0≤y){w:World}{k:TR RB1→WP}(h:k ((lpY y,()),()) w):Ad prog F.Uu [iV y] w false RB1 k:=by
 refine Uu.ok ?_
 simp only[rJ hy]
 rw[Gm (by decide)]
 unfold lpY at h
 refine Vh (λc1=>?_) λc1=>?_
 ·rw[Gm (by decide)]
  refine dS (λc2=>?_) λc2=>?_
  ·rw[decide_eq_true (by omega)] at h;exact h
  ·rw[Gm (by decide)]
   have e:((y%400)==0)=decide (y%4=0∧(y%100≠0∨y%400=0)):=bq (by rw[beq_iff_eq];omega)
   rw[e];exact h
 ·rw[decide_eq_false (by omega)] at h;exact h
theorem Og.cl{y:Int}(hy:0≤y){w:World}{k:TR RB1→WP}(h:k ((lpY y,()),()) w):Ad prog F.Og [iV y] w false RB1 k:=by
 refine Og.ok ?_
 simp only[rJ hy]
 rw[Gm (by decide)]
 unfold lpY at h
 refine Vh (λc1=>?_) λc1=>?_
 ·rw[decide_eq_true (by omega)] at h;exact h
 ·rw[Gm (by decide)]
  refine Vh (λc2=>?_) λc2=>?_
  ·rw[Gm (by decide)]
   have e:((y%100) !=0)=decide (y%4=0∧(y%100≠0∨y%400=0)):=bq (by rw[bne_iff_ne];omega)
   rw[e];exact h
  ·rw[decide_eq_false (by omega)] at h;exact h
theorem Ig.cl{y m:Int}(hy:0≤y)(h1:1≤m)(h2:m≤12){w:World}{k:TR Tm→WP}(h:k ((Rw y m,()),()) w):Ad prog F.Ig [iV y,iV m] w false Tm k:=by
 refine Ig.ok ?_
 have key:(m≠2∨lpY y=false)→ ∀{A:Int→Prop},A (Rw y m)→aiK [0,31,28,31,30,31,30,31,31,30,31,30,31] 13 m A:=by
  intro hm A hA
  have hc:m=1∨m=2∨m=3∨m=4∨m=5∨m=6∨m=7∨m=8∨m=9∨m=10∨m=11∨m=12:=by omega
  unfold Rw at hA
  rcases hc with rfl|rfl|rfl|rfl|rfl|rfl|rfl|rfl|rfl|rfl|rfl|rfl
  all_goals first
   |exact hA
   |(rcases hm with hm|hm
     ·exact absurd rfl hm
     ·rw[hm] at hA;exact hA)
 refine Vh (λc=>?_) λc=>key (.inl c) h
 refine Uu.cl hy (bQ (λc2=>?_) λc2=>key (.inr c2) h)
 have e:Rw y m=29:=by unfold Rw;rw[if_pos c,if_pos c2]
 rw[e] at h;exact h
theorem Ov.cl{y m:Int}(hy:0≤y){w:World}{k:TR Tm→WP}(h:k ((Rw y m,()),()) w):Ad prog F.Ov [iV y,iV m] w false Tm k:=by
 refine Ov.ok ?_
 unfold Rw at h
 refine Bh.by (λz w'=>w'=w∧z.1=decide (m=4∨m=6∨m=9∨m=11)) ?_ ?_
 ·refine Vh (λc=>⟨rfl,?_⟩) λc1=>Vh (λc=>⟨rfl,?_⟩) λc2=>Vh (λc=>⟨rfl,?_⟩) λc3=>⟨rfl,?_⟩
  ·exact bq (by simp;omega)
  ·exact bq (by simp;omega)
  ·exact bq (by simp;omega)
  ·exact bq (by simp;omega)
 ·rintro⟨z,_⟩ _ ⟨rfl,hz⟩ _
  dsimp only at hz
  subst hz
  refine Cf (λc=>?_) λc=>Vh (λc2=>?_) λc2=>?_
  ·rw[if_neg (by omega),if_pos c] at h;exact h
  ·rw[if_pos c2] at h
   exact Og.cl hy (bQ (λc3=>by rw[if_pos c3] at h;exact h) λc3=>by have c3:lpY y=false:=c3;rw[if_neg (by rw[c3];simp)] at h;exact h)
  ·rw[if_neg c2,if_neg c] at h;exact h
theorem xA{d:D3}{b:Bool}(h:b=true↔F8 d):b=Q4 d:=bq h
theorem Ef.cl{d:D3}{w:World}{k:TR RB1→WP}(h: ∀w',Ah w w'→k ((Q4 d,()),()) w'):Ad prog F.Ef [vD d] w false RB1 k:=by
 refine Ef.ok ?_
 refine Ae λp1 w2 e1 k1 u1=>?_
 rw[Aq]
 have k1:=k1.drew
 have g:=u1.trans (Ah.drew _)
 generalize w2.drew=w3 at k1 g
 have no: ¬F8 d→ ∀{w'},Ah w w'→k ((false,()),()) w':=λhn w' g'=>by
  have:=h w' g'
  rw[show Q4 d=false from decide_eq_false hn] at this;exact this
 refine k1.i0 rfl (Cf (λc1=>?_) λc=>no (λhg=>c hg.1) g)
 refine k1.i0 rfl (Cf (λc2=>?_) λc=>no (λhg=>c hg.2.1) g)
 refine k1.i1 1 rfl (Cf (λc3=>?_) λc=>no (λhg=>c hg.2.2.1) g)
 refine k1.i1 1 rfl (Cf (λc4=>?_) λc=>no (λhg=>c hg.2.2.2.1) g)
 refine k1.i1 2 rfl (Cf (λc5=>?_) λc=>no (λhg=>c hg.2.2.2.2.1) g)
 refine k1.i1 2 rfl (k1.i0 rfl (k1.i1 1 rfl ?_))
 have c1:d.1≥1:=c1
 have c2:d.1≤9999:=c2
 have c3:d.2.1≥1:=c3
 have c4:d.2.1≤12:=c4
 have c5:d.2.2≥1:=c5
 refine Ig.cl (by omega) c3 c4 ⟨⟨k1.hold (Ah.refl _) (λx=>x) 2 (by simp),k1.hold (Ah.refl _) (λx=>x) 2 (by simp),k1.hold (Ah.refl _) (λx=>x) 1 (by simp),k1.hold (Ah.refl _) (λx=>x) 1 (by simp),k1.hold (Ah.refl _) (λx=>x) 0 (by simp),k1.hold (Ah.refl _) (λx=>x) 0 (by simp),trivial⟩,?_⟩
 have e:decide (d.2.2≤Rw d.1 d.2.1)=Q4 d:=xA (by rw[decide_eq_true_iff];unfold F8;omega)
 have:=h w3 g
 rw[←e] at this;exact this
theorem Q3.cl{d:D3}{w:World}{k:TR RB1→WP}(h: ∀w',Ah w w'→k ((Q4 d,()),()) w'):Ad prog F.Q3 [vD d] w false RB1 k:=by
 refine Q3.ok ?_
 refine Ae λp1 w2 e1 k1 u1=>?_
 rw[Aq]
 have k1:=k1.drew
 have g:=u1.trans (Ah.drew _)
 generalize w2.drew=w3 at k1 g
 have no: ¬F8 d→ ∀{w'},Ah w w'→k ((false,()),()) w':=λhn w' g'=>by
  have:=h w' g'
  rw[show Q4 d=false from decide_eq_false hn] at this;exact this
 refine k1.i0 rfl (Cf (λc1=>?_) λc=>no (λhg=>c hg.1) g)
 refine k1.i0 rfl (Cf (λc2=>?_) λc=>no (λhg=>c hg.2.1) g)
 refine k1.i1 1 rfl (Cf (λc3=>?_) λc=>no (λhg=>c hg.2.2.1) g)
 refine k1.i1 1 rfl (Cf (λc4=>?_) λc=>no (λhg=>c hg.2.2.2.1) g)
 refine k1.i1 2 rfl (Cf (λc5=>?_) λc=>no (λhg=>c hg.2.2.2.2.1) g)
 refine k1.i1 2 rfl (k1.i0 rfl (k1.i1 1 rfl ?_))
 have c1:d.1≥1:=c1
 have c2:d.1≤9999:=c2
 have c3:d.2.1≥1:=c3
 have c4:d.2.1≤12:=c4
 have c5:d.2.2≥1:=c5
 refine Ov.cl (by omega) ⟨⟨k1.hold (Ah.refl _) (λx=>x) 2 (by simp),k1.hold (Ah.refl _) (λx=>x) 2 (by simp),k1.hold (Ah.refl _) (λx=>x) 1 (by simp),k1.hold (Ah.refl _) (λx=>x) 1 (by simp),k1.hold (Ah.refl _) (λx=>x) 0 (by simp),k1.hold (Ah.refl _) (λx=>x) 0 (by simp),trivial⟩,?_⟩
 have e:decide (d.2.2≤Rw d.1 d.2.1)=Q4 d:=xA (by rw[decide_eq_true_iff];unfold F8;omega)
 have:=h w3 g
 rw[←e] at this;exact this
theorem Zu{y:Int}(h1:1≤y)(h2:y≤20000):0≤N9 y∧N9 y≤8000000:=by unfold N9;omega
theorem Lc.cl{y:Int}(h1:1≤y)(h2:y≤20000){w:World}{k:TR Tm→WP}(h:k ((N9 y,()),()) w):Ad prog F.Lc [iV y] w false Tm k:=by
 refine Lc.ok ?_
 rw[Gm (by decide),Gm (by decide),Gm (by decide)]
 have e0:wrap .i64 (y-1)=y-1:=Af (by unfold I64;omega)
 simp only[e0,lS (show 0≤y-1 by omega)]
 rw[Af (n:=365*(y-1)) (by unfold I64;omega),Af (n:=(y-1)/4) (by unfold I64;omega),Af (n:=(y-1)/100) (by unfold I64;omega),Af (n:=(y-1)/400) (by unfold I64;omega),
  Af (n:=365*(y-1)+(y-1)/4) (by unfold I64;omega),Af (n:=365*(y-1)+(y-1)/4-(y-1)/100) (by unfold I64;omega),Af (n:=365*(y-1)+(y-1)/4-(y-1)/100+(y-1)/400) (by unfold I64;omega)]
 exact h
theorem pU(y:Int): ∀n:Nat,0≤Oz y n∧Oz y n≤31*n
 |0=>by simp[Oz]
 |n+1=>by
  have:=pU y n
  have:=Oy y (n+1)
  simp only[Oz];omega
theorem F5.cl{d:D3}{w:World}{k:TR [(false,[KI]),(false,[.b])]→WP}(h0:Q4 d=false→ ∀w',Ah w w'→k ((0,()),(false,()),()) w')
  (h1:Q4 d=true→ ∀w',Ah w w'→k ((Ja d,()),(true,()),()) w'):Ad prog F.F5 [vD d] w true [(false,[KI]),(false,[.b])] k:=by
 refine F5.ok ?_
 refine Ae λp1 w2 e1 k1 u1=>k1.Xd (Ef.cl λw5 u5=>En (λc=>h0 c w5 (u1.trans u5)) λc=>?_)
 have hg:F8 d:=of_decide_eq_true c
 have h1:=h1 c
 obtain⟨g1,g2,g3,g4,g5,g6⟩:=hg
 have m1:=(Oy d.1 d.2.1).2
 rw[Aq]
 have k5:=(k1.Ai u5).drew
 have g:=(u1.trans u5).trans (Ah.drew _)
 generalize w5.drew=w6 at k5 g
 have yr:=Zu g1 (by omega:d.1≤20000)
 refine k5.i0 rfl (k5.i1 2 rfl (Lc.cl g1 (by omega) ⟨⟨k5.hold (Ah.refl _) (λx=>x) 2 (by simp),trivial⟩,?_⟩))
 have ea:wrap .i64 (Int.negSucc 719161+N9 d.1)= -719162+N9 d.1:=by rw[Af (by unfold I64;omega)];omega
 have eb:wrap .i64 (-719162+N9 d.1+d.2.2)= -719162+N9 d.1+d.2.2:=Af (by unfold I64;omega)
 have ec:wrap .i64 (-719162+N9 d.1+d.2.2-1)= -719162+N9 d.1+d.2.2-1:=Af (by unfold I64;omega)
 rw[ea,eb,ec]
 refine Aw.by (λz W=> ∃i:Nat,(i:Int)<d.2.1∧z.1= -719162+N9 d.1+d.2.2-1+Oz d.1 i∧z.2.1=(i:Int)+1∧Ar W p1 [iV d.1,iV d.2.1,iV d.2.2]∧Ah w W)
  (λz=>(20-z.2.1).toNat) ⟨0,by omega,by simp[Oz],rfl,k5,g⟩ ?_
 rintro⟨z1,z2,_⟩ W ⟨i,hi,e1,e2,hB,hG⟩ _
 dsimp only at e1 e2
 subst e1 e2
 have cr:=pU d.1 i
 refine hB.i1 1 rfl (Cf (λc=>?_) λc=>?_)
 ·have c:(i:Int)+1<d.2.1:=c
  have ml:=Oy d.1 (i+1)
  refine hB.i0 rfl (Ig.cl (by omega) (by show(1:Int)≤(i:Int)+1;omega) (by show(i:Int)+1≤12;omega) ⟨⟨i+1,by omega,?_,?_,hB,hG⟩,?_⟩)
  ·show wrap .i64 (-719162+N9 d.1+d.2.2-1+Oz d.1 i+Rw d.1 ((i:Int)+1))=_
   rw[Af (by unfold I64;omega)];simp only[Oz];omega
  ·show wrap .i64 ((i:Int)+1+1)=_
   rw[Af (by unfold I64;omega)];omega
  ·show(20-wrap .i64 ((i:Int)+1+1)).toNat<(20-((i:Int)+1)).toNat
   rw[Af (by unfold I64;omega)];omega
 ·have c: ¬(i:Int)+1<d.2.1:=c
  have e:(d.2.1-1).toNat=i:=by omega
  have:=h1 W hG
  unfold Ja at this
  rw[e] at this
  rw[show-719162+N9 d.1+d.2.2-1+Oz d.1 i= -719162+N9 d.1+Oz d.1 i+d.2.2-1 by omega]
  exact this
theorem Vb.cl{n:Int}(hn:I64 n){w:World}{k:TR [(true,K3),(false,[.b])]→WP}(h0:n< -719162∨2932896<n→ ∀w',Ah w w'→k (tD (0,0,0),(false,()),()) w')
  (h1: -719162≤n→n≤2932896→ ∀d:D3,F8 d→Ja d=n→ ∀w',Ah w w'→k (tD d,(true,()),()) w'):Ad prog F.Vb [iV n] w true [(true,K3),(false,[.b])] k:=by
 refine Vb.ok ?_
 have fin: ∀{p1:Nat} {W W':World},w.heap.size=p1→Ah w W→Ap (λx=>x=p1) W W'→Ah w W':=λe g u=>Ap.trans g u λi hi h=>by omega
 refine Ae λp1 w2 e1 k1 u1=>Cf (λc=>?_) λc1=>Cf (λc=>?_) λc2=>?_
 ·exact k1.E5 _ rfl rfl λw3 k3 u3=>k3.Xd (h0 (.inl (by have c:n< -719162:=c;exact c)) w3 (fin e1 u1 u3))
 ·exact k1.E5 _ rfl rfl λw3 k3 u3=>k3.Xd (h0 (.inr c) w3 (fin e1 u1 u3))
 have c1: ¬n< -719162:=c1
 have c2: ¬n>2932896:=c2
 have h1:=h1 (by omega) (by omega)
 have ea:wrap .i64 (n-Int.negSucc 719161)=n+719162:=by rw[Af (by unfold I64;omega)];omega
 rw[Gm (by decide),ea,lS (by omega),Af (n:=(n+719162)/366) (by unfold I64;omega),Af (n:=(n+719162)/366+1) (by unfold I64;omega)]
 refine Aw.by (λz W=>1≤z.1∧z.1≤9999∧N9 z.1≤n+719162∧Ar W p1 [iV 0,iV 0,iV 0]∧Ah w W)
  (λz=>(20000-z.1).toNat) ⟨by show 1≤(n+719162)/366+1;omega,by show(n+719162)/366+1≤9999;omega,by show N9 ((n+719162)/366+1)≤_;unfold N9;omega,k1,u1⟩ ?_
 rintro⟨y,_⟩ W ⟨i1,i2,i3,hB,hG⟩ _
 dsimp only at i1 i2 i3
 rw[show wrap .i64 ((y,()).1+1)=y+1 from Af (by show I64 (y+1);unfold I64;omega)]
 refine Lc.cl (by omega) (by omega) (Cf (λc=>?_) λc=>?_)
 ·have c:N9 (y+1)≤n+719162:=c
  have lt:y+1≤9999:=by
   rcases aN (y+1) 10000 with h|h
   ·omega
   ·have:y+1=10000:=by omega
    rw[this] at c
    have:N9 10000=3652059:=by decide
    omega
  exact⟨⟨by show(1:Int)≤y+1;omega,lt,c,hB,hG⟩,by show(20000-(y+1)).toNat<(20000-y).toNat;omega⟩
 ·have c: ¬N9 (y+1)≤n+719162:=c
  rw[gG] at c
  refine Lc.cl i1 (by show y≤20000;omega) ?_
  have eb:wrap .i64 (n+719162-N9 y)=n+719162-N9 y:=Af (by have:=Zu i1 (by omega:y≤20000);unfold I64;omega)
  rw[show wrap .i64 (n+719162-N9 (y,()).1)=n+719162-N9 y from eb]
  have y12:=Amy y
  refine Aw.by (λz W=> ∃i:Nat,i<12∧z.2.1=(i:Int)+1∧z.1=n+719162-N9 y-Oz y i∧0≤z.1∧Ar W p1 [iV 0,iV 0,iV 0]∧Ah w W)
   (λz=>(20-z.2.1).toNat) ⟨0,by omega,rfl,by simp[Oz],by show 0≤n+719162-N9 y;omega,hB,hG⟩ ?_
  rintro⟨r,m,_⟩ W2 ⟨i,hi,e2,e3,e4,hB2,hG2⟩ _
  dsimp only at e2 e3 e4
  subst e2
  have ml:=Oy y (i+1)
  have cr:=pU y i
  refine Ig.cl (by show 0≤y;omega) (by show(1:Int)≤(i:Int)+1;omega) (by show(i:Int)+1≤12;omega) (Cf (λc2=>?_) λc2=>?_)
  ·have c2:r≥Rw y ((i:Int)+1):=c2
   have i11:i<11:=by
    rcases Nat.lt_or_ge i 11 with h|h
    ·exact h
    ·have:i=11:=by omega
     subst this
     have:Oz y 12=Oz y 11+Rw y ((11:Nat)+1:Int):=rfl
     omega
   have ew:wrap .i64 (r-Rw y ((i:Int)+1))=r-Rw y ((i:Int)+1):=Af (by have:=Zu i1 (by omega:y≤20000);unfold I64;omega)
   refine Ig.cl (by show 0≤y;omega) (by show(1:Int)≤(i:Int)+1;omega) (by show(i:Int)+1≤12;omega) ⟨⟨i+1,by omega,?_,?_,?_,hB2,hG2⟩,?_⟩
   ·show wrap .i64 ((i:Int)+1+1)=_
    rw[Af (by unfold I64;omega)];omega
   ·show wrap .i64 (r-Rw y ((i:Int)+1))=_
    rw[ew];simp only[Oz];omega
   ·show 0≤wrap .i64 (r-Rw y ((i:Int)+1))
    rw[ew];omega
   ·show(20-wrap .i64 ((i:Int)+1+1)).toNat<(20-((i:Int)+1)).toNat
    rw[Af (by unfold I64;omega)];omega
  ·have c2: ¬r≥Rw y ((i:Int)+1):=c2
   have ew:wrap .i64 (r+1)=r+1:=Af (by unfold I64;omega)
   refine hB2.E5 _ rfl rfl λw3 k3 u3=>k3.Xd ?_
   have ei:((i:Int)+1-1).toNat=i:=by omega
   have:=h1 (y,(i:Int)+1,r+1) ⟨i1,i2,by show(1:Int)≤(i:Int)+1;omega,by show(i:Int)+1≤12;omega,by show(1:Int)≤r+1;omega,by show r+1≤Rw y ((i:Int)+1);omega⟩
    (by show-719162+N9 y+Oz y ((i:Int)+1-1).toNat+(r+1)-1=n;rw[ei];omega) w3 (fin e1 hG2 u3)
   rw[show(wrap .i64 ((r,(i:Int)+1,()).1+1))=r+1 from ew]
   exact this
end Go.Proofs.YtppeepkmnijdpaaGreatDoor
namespace Go.Proofs.YtppeepkmnijdpaaGreatDoor
open Go.Eng Go
set_option linter.unusedSimpArgs false
set_option linter.unusedVariables false
set_option maxRecDepth 100000
set_option maxHeartbeats 8000000
abbrev K2:List CK:=[KI,KI]
abbrev P2:=Int×Int
abbrev L2:=List P2
def t2(l:P2):Ky K2:=(l.1,l.2,())
def Ox(w:World)(s:Sl)(ls:L2):Prop:=U0 w s K2 (ls.map t2)
theorem Ox.len{w:World}{s:Sl}{ls:L2}(h:Ox w s ls):s.2.1=ls.length:=by
 have:=U0.len h (by decide);rwa [List.length_map] at this
theorem Ox.Ai{w w':World}{s:Sl}{ls:L2}(h:Ox w s ls)(u:Ah w w'):Ox w' s ls:=U0.Ai h u
theorem Aaf{ls:L2}{i:Nat}{l:P2}(h:ls[i]? =some l):(ls.map t2)[i]? =some (t2 l):=by rw[List.getElem?_map,h];rfl
theorem Ox.ix{w:World}{s:Sl}{ls:L2}(h:Ox w s ls){z:Int}{i:Nat}{l:P2}(hz:z=i)(hi:ls[i]? =some l){k:Addr→Prop}(hk: ∀a,s.1=some a→k a):Hf s.1 s.2.1 z k:=
 U0.ix h (by decide) hz (Aaf hi) hk
theorem Ox.Bc{w:World}{s:Sl}{ls:L2}(h:Ox w s ls){a:Addr}(ha:s.1=some a){i:Nat}{l:P2}(hi:ls[i]? =some l){k:Ky K2→Prop}(hk:k (l.1,l.2,())):Eng.Bc K2 (a.add (((i:Int)).toNat*2)) 0 w k:=
 U0.Bc h ha (Aaf hi) hk
theorem Ox.f0{w:World}{s:Sl}{ls:L2}(h:Ox w s ls){a:Addr}(ha:s.1=some a){i:Nat}{l:P2}(hi:ls[i]? =some l){z:Int}(hz:z=i){k:Int→Prop}(hk:k l.1):ld1 KI (a.add (z.toNat*2)) w k:=by
 subst hz
 have:=flat_get (Aaf hi) 0 (iV l.1) rfl
 refine Tt (Row.ld h ha this) (Ko _ _) hk
theorem Ox.f1{w:World}{s:Sl}{ls:L2}(h:Ox w s ls){a:Addr}(ha:s.1=some a){i:Nat}{l:P2}(hi:ls[i]? =some l){z:Int}(hz:z=i){k:Int→Prop}(hk:k l.2):ld1 KI ((a.add (z.toNat*2)).add 1) w k:=by
 subst hz
 rw[add_add]
 have:=flat_get (Aaf hi) 1 (iV l.2) rfl
 refine Tt (Row.ld h ha this) (Ko _ _) hk
structure V9 where
 st:Int
 ah:Int
 en:Int
 ls:L2
def iY(a:Int):L2→Int→Int
 |[],_=>a
 |l::ls,day=>iY (if l.1<day then a+l.2 else a) ls day
def Sj:L2→Int→Int
 |[],_=>0
 |l::ls,day=>if l.1=day then l.2 else Sj ls day
def Asc(en:Int):Int→L2→Prop
 |_,[]=>True
 |lo,l::ls=>lo<l.1∧l.1<en∧Asc en l.1 ls
instance decAsc (en:Int):(lo:Int)→(ls:L2)→Decidable (Asc en lo ls)
 |_,[]=>.isTrue trivial
 |lo,l::ls=>by unfold Asc;have:=decAsc en l.1 ls;exact inferInstance
def Stp(l:P2):Prop:=l.2=1∨l.2= -1
instance instClCleap_2971 (l:P2):Decidable (Stp l):=by unfold Stp;exact inferInstance
def Xx(m:V9):Prop:= -719162≤m.st∧m.st≤2932896∧ -719162≤m.en∧m.en≤2932896∧m.st<m.en∧0≤m.ah∧m.ah≤99
instance instClCleap_3179 (m:V9):Decidable (Xx m):=by unfold Xx;exact inferInstance
def rY(m:V9):Int:=if¬Xx m then 1 else if¬(∀l∈m.ls,Stp l) then 1 else if 64<m.ls.length then 6 else if¬Asc m.en (m.st-1) m.ls then 12 else 0
def Tq(m:V9):Prop:=Xx m∧(∀l∈m.ls,Stp l)∧m.ls.length≤64∧Asc m.en (m.st-1) m.ls
theorem Ag9{m:V9}(h:Tq m):rY m=0:=by
 unfold rY
 rw[if_neg (λx=>x h.1),if_neg (λx=>x h.2.1),if_neg (by have:=h.2.2.1;omega),if_neg (λx=>x h.2.2.2)]
theorem An8(ls:L2)(day:Int): ∀a c,iY (a+c) ls day=iY a ls day+c:=by
 induction ls with
 |nil=>intro a c;rfl
 |cons l ls ih=>
  intro a c
  simp only[iY]
  split
  ·rw[show a+c+l.2=(a+l.2)+c by omega,ih]
  ·rw[ih]
theorem Aag{ls:L2}(h: ∀l∈ls,Stp l)(day:Int): ∀a,a-ls.length≤iY a ls day∧iY a ls day≤a+ls.length:=by
 induction ls with
 |nil=>intro a;simp[iY]
 |cons l ls ih=>
  intro a
  have hs:Stp l:=h l (by simp)
  unfold Stp at hs
  have ih:=ih λl hl=>h l (by simp[hl])
  simp only[iY,List.length_cons]
  split
  ·have:=ih (a+l.2);omega
  ·have:=ih a;omega
theorem Asc.mem{en lo:Int}{ls:L2}(h:Asc en lo ls): ∀l∈ls,lo<l.1∧l.1<en:=by
 induction ls generalizing lo with
 |nil=>intro l hl;cases hl
 |cons x ls ih=>
  intro l hl
  obtain⟨h1,h2,h3⟩:=h
  rcases List.mem_cons.1 hl with rfl|hl
  ·exact⟨h1,h2⟩
  ·have:=ih h3 l hl;omega
theorem xQ{en lo:Int}{ls:L2}(h:Asc en lo ls){day:Int}(hd:day≤lo+1): ∀a,iY a ls day=a:=by
 induction ls generalizing lo with
 |nil=>intro a;rfl
 |cons x ls ih=>
  intro a
  obtain⟨h1,h2,h3⟩:=h
  simp only[iY]
  rw[if_neg (by omega),ih h3 (by omega)]
theorem Anf{en lo:Int}{ls:L2}(h:Asc en lo ls)(day:Int): ∀a,iY a ls (day+1)=iY a ls day+Sj ls day:=by
 induction ls generalizing lo with
 |nil=>intro a;simp[iY,Sj]
 |cons x ls ih=>
  intro a
  obtain⟨h1,h2,h3⟩:=h
  simp only[iY,Sj]
  by_cases c:x.1=day
  ·rw[if_pos c,if_pos (by omega),if_neg (by omega),An8,xQ h3 (by omega),xQ h3 (by omega)]
  ·rw[if_neg c]
   by_cases c2:x.1<day
   ·rw[if_pos (by omega),if_pos c2,ih h3]
   ·rw[if_neg (by omega),if_neg c2,ih h3]
theorem Ap2{ls:L2}(h: ∀l∈ls,Stp l)(day:Int): -1≤Sj ls day∧Sj ls day≤1:=by
 induction ls with
 |nil=>simp[Sj]
 |cons l ls ih=>
  have hs:Stp l:=h l (by simp)
  unfold Stp at hs
  have ih:=ih λl hl=>h l (by simp[hl])
  simp only[Sj]
  split<;>omega
abbrev cT(m:V9)(s:Sl):List Value:=[iV m.st,iV m.ah,iV m.en,.slice s.1 s.2.1 s.2.2]
def TbW(w:World)(b:Nat)(m:V9):Prop:= ∃s:Sl,Ar w b (cT m s)∧Ox w s m.ls
theorem TbW.Ai{w w':World}{b:Nat}{m:V9}(h:TbW w b m)(u:Ah w w'):TbW w' b m:=by
 obtain⟨s,h1,h2⟩:=h;exact⟨s,h1.Ai u,h2.Ai u⟩
theorem TbW.lt{w:World}{b:Nat}{m:V9}(h:TbW w b m):b<w.heap.size:=by obtain⟨s,h1,_⟩:=h;exact h1.lt
def inR(m:V9)(day:Int):Prop:=m.st≤day∧day<m.en
instance instClCleap_7278 (m:V9) (day:Int):Decidable (inR m day):=by unfold inR;exact inferInstance
end Go.Proofs.YtppeepkmnijdpaaGreatDoor
namespace Go.Proofs.YtppeepkmnijdpaaGreatDoor
open Go.Eng Go Go.RowKit Tryz
open Go.IntKind (wrap)
set_option linter.unusedSimpArgs false
set_option linter.unusedVariables false
set_option maxRecDepth 100000
set_option maxHeartbeats 8000000
abbrev RS2:List (Bool×List CK):=[(true,K2)]
def lV(l:P2):TR RS2:=(t2 l,())
theorem kR{i n:Nat}(hi:i<n)(hn:n≤1000000000):wrap .i64 ((i:Int)+1)=((i+1:Nat):Int):=by
 rw[Af (by unfold I64;omega)];omega
theorem TbW.keep{B:Nat}{M:NP}{w w':World}{s:Sl}{ls:L2}(h:Ox w s ls)(u:uZ B M w w')(hb:ls≠[]→ ∀a,s.1=some a→a.block<B∧ ¬M a.block):Ox w' s ls:=
 uZ.row h u λhx=>hb λe=>hx (by subst e;rfl)
theorem Ox.blk{w:World}{s:Sl}{ls:L2}(h:Ox w s ls)(hx:ls≠[]){a:Addr}(ha:s.1=some a):a.block<w.heap.size:=by
 cases ls with
 |nil=>exact absurd rfl hx
 |cons l ls=>
  have:=flat_get (xs:=(l::ls).map t2) (i:=0) (x:=t2 l) rfl 0 (iV l.1) rfl
  have:=cell_lt (Row.ld h ha this)
  rwa [add_block] at this
theorem dL.Ad4{w:World}{pb:Nat}{s:Sl}{ls:L2}{M:NP}{V:TR RS2→Prop}(hV: ∀l∈ls,V (lV l))(hp:Ar w pb [.slice s.1 s.2.1 s.2.2])(hR:Ox w s ls)(hn:ls.length≤1000000000)
  (hMp: ¬M pb) (hMs:ls≠[]→ ∀a,s.1=some a→ ¬M a.block):
  ItS prog (.func (.func F.Cc) #[] #[.pointer (some ⟨pb,0,none⟩)]) RS2 V (ls.map lV) M w:=by
 refine Aec (by kernel_rfl) λl J Jx W g hJ hJx hY h0=>?_
 refine Cc.ok ?_
 have hl:=hR.len
 refine(hp.Ai g).sl0 ?_
 refine Aw.by (λz W'=> ∃i:Nat,z.1=i∧i≤ls.length∧J ((ls.map lV).take i) W'∧Ar W' pb [.slice s.1 s.2.1 s.2.2]∧Ox W' s ls)
  (λz=>((ls.length:Int)-z.1).toNat) ⟨0,rfl,by omega,by simpa using h0,hp.Ai g,hR.Ai g⟩ ?_
 rintro⟨z,_⟩ W4 ⟨i,hz,hi,hj,hpb,hRW⟩ _
 dsimp only at hz
 subst hz
 refine Cf (λc=>?_) λc=>?_
 ·have c:(i:Int)<s.2.1:=c
  have hi':i<ls.length:=by omega
  have he:ls[i]? =some ls[i]:=List.getElem?_eq_getElem hi'
  generalize ls[i]=e at he
  refine hRW.ix rfl he λa ha=>hRW.Bc ha he ?_
  refine Ae λp7 w8 e7 k7 u7=>k7.E5 _ rfl rfl λw9 k9 u9=>k9.ld2 ?_
  have g9:Ah W4 w9:=Ah.fresh (Ah.refl _) u7 u9 e7
  show yiS prog l (dP RS2 (lV e)) w9 _
  have ht:(ls.map lV).take i++[lV e]=(ls.map lV).take (i+1):=by
   rw[List.take_add_one,List.getElem?_map,he];rfl
  refine hY _ (lV e) w9 _ (hV e (List.mem_of_getElem? he)) (hJ _ _ _ hj g9) (by rw[List.length_take,List.length_map];omega) (λW2 hj2 kp=>?_) λW2 hj2=>?_
  ·rw[ht] at hj2
   refine⟨⟨i+1,kR hi' hn,by omega,hj2,uZ.blk (hpb.Ai g9) kp hp.lt hMp,?_⟩,?_⟩
   ·exact TbW.keep (hRW.Ai g9) kp λhx a ha=>⟨hR.blk hx ha,hMs hx a ha⟩
   ·show((ls.length:Int)-wrap .i64 ((i:Int)+1)).toNat<((ls.length:Int)-(i:Int)).toNat
    rw[kR hi' hn];omega
  ·refine .inr ⟨_,List.take_prefix (i+1) (ls.map lV),?_⟩
   rw[ht] at hj2;exact hj2
 ·have c: ¬(i:Int)<s.2.1:=c
  have hi':i=ls.length:=by omega
  subst hi'
  rw[←List.length_map (f:=lV),List.take_length] at hj
  exact .inl hj
theorem Fj.cl{w:World}{b:Nat}{m:V9}{s:Sl}(hB:Ar w b (cT m s)){k:TR [(false,[.any])]→WP}
  (hk: ∀pb w',w.heap.size=pb→Ah w w'→Ar w' pb [.slice s.1 s.2.1 s.2.2]→k ((.func (.func F.Cc) #[] #[.pointer (some ⟨pb,0,none⟩)],()),()) w'):
  Ad prog F.Fj [.pointer (some ⟨b,0,none⟩)] w false [(false,[.any])] k:=by
 refine Fj.ok ?_
 refine Le rfl ?_
 rw[Ac]
 refine hB.c1 3 (c:=.sl) (x:=s) rfl ?_
 refine Ec.ok ?_
 exact Ae λpb w' e k1 u1=>hk pb w' e u1 k1
def dJ(x:TR RS2):P2:=(x.1.1,x.1.2.1)
theorem Aiy(l:P2):dJ (lV l)=l:=rfl
theorem Ae7(ls:L2):(ls.map lV).map dJ=ls:=by rw[List.map_map];simp[Function.comp_def,Aiy]
theorem Ab4(ls:L2)(l:P2)(day:Int): ∀a,iY a (ls++[l]) day=if l.1<day then iY a ls day+l.2 else iY a ls day:=by
 induction ls with
 |nil=>intro a;rfl
 |cons x ls ih=>intro a;simp only[List.cons_append,iY];exact ih _
theorem Jn.cl{w:World}{b:Nat}{m:V9}(hT:TbW w b m)(hg:Tq m){day:Int}{k:TR [(false,[KI]),(false,[.b])]→WP}
  (h0: ¬inR m day→ ∀w',Ah w w'→k ((0,()),(false,()),()) w') (h1:inR m day→ ∀w',Ah w w'→k ((iY m.ah m.ls day,()),(true,()),()) w'):
  Ad prog F.Jn [.pointer (some ⟨b,0,none⟩),iV day] w true [(false,[KI]),(false,[.b])] k:=by
 refine Jn.ok ?_
 refine Ae λp1 w2 e1 k1 u1=>?_
 rw[Aq]
 have k1:=k1.drew
 have g3:=u1.trans (Ah.drew w2)
 generalize w2.drew=w3 at k1 g3
 have T3:=hT.Ai g3
 obtain⟨s,hB,hR⟩:=T3
 refine Le rfl (k1.i0 rfl ?_)
 rw[Ac]
 refine hB.i0 rfl (Cf (λc=>h0 (λh=>by have:=h.1;have c:day<m.st:=c;omega) w3 g3) λc1=>k1.i0 rfl ?_)
 rw[Ac]
 refine hB.i1 2 rfl (Cf (λc=>h0 (λh=>by have:=h.2;have c:day≥m.en:=c;omega) w3 g3) λc2=>?_)
 have c1: ¬day<m.st:=c1
 have c2: ¬day≥m.en:=c2
 have h1:=h1 ⟨by omega,by omega⟩
 rw[Ac]
 refine hB.i1 1 rfl (Ae λp12 w13 e12 k12 u13=>k12.E5 _ rfl rfl λw14 k14 u14=>?_)
 have g14:Ah w3 w14:=Ah.fresh (Ah.refl _) u13 u14 e12
 refine Fj.cl (hB.Ai g14) λpb w16 e16 u16 k16=>?_
 have g16:Ah w w16:=(g3.trans g14).trans u16
 have l1:=k1.lt
 have l14:=k14.lt
 have l16:=k16.lt
 have hst:=hg.2.1
 have hln:=hg.2.2.1
 have R16:=hR.Ai (g14.trans u16)
 have K1:=k1.Ai (g14.trans u16)
 have K12:=k14.Ai u16
 have hs16:=g16.size
 have e3:=g3.size
 refine⟨λx=>Stp (dJ x),m.ls.map lV,λz=>z=p12,
  λpre W=>Ah w W∧Ar W p1 [iV day]∧Ar W p12 [iV (iY m.ah (pre.map dJ) day)]∧ ∀l∈pre.map dJ,Stp l,λ_ _ _=>False,
  dL.Ad4 (λl hl=>hst l hl) k16 R16 (by omega) (by omega) (λhx a ha h=>by have:=hR.blk hx ha;omega),
  λW tu=>⟨g16.turn tu g16.size,K1.turn tu,K12.turn tu,λl h=>by cases h⟩,?_,?_,λs hs=>by cases hs⟩
 ·intro x W hx hs
  refine Ae λp25 w26 e26 k26 u26=>k26.E5 _ rfl rfl λw27 k27 u27=>iC (Ah.fresh (Ah.refl W) u26 u27 e26) ?_
  rintro W2 tu pre ⟨hg2,h1',h12,hpre⟩ hlen
  rw[List.length_map] at hlen
  have k2:=k27.turn tu
  have bnd:p12<p25:=by omega
  have hall: ∀l∈pre.map dJ++[dJ x],Stp l:=λl h=>by
   rcases List.mem_append.1 h with h|h
   ·exact hpre l h
   ·rw[List.mem_singleton.1 h];exact hx
  have em:(pre++[x]).map dJ=pre.map dJ++[dJ x]:=by simp
  have sn:=Ab4 (pre.map dJ) (dJ x) day m.ah
  refine k2.i0 rfl (h1'.i0 rfl (Cf (λc=>?_) λc=>?_))
  ·have c:(dJ x).1<day:=c
   rw[if_pos c] at sn
   have rg:=Aag hall day m.ah
   rw[List.length_append,List.length_map,List.length_singleton,sn] at rg
   have hm:=hg.1
   unfold Xx at hm
   refine h12.i0 rfl (k2.i1 1 rfl (h12.s0 (by simp) λw32 k32 u32=>?_))
   have ew:wrap .i64 (iY m.ah (pre.map dJ) day+x.1.2.1)=iY m.ah (pre.map dJ) day+(dJ x).2:=Af (by show I64 (_+(dJ x).2);unfold I64;omega)
   rw[ew] at k32
   refine⟨Rnd.Auy u32 (by omega) rfl,λW4 t4=>⟨(Ap.trans hg2 u32 λi hi h=>by omega).turn t4 g16.size,(h1'.upd u32 (by omega)).turn t4,?_,by rw[em];exact hall⟩⟩
   rw[em,sn];exact k32.turn t4
  ·have c: ¬(dJ x).1<day:=c
   rw[if_neg c] at sn
   refine⟨Rnd.Ai (Ah.refl _),λW4 t4=>⟨hg2.turn t4 g16.size,h1'.turn t4,?_,by rw[em];exact hall⟩⟩
   rw[em,sn];exact h12.turn t4
 ·rintro D W hD ⟨hgW,h1',h12,_⟩ hm
  rw[Ae7] at h12
  refine h12.i0 rfl (jZ hm λw34 ht=>?_)
  exact h1 w34 (hgW.turn (ht w.heap.size (Nat.le_trans g16.size hD)) (Nat.le_refl _))
theorem Ei.cl{w:World}{b p1 p3:Nat}{m:V9}{s:Sl}{day:Int}{i:Nat}{l:P2}(h1:Ar w p1 [.pointer (some ⟨b,0,none⟩)])(h3:Ar w p3 [iV day])(hB:Ar w b (cT m s))(hR:Ox w s m.ls)
  (hi:m.ls[i]? =some l) {k:TR RB1→WP} (h:k ((decide (l.1≥day),()),()) w.drew):
  Ad prog F.Ei [iV i,.pointer (some ⟨p1,0,none⟩),.pointer (some ⟨p3,0,none⟩)] w false RB1 k:=by
 refine Ei.ok ?_
 rw[Aq]
 refine h1.drew.p0 ?_
 rw[Ac]
 refine hB.drew.c1 3 (c:=.sl) (x:=s) rfl ((hR.Ai (Ah.drew w)).ix rfl hi λa ha=>(hR.Ai (Ah.drew w)).f0 ha hi rfl (h3.drew.i0 rfl h))
theorem iJ{en:Int}: ∀{lo:Int} {ls:L2},Asc en lo ls→ ∀{i j:Nat} {x y:P2},i<j→ls[i]? =some x→ls[j]? =some y→x.1<y.1
 |lo,[],h,i,j,x,y,hij,hx,hy=>by cases hx
 |lo,l::ls,h,i,j,x,y,hij,hx,hy=>by
  obtain⟨h1,h2,h3⟩:=h
  cases j with
  |zero=>omega
  |succ j=>
   cases i with
   |zero=>
    simp at hx hy
    subst hx
    exact(h3.mem y (List.mem_of_getElem? hy)).1
   |succ i=>simp at hx hy;exact iJ h3 (by omega) hx hy
theorem sort_Search.cl{w:World}{b p1 p3:Nat}{m:V9}{s:Sl}{day:Int}(h1:Ar w p1 [.pointer (some ⟨b,0,none⟩)])(h3:Ar w p3 [iV day])(hB:Ar w b (cT m s))(hR:Ox w s m.ls)
  {lo:Int} (hA:Asc m.en lo m.ls) (hn:m.ls.length≤1000000000) {k:TR Tm→WP}
  (h: ∀(i:Nat) w',i≤m.ls.length→(∀j l,m.ls[j]? =some l→j<i→l.1<day)→(∀j l,m.ls[j]? =some l→i≤j→day≤l.1)→Ah w w'→k ((i,()),()) w'):
  Ad prog F.sort_Search [iV (s.2.1:Int),.func (.func F.Ei) #[] #[.pointer (some ⟨p1,0,none⟩),.pointer (some ⟨p3,0,none⟩)]] w false Tm k:=by
 refine U8.ok ?_
 have hl:=hR.len
 refine Aw.by (λz W=> ∃i j:Nat,z.1=i∧z.2.1=j∧i≤j∧j≤m.ls.length∧(∀q l,m.ls[q]? =some l→q<i→l.1<day)∧(∀q l,m.ls[q]? =some l→j≤q→day≤l.1)∧Ah w W)
  (λz=>(z.2.1-z.1).toNat) ⟨0,s.2.1,rfl,rfl,by omega,by omega,λq l _ h=>by omega,λq l hq h=>by have:=(List.getElem?_eq_some_iff.1 hq).1;omega,Ah.refl _⟩ ?_
 rintro⟨z1,z2,_⟩ W ⟨i,j,e1,e2,hij,hj,hlo,hhi,hG⟩ _
 dsimp only at e1 e2
 subst e1 e2
 refine Cf (λc=>?_) λc=>?_
 ·have c:(i:Int)<(j:Int):=c
  rw[Nj (by decide)]
  have em:wrap .i64 (I7 .u64 (wrap .u64 (wrap .i64 ((i:Int)+(j:Int)))) 1)=(((i+j)/2:Nat):Int):=by
   rw[Af (n:=(i:Int)+j) (by unfold I64;omega),I9 (by unfold Tn;omega)]
   have:I7 .u64 ((i:Int)+j) 1=((i:Int)+j)/2:=dH (k:=.u64) 1 (by decide)
   rw[this,Af (by unfold I64;omega)];omega
  show Ad prog F.Ei [iV (wrap .i64 (I7 .u64 (wrap .u64 (wrap .i64 ((i:Int)+(j:Int)))) 1)),_,_] W _ _ _
  rw[em]
  have hq1:(i+j)/2<m.ls.length:=by omega
  have hx:m.ls[(i+j)/2]? =some m.ls[(i+j)/2]:=List.getElem?_eq_getElem hq1
  generalize m.ls[(i+j)/2]=x at hx
  refine Ei.cl (h1.Ai hG) (h3.Ai hG) (hB.Ai hG) (hR.Ai hG) hx (En (λc2=>?_) λc2=>?_)
  ·have c2: ¬x.1≥day:=of_decide_eq_false c2
   refine⟨⟨(i+j)/2+1,j,?_,rfl,by omega,hj,λq l hq h=>?_,hhi,hG.trans (Ah.drew _)⟩,?_⟩
   ·show wrap .i64 ((((i+j)/2:Nat):Int)+1)=_
    rw[Af (by unfold I64;omega)];omega
   ·rcases Nat.lt_or_ge q ((i+j)/2) with h2|h2
    ·have:=iJ hA h2 hq hx;omega
    ·have:q=(i+j)/2:=by omega
     subst this
     rw[hx] at hq;cases hq;omega
   ·show((j:Int)-wrap .i64 ((((i+j)/2:Nat):Int)+1)).toNat<((j:Int)-(i:Int)).toNat
    rw[Af (by unfold I64;omega)];omega
  ·have c2:x.1≥day:=of_decide_eq_true c2
   refine⟨⟨i,(i+j)/2,rfl,rfl,by omega,by omega,hlo,λq l hq h=>?_,hG.trans (Ah.drew _)⟩,?_⟩
   ·rcases Nat.lt_or_ge ((i+j)/2) q with h2|h2
    ·have:=iJ hA h2 hx hq;omega
    ·have:q=(i+j)/2:=by omega
     subst this
     rw[hx] at hq;cases hq;omega
   ·show((((i+j)/2:Nat):Int)-(i:Int)).toNat<((j:Int)-(i:Int)).toNat
    omega
 ·have c: ¬(i:Int)<(j:Int):=c
  have:i=j:=by omega
  subst this
  exact h i W hj hlo hhi hG
theorem Am7{en:Int}: ∀{lo:Int} {ls:L2},Asc en lo ls→ ∀{i:Nat} {x:P2},ls[i]? =some x→Sj ls x.1=x.2
 |lo,[],_,i,x,hx=>by cases hx
 |lo,l::ls,h,i,x,hx=>by
  obtain⟨h1,h2,h3⟩:=h
  cases i with
  |zero=>simp at hx;subst hx;simp[Sj]
  |succ i=>
   simp at hx
   have:=(h3.mem x (List.mem_of_getElem? hx)).1
   simp only[Sj]
   rw[if_neg (by omega),Am7 h3 hx]
theorem Aa5: ∀{ls:L2} {day:Int},(∀l∈ls,l.1≠day)→Sj ls day=0
 |[],_,_=>rfl
 |l::ls,day,h=>by
  simp only[Sj]
  rw[if_neg (h l (by simp)),Aa5 λx hx=>h x (by simp[hx])]
theorem Hw.cl{w:World}{b:Nat}{m:V9}(hT:TbW w b m)(hg:Tq m){day:Int}{k:TR Tm→WP}(h: ∀w',Ah w w'→k ((Sj m.ls day,()),()) w'):
  Ad prog F.Hw [.pointer (some ⟨b,0,none⟩),iV day] w false Tm k:=by
 refine Hw.ok ?_
 refine Ae λp1 w2 e1 k1 u1=>Ae λp3 w4 e3 k3 u3=>?_
 have g4:=u1.trans u3
 obtain⟨s,hB,hR⟩:=hT.Ai g4
 have k1:=k1.Ai u3
 have hl:=hR.len
 refine k1.p0 (Le rfl (k1.p0 ?_))
 rw[Ac]
 refine hB.c1 3 (c:=.sl) (x:=s) rfl (sort_Search.cl k1 k3 hB hR hg.2.2.2 (by have:=hg.2.2.1;omega) λi w10 hi hlo hhi u10=>?_)
 have hA:=hg.2.2.2
 have K1:=(k1.Ai u10).drew
 have K3:=(k3.Ai u10).drew
 have hB2:=(hB.Ai u10).drew
 have hR2:=(hR.Ai u10).Ai (Ah.drew w10)
 have G:=(g4.trans u10).trans (Ah.drew w10)
 refine Bh.by (λz w'=>Ah w w'∧Ar w' p1 [.pointer (some ⟨b,0,none⟩)]∧Ar w' b (cT m s)∧Ox w' s m.ls∧z.1=decide (∃l,m.ls[i]? =some l∧l.1=day)) ?_ ?_
 ·rw[Aq]
  generalize w10.drew=w14 at K1 K3 hB2 hR2 G
  refine K1.p0 ?_
  rw[Ac]
  refine hB2.c1 3 (c:=.sl) (x:=s) rfl (Cf (λc=>?_) λc=>?_)
  ·have c:(i:Int)<(s.2.1:Int):=c
   have hx:m.ls[i]? =some m.ls[i]:=List.getElem?_eq_getElem (by omega)
   generalize m.ls[i]=x at hx
   refine K1.p0 ?_
   rw[Ac]
   refine hB2.c1 3 (c:=.sl) (x:=s) rfl (hR2.ix rfl hx λa ha=>hR2.f0 ha hx rfl (K3.i0 rfl ⟨G,K1,hB2,hR2,?_⟩))
   refine bq ?_
   rw[beq_iff_eq]
   exact⟨λh=>⟨x,hx,h⟩,λ⟨l,h1,h2⟩=>by rw[hx] at h1;cases h1;exact h2⟩
  ·have c: ¬(i:Int)<(s.2.1:Int):=c
   refine⟨G,K1,hB2,hR2,?_⟩
   symm
   rw[decide_eq_false_iff_not]
   rintro⟨l,h1,_⟩
   have:=(List.getElem?_eq_some_iff.1 h1).1
   omega
 ·rintro⟨z,_⟩ w13 ⟨G,K1,hB2,hR2,hz⟩ _
  dsimp only at hz
  subst hz
  refine Cf (λc=>?_) λc=>?_
  ·obtain⟨l,hx,hd⟩:=c
   have e:=Am7 hA hx
   rw[hd] at e
   refine K1.p0 ?_
   rw[Ac]
   refine hB2.c1 3 (c:=.sl) (x:=s) rfl (hR2.ix rfl hx λa ha=>hR2.f1 ha hx rfl ?_)
   have:=h w13 G
   rw[e] at this;exact this
  ·have e:Sj m.ls day=0:=Aa5 λl hl hd=>by
    obtain⟨j,hj,hjl⟩:=List.getElem_of_mem hl
    have hj':m.ls[j]? =some l:=by rw[←hjl];exact List.getElem?_eq_getElem hj
    rcases Nat.lt_trichotomy j i with h1|h1|h1
    ·have:=hlo j l hj' h1;omega
    ·subst h1;exact c ⟨l,hj',hd⟩
    ·have hi':m.ls[i]? =some m.ls[i]:=List.getElem?_eq_getElem (by omega)
     have h2:=iJ hA h1 hi' hj'
     have h3:=hhi i _ hi' (Nat.le_refl _)
     omega
   have:=h w13 G
   rw[e] at this;exact this
abbrev vT(m:V9)(s:Sl):Value:=.agg #[iV m.st,iV m.ah,iV m.en,.slice s.1 s.2.1 s.2.2]
theorem Tf.cl{w:World}{m:V9}{s:Sl}(hR:Ox w s m.ls)(hg:Tq m){day:Int}{k:TR Tm→WP}(h: ∀w',Ah w w'→k ((iY m.ah m.ls day,()),()) w'):
  Ad prog F.Tf [vT m s,iV day] w false Tm k:=by
 refine Tf.ok ?_
 have hl:=hR.len
 have hst:=hg.2.1
 have hln:=hg.2.2.1
 have hm:=hg.1
 unfold Xx at hm
 refine Ae λp1 w2 e1 k1 u1=>k1.i1 1 rfl (k1.c1 3 (c:=.sl) (x:=s) rfl ?_)
 refine Aw.by (λz W=> ∃i:Nat,z.1=iY m.ah (m.ls.take i) day∧z.2.1=i∧i≤m.ls.length∧Ah w W) (λz=>((m.ls.length:Int)-z.2.1).toNat) ⟨0,rfl,rfl,by omega,u1⟩ ?_
 rintro⟨z1,z2,_⟩ W ⟨i,e1,e2,hi,hG⟩ _
 dsimp only at e1 e2
 subst e1 e2
 refine Cf (λc=>?_) λc=>?_
 ·have c:(i:Int)<s.2.1:=c
  have hi':i<m.ls.length:=by omega
  have hx:m.ls[i]? =some m.ls[i]:=List.getElem?_eq_getElem hi'
  have hxs:=hst _ (List.getElem_mem hi')
  generalize m.ls[i]=x at hx hxs
  have sn:=Ab4 (m.ls.take i) x day m.ah
  have tk:m.ls.take (i+1)=m.ls.take i++[x]:=by rw[List.take_add_one,hx];rfl
  rw[←tk] at sn
  refine(hR.Ai hG).ix rfl hx λa ha=>(hR.Ai hG).Bc ha hx (Ae λp10 w11 e10 k10 u11=>k10.E5 _ rfl rfl λw12 k12 u12=>k12.i0 rfl ?_)
  have g12:Ah w w12:=Ah.fresh hG u11 u12 e10
  have dec:((m.ls.length:Int)-wrap .i64 ((i:Int)+1)).toNat<((m.ls.length:Int)-(i:Int)).toNat:=by rw[kR hi' (by omega)];omega
  refine Cf (λc2=>k12.i1 1 rfl ?_) λc2=>?_
  ·have c2:x.1<day:=c2
   rw[if_pos c2] at sn
   have rg:=Aag (ls:=m.ls.take (i+1)) (λl hl=>hst l (List.mem_of_mem_take hl)) day m.ah
   rw[List.length_take,Nat.min_eq_left (by omega),sn] at rg
   refine⟨⟨i+1,?_,kR hi' (by omega),by omega,g12⟩,dec⟩
   rw[sn]
   exact Af (n:=iY m.ah (m.ls.take i) day+x.2) (by unfold I64;omega)
  ·have c2: ¬x.1<day:=c2
   rw[if_neg c2] at sn
   exact⟨⟨i+1,sn.symm,kR hi' (by omega),by omega,g12⟩,dec⟩
 ·have c: ¬(i:Int)<s.2.1:=c
  have:i=m.ls.length:=by omega
  subst this
  have:=h W hG
  rw[List.take_length];exact this
theorem Qr.cl{w:World}{m:V9}{s:Sl}(hR:Ox w s m.ls)(hn:m.ls.length≤1000000000){day:Int}{k:TR Tm→WP}(h: ∀w',Ah w w'→k ((Sj m.ls day,()),()) w'):
  Ad prog F.Qr [vT m s,iV day] w false Tm k:=by
 refine Qr.ok ?_
 have hl:=hR.len
 refine Ae λp1 w2 e1 k1 u1=>k1.c1 3 (c:=.sl) (x:=s) rfl ?_
 refine Aw.by (λz W=> ∃i:Nat,z.1=i∧Sj m.ls day=Sj (m.ls.drop i) day∧i≤m.ls.length∧Ah w W) (λz=>((m.ls.length:Int)-z.1).toNat) ⟨0,rfl,rfl,by omega,u1⟩ ?_
 rintro⟨z1,_⟩ W ⟨i,e1,hs,hi,hG⟩ _
 dsimp only at e1
 subst e1
 refine Cf (λc=>?_) λc=>?_
 ·have c:(i:Int)<s.2.1:=c
  have hi':i<m.ls.length:=by omega
  have hx:m.ls[i]? =some m.ls[i]:=List.getElem?_eq_getElem hi'
  rw[List.drop_eq_getElem_cons hi'] at hs
  generalize m.ls[i]=x at hx hs
  refine(hR.Ai hG).ix rfl hx λa ha=>(hR.Ai hG).Bc ha hx (Ae λp10 w11 e10 k10 u11=>k10.E5 _ rfl rfl λw12 k12 u12=>k12.i0 rfl ?_)
  have g12:Ah w w12:=Ah.fresh hG u11 u12 e10
  simp only[Sj] at hs
  refine Vh (λc2=>k12.i1 1 rfl ?_) λc2=>?_
  ·have c2:x.1=day:=c2
   rw[if_pos c2] at hs
   have:=h w12 g12
   rw[hs] at this;exact this
  ·have c2: ¬x.1=day:=c2
   rw[if_neg c2] at hs
   refine⟨⟨i+1,kR hi' (by omega),hs,by omega,g12⟩,?_⟩
   show((m.ls.length:Int)-wrap .i64 ((i:Int)+1)).toNat<((m.ls.length:Int)-(i:Int)).toNat
   rw[kR hi' (by omega)];omega
 ·have c: ¬(i:Int)<s.2.1:=c
  have:i=m.ls.length:=by omega
  subst this
  rw[List.drop_length] at hs
  have:=h W hG
  rw[hs] at this;exact this
end Go.Proofs.YtppeepkmnijdpaaGreatDoor
