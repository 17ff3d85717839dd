import Derived.Test.YtppeepkmnijdpaaGreatDoorMcG
namespace Go.Proofs.YtppeepkmnijdpaaGreatDoor
open Go.Eng Go Tryz
open Go.IntKind (wrap)
set_option linter.unusedSimpArgs false
set_option linter.unusedVariables false
set_option maxRecDepth 100000
set_option maxHeartbeats 8000000
def Itr(w:World)(r:Nat)(l:List UInt8)(pos:Nat):Prop:=w.heap[r]? =some (.stringIter (Fb l) pos)
theorem Itr.lt{w:World}{r:Nat}{l:List UInt8}{pos:Nat}(h:Itr w r l pos):r<w.heap.size:=(Array.getElem?_eq_some_iff.1 h).1
theorem Itr.upd{S:NP}{w w':World}{r:Nat}{l:List UInt8}{pos:Nat}(h:Itr w r l pos)(u:Ap S w w')(hS: ¬S r):Itr w' r l pos:=by
 unfold Itr at*;rw[u.block r (Array.getElem?_eq_some_iff.1 h).1 hS];exact h
theorem Alj{l:List UInt8}{w:World}{k:Nat→WP}(h: ∀r w',w.heap.size=r→Itr w' r l 0→Ah w w'→k r w'):rgK (Fb l) w k:=by
 refine h _ _ rfl ?_ ((Ah.refl w).alloc _)
 show(w.heap.push _)[w.heap.size]? =_
 rw[Array.getElem?_push,if_pos rfl]
theorem Abz{l:List UInt8}{i:Nat}{c:UInt8}(h:l[i]? =some c):(Fb l).get! i=c:=by
 have:=Af5 l i
 rw[h] at this
 unfold Fb ByteArray.get!
 simp only
 have hi:=(List.getElem?_eq_some_iff.1 h)
 simp[h]
theorem Aou{l:List UInt8}{i:Nat}{c:UInt8}(h:l[i]? =some c)(hc:c.toNat<128):Utf8.decode (Fb l) i=(c.toNat,1):=by
 unfold Utf8.decode
 simp only[Nat.add_zero,Abz h]
 rw[if_pos hc]
theorem Amw{l:List UInt8}{i:Nat}{c:UInt8}(h:l[i]? =some c)(hc:128≤c.toNat):128≤(Utf8.decode (Fb l) i).1:=by
 unfold Utf8.decode
 simp only[Nat.add_zero,Abz h]
 rw[if_neg (by omega)]
 have e:(128:Nat)≤Utf8.runeError:=by decide
 split
 ·split
  ·assumption
  ·exact e
 split
 ·split
  ·rename_i hh;have:=hh;simp only[Bool.and_eq_true,decide_eq_true_eq] at this;exact Nat.le_trans (by decide) this.1
  ·exact e
 split
 ·split
  ·rename_i hh;have:=hh;simp only[Bool.and_eq_true,decide_eq_true_eq] at this;exact Nat.le_trans (by decide) this.1
  ·exact e
 ·exact e
theorem Ajx{w:World}{r:Nat}{l:List UInt8}{pos:Nat}{over:WP}{more:Int→Int→WP}(h:Itr w r l pos)(h0:l.length≤pos→over w)
  (h1: ∀b w',l[pos]? =some b→b.toNat<128→Itr w' r l (pos+1)→Ap (λx=>x=r) w w'→more pos (b.toNat:Int) w')
  (h2: ∀b (c:Int) w',l[pos]? =some b→128≤b.toNat→128≤c→Ap (λx=>x=r) w w'→more pos c w'):nxK r w over more:=by
 unfold nxK
 have h':=h
 unfold Itr at h'
 rw[h']
 simp only[Pq]
 have up: ∀o,Ap (λx=>x=r) w {w with heap:=w.heap.setIfInBounds r o}:=λo=>⟨rfl,rfl,rfl,by simp,λk hk hn=>by
  show(w.heap.setIfInBounds r o)[k]? =_
  rw[Array.getElem?_setIfInBounds_ne (λe=>hn e.symm)]⟩
 by_cases hp:pos<l.length
 ·rw[if_pos hp]
  have hb:l[pos]? =some l[pos]:=List.getElem?_eq_getElem hp
  generalize l[pos]=b at hb
  by_cases hc:b.toNat<128
  ·rw[Aou hb hc]
   refine h1 b _ hb hc ?_ (up _)
   show(w.heap.setIfInBounds r _)[r]? =_
   rw[Array.getElem?_setIfInBounds_self_of_lt h.lt]
  ·exact h2 b _ _ hb (by omega) (by have:=Amw hb (by omega);omega) (up _)
 ·rw[if_neg hp];exact h0 (by omega)
def uS(j:Nat)(c:UInt8):Prop:=if j=4∨j=7 then c=45 else N8 c
instance (j:Nat) (c:UInt8):Decidable (uS j c):=by unfold uS;exact inferInstance
def Abw(l:List UInt8)(i:Nat):Prop:= ∀j c,j<i→l[j]? =some c→uS j c
theorem yN{l:List UInt8}(h:mX l≠ -1): ∀c∈l,N8 c:=by
 unfold mX at h
 split at h
 ·assumption
 ·exact absurd rfl h
theorem Aba{l:List UInt8}{d:D3}(h:Y3 l=some d):l.length=10∧Abw l 10∧Ws l=d∧F8 d:=by
 unfold Y3 at h
 split at h
 case isFalse=>cases h
 rename_i hc
 injection h with h
 subst h
 obtain⟨hl,h4,h7,hg⟩:=hc
 refine⟨hl,λj c hj hjc=>?_,rfl,hg⟩
 obtain⟨g1,g2,g3,g4,g5,g6⟩:=hg
 unfold Ws at g1 g3 g5
 dsimp only at g1 g3 g5
 have d1:=yN (l:=l.take 4) (by omega)
 have d2:=yN (l:=(l.take 7).drop 5) (by omega)
 have d3:=yN (l:=l.drop 8) (by omega)
 unfold uS
 by_cases e4:j=4
 ·subst e4;rw[h4] at hjc;injection hjc with e;rw[if_pos (.inl rfl),e]
 by_cases e7:j=7
 ·subst e7;rw[h7] at hjc;injection hjc with e;rw[if_pos (.inr rfl),e]
 rw[if_neg (by omega)]
 rcases Nat.lt_or_ge j 4 with a|a
 ·exact d1 c (List.mem_of_getElem? (i:=j) (by rw[List.getElem?_take_of_lt a];exact hjc))
 rcases Nat.lt_or_ge j 7 with b|b
 ·exact d2 c (List.mem_of_getElem? (i:=j-5) (by rw[List.getElem?_drop,List.getElem?_take_of_lt (by omega),show 5+(j-5)=j by omega];exact hjc))
 ·exact d3 c (List.mem_of_getElem? (i:=j-8) (by rw[List.getElem?_drop,show 8+(j-8)=j by omega];exact hjc))
def Tu(l:List UInt8)(i:Nat):D3:=((Rq (l.take (min i 4)):Int),(Rq ((l.take (min i 7)).drop 5):Int),(Rq ((l.take i).drop 8):Int))
def bK(i:Nat):Nat:=if i≤4 then 0 else if i≤7 then 1 else 2
def Wn(i:Nat):Nat:=if i≤4 then i else if i≤7 then i-5 else i-8
theorem Ahp{l:List UInt8}{i:Nat}(h:i=4∨i=7):Tu l (i+1)=Tu l i:=by
 unfold Tu
 rcases h with rfl|rfl
 ·simp only[Nat.min_def]
  have e1:(l.take (if 4+1≤7 then 4+1 else 7)).drop 5=[]:=by rw[List.drop_eq_nil_of_le];simp;omega
  have e2:(l.take (if 4≤7 then 4 else 7)).drop 5=[]:=by rw[List.drop_eq_nil_of_le];simp;omega
  have e3:(l.take (4+1)).drop 8=[]:=by rw[List.drop_eq_nil_of_le];simp;omega
  have e4:(l.take 4).drop 8=[]:=by rw[List.drop_eq_nil_of_le];simp;omega
  rw[e1,e2,e3,e4];rfl
 ·simp only[Nat.min_def]
  have e3:(l.take (7+1)).drop 8=[]:=by rw[List.drop_eq_nil_of_le];simp;omega
  have e4:(l.take 7).drop 8=[]:=by rw[List.drop_eq_nil_of_le];simp;omega
  rw[e3,e4];rfl
theorem iE{l:List UInt8}{i k:Nat}{c:UInt8}(h:l[i]? =some c)(hk:k≤i):(l.take (i+1)).drop k=(l.take i).drop k++[c]:=by
 have hi:=(List.getElem?_eq_some_iff.1 h).1
 rw[List.take_add_one,h,List.drop_append_of_le_length (by rw[List.length_take];omega)];rfl
theorem Amh(l:List UInt8)(i:Nat)(h:i≤10):(l.take (min i 4)).length≤4∧((l.take (min i 7)).drop 5).length≤2∧((l.take i).drop 8).length≤2:=by
 simp only[List.length_drop,List.length_take,Nat.min_def]
 refine⟨?_,?_,?_⟩<;>(repeat' split)<;>omega
theorem jT{l:List UInt8}{n:Nat}(h: ∀c∈l,N8 c)(hl:l.length≤n)(hn:n≤4):Rq l<10000:=by
 have:=Af7 l h
 have h2:10^l.length≤10^4:=Nat.pow_le_pow_right (by decide) (by omega)
 omega
theorem Adt{l:List UInt8}{i a b:Nat}(h:Abw l i)(hb:b≤i)(hn: ∀j,a≤j→j<b→j≠4∧j≠7): ∀c∈(l.take b).drop a,N8 c:=by
 intro c hc
 obtain⟨j,hj,he⟩:=List.getElem_of_mem hc
 have hj':((l.take b).drop a)[j]? =some c:=by rw[←he];exact List.getElem?_eq_getElem hj
 rw[List.length_drop,List.length_take] at hj
 rw[List.getElem?_drop,List.getElem?_take_of_lt (by omega)] at hj'
 have:=h (a+j) c (by omega) hj'
 unfold uS at this
 rwa [if_neg (by have:=hn (a+j) (by omega) (by omega);omega)] at this
theorem Afn{l:List UInt8}{i:Nat}(h:Abw l i)(hi:i≤10):(∀c∈l.take (min i 4),N8 c)∧(∀c∈(l.take (min i 7)).drop 5,N8 c)∧(∀c∈(l.take i).drop 8,N8 c):=
 ⟨λc hc=>Adt (a:=0) (b:=min i 4) h (Nat.min_le_left _ _) (λj _ hj=>by have:=Nat.min_le_right i 4;omega) c (by simpa using hc),
  Adt h (Nat.min_le_left _ _) (λj h1 h2=>by have:=Nat.min_le_right i 7;omega),Adt h (Nat.le_refl _) (λj h1 h2=>by omega)⟩
theorem Akc{l:List UInt8}(h:Abw l 10)(hl:l.length=10):Tu l 10=Ws l:=by
 obtain⟨d1,d2,d3⟩:=Afn h (Nat.le_refl _)
 unfold Tu Ws mX
 have e3:(l.take 10).drop 8=l.drop 8:=by rw[List.take_of_length_le (by omega)]
 rw[e3] at d3⊢
 rw[if_pos (by simpa using d1),if_pos (by simpa using d2),if_pos d3]
 rfl
theorem Ah9{l:List UInt8}{i:Nat}{c:UInt8}(hc:l[i]? =some c)(hi:i<10)(h4:i≠4)(h7:i≠7):
  Tu l (i+1)=(if i<4 then(10*(Tu l i).1+((c.toNat-48:Nat):Int),(Tu l i).2.1,(Tu l i).2.2) else if i<7 then((Tu l i).1,10*(Tu l i).2.1+((c.toNat-48:Nat):Int),(Tu l i).2.2) else((Tu l i).1,(Tu l i).2.1,10*(Tu l i).2.2+((c.toNat-48:Nat):Int))):=by
 have nil: ∀a b:Nat,a≤b→(l.take a).drop b=[]:=λa b h=>by rw[List.drop_eq_nil_of_le];rw[List.length_take];omega
 unfold Tu
 split
 ·rename_i a
  have s:=iE hc (Nat.zero_le i)
  simp only[List.drop_zero] at s
  have n1:(l.take (min (i+1) 7)).drop 5=[]:=nil _ _ (by have:=Nat.min_le_left (i+1) 7;omega)
  have n2:(l.take (min i 7)).drop 5=[]:=nil _ _ (by have:=Nat.min_le_left i 7;omega)
  have n3:(l.take (i+1)).drop 8=[]:=nil _ _ (by omega)
  have n4:(l.take i).drop 8=[]:=nil _ _ (by omega)
  rw[n1,n2,n3,n4,Nat.min_eq_left (by omega:i+1≤4),Nat.min_eq_left (by omega:i≤4),s,Xz]
  simp only[Prod.mk.injEq,and_true];omega
 split
 ·rename_i a b
  have s:=iE hc (by omega:5≤i)
  have n3:(l.take (i+1)).drop 8=[]:=nil _ _ (by omega)
  have n4:(l.take i).drop 8=[]:=nil _ _ (by omega)
  rw[n3,n4,Nat.min_eq_right (by omega:4≤i+1),Nat.min_eq_right (by omega:4≤i),Nat.min_eq_left (by omega:i+1≤7),Nat.min_eq_left (by omega:i≤7),s,Xz]
  simp only[Prod.mk.injEq,and_true,true_and];omega
 ·rename_i a b
  have s:=iE hc (by omega:8≤i)
  rw[Nat.min_eq_right (by omega:4≤i+1),Nat.min_eq_right (by omega:4≤i),Nat.min_eq_right (by omega:7≤i+1),Nat.min_eq_right (by omega:7≤i),s,Xz]
  simp only[Prod.mk.injEq,and_true,true_and];omega
theorem Aro{i:Nat}(hi:i≤10):wrap .i64 (4-wrap .i64 (2*(if(1:Int)<(bK i:Int) then 1 else(bK i:Int))))=if i≤4 then 4 else 2:=by
 have:i=0∨i=1∨i=2∨i=3∨i=4∨i=5∨i=6∨i=7∨i=8∨i=9∨i=10:=by omega
 rcases this with rfl|rfl|rfl|rfl|rfl|rfl|rfl|rfl|rfl|rfl|rfl<;>decide
theorem Asn{i:Nat}(hi:i≤10):((bK i<2∧(Wn i:Int)=if i≤4 then 4 else 2)↔(i=4∨i=7))∧(((Wn i:Int)<if i≤4 then 4 else 2)↔(i≠4∧i≠7∧i<10)):=by
 unfold bK Wn
 (repeat' split)<;>omega
theorem at_next{i:Nat}(hi:i<10):(i=4∨i=7→bK (i+1)=bK i+1∧Wn (i+1)=0)∧(i≠4→i≠7→bK (i+1)=bK i∧Wn (i+1)=Wn i+1):=by
 unfold bK Wn
 (repeat' split)<;>omega
theorem Tc.cl{l:List UInt8}{w:World}{k:TR RDB→WP}(h0:Y3 l=none→ ∀w',Ah w w'→k (tD (0,0,0),(false,()),()) w')(h1: ∀d,Y3 l=some d→ ∀w',Ah w w'→k (tD d,(true,()),()) w'):
  Ad prog F.Tc [.string (Fb l)] w true RDB k:=by
 refine Tc.ok ?_
 refine Ae λp1 w2 e1 k1 u1=>Ae λp3 w4 e3 k3 u3=>Alj λr w6 er hI u6=>?_
 have s2:=k1.lt
 have s4:=k3.lt
 have q1:=(k1.Ai u3).Ai u6
 have q3:=k3.Ai u6
 have ord:p1<p3∧p3<r:=by omega
 have g6:=(u1.trans u3).trans u6
 have no:Y3 l=none→ ∀{w'},Ah w w'→Ar w' p1 [iV 0,iV 0,iV 0]→Au [iV 0,iV 0,iV 0] ⟨p1,0,none⟩ 0 w' λw3=>Bc K3 ⟨p1,0,none⟩ 0 w3 λx4=>k ((x4.1,x4.2.1,x4.2.2.1,()),(false,()),()) w3:=λhn w' g kb=>
  kb.E5 _ rfl rfl λw3 k3 u3=>k3.Xd (h0 hn w3 (Ap.trans g u3 λi hi h=>by omega))
 have bad: ∀{i:Nat} {c:UInt8},l[i]? =some c→ ¬(i<10∧uS i c)→Y3 l=none:=λ{i c} hc hn=>by
  cases hp:Y3 l with
  |none=>rfl
  |some d=>
   obtain⟨a,b,_⟩:=Aba hp
   have:=(List.getElem?_eq_some_iff.1 hc).1
   exact absurd ⟨by omega,b i c (by omega) hc⟩ hn
 refine Aw.by (λz W=> ∃i:Nat,i≤10∧i≤l.length∧Abw l i∧z.1=(bK i:Int)∧z.2.1=(Wn i:Int)∧Itr W r l i∧Ar W p1 [iV 0,iV 0,iV 0]∧Ar W p3 [iV (Tu l i).1,iV (Tu l i).2.1,iV (Tu l i).2.2]∧Ah w W)
  (λz=>(20-(5*z.1+z.2.1)).toNat) ⟨0,by omega,by omega,λj c h=>by omega,rfl,rfl,hI,q1,by simpa [Tu,Rq] using q3,g6⟩ ?_
 rintro⟨za,zc,_⟩ W ⟨i,hi,hil,hpre,ea,ec,hIt,hB1,hB3,hG⟩ _
 dsimp only at ea ec
 subst ea ec
 have l3:=hB3.lt
 have lr:=hIt.lt
 refine Ajx hIt (λhend=>?_) (λb w7 hb hlow hI7 u7=>?_) λb c w7 hb hhigh hc7 u7=>?_
 ·have hlen:l.length=i:=by omega
  rw[Ip (by decide)]
  refine hB3.i0 rfl ?_
  rw[Ip (by decide)]
  refine hB3.i1 1 rfl ?_
  rw[Ip (by decide)]
  refine hB3.i1 2 rfl (Ae λp20 w21 e20 k20 u21=>k20.E5 _ rfl rfl λw22 k22 u22=>?_)
  have g22:Ah w w22:=Ah.fresh hG u21 u22 e20
  have v1:Ar w22 p1 [iV 0,iV 0,iV 0]:=hB1.Ai (Ah.fresh (Ah.refl _) u21 u22 e20)
  have l20:=k20.lt
  have short:i≠10→Y3 l=none:=λhn=>by
   cases hp:Y3 l with
   |none=>rfl
   |some d=>have:=(Aba hp).1;omega
  refine dS (λc=>no (short λe=>c (by subst e;rfl)) g22 v1) λc1=>dS (λc=>no (short λe=>c (by subst e;rfl)) g22 v1) λc2=>?_
  have c1:(bK i:Int)=2:=c1
  have c2:(Wn i:Int)=2:=c2
  have hi10:i=10:=by
   unfold bK at c1
   unfold Wn at c2
   split at c1
   ·simp at c1
   split at c1
   ·simp at c1
   rw[if_neg (by omega),if_neg (by omega)] at c2
   omega
  subst hi10
  have ef:=Akc hpre hlen
  rw[ef] at k22
  refine Ar.Xd k22 (Ef.cl (d:=Ws l) λw29 u29=>En (λc=>no ?_ (g22.trans u29) (v1.Ai u29)) λc=>?_)
  ·have c: ¬F8 (Ws l):=of_decide_eq_false c
   unfold Y3;rw[if_neg (λh=>c h.2.2.2)]
  ·have c:F8 (Ws l):=of_decide_eq_true c
   have gt: ∀j (hj:j<10),l[j]? =some (l[j]'(by omega)):=λj hj=>List.getElem?_eq_getElem _
   have h4:=hpre 4 _ (by omega) (gt 4 (by omega))
   have h7:=hpre 7 _ (by omega) (gt 7 (by omega))
   unfold uS at h4 h7
   rw[if_pos (.inl rfl)] at h4
   rw[if_pos (.inr rfl)] at h7
   refine(k22.Ai u29).Xd ((v1.Ai u29).E5 _ rfl rfl λw33 k33 u33=>Ar.Xd k33 ?_)
   exact h1 (Ws l) (by unfold Y3;rw[if_pos ⟨hlen,by rw[gt 4 (by omega),h4],by rw[gt 7 (by omega),h7],c⟩]) w33 (Ap.trans (g22.trans u29) u33 λi hi h=>by omega)
 ·have G7:Ah w w7:=Ap.trans hG u7 λj hj h=>by omega
  have B1:=hB1.upd u7 (by omega)
  have B3:=hB3.upd u7 (by omega)
  have ac:=Asn hi
  have le:=Aro hi
  refine Bh.by (λz W'=>w7=W'∧z.1=decide (b.toNat=45∧(i=4∨i=7))) ?_ ?_
  ·rw[show wrap .i64 (4-wrap .i64 (2*(if 1<(((bK i:Int),(Wn i:Int),()):Int×Int×Unit).1 then 1 else(((bK i:Int),(Wn i:Int),()):Int×Int×Unit).1)))=_ from le]
   refine Vh (λc=>Cf (λc2=>⟨rfl,?_⟩) λc2=>⟨rfl,?_⟩) λc=>⟨rfl,?_⟩
   ·have c2:(bK i:Int)<2:=c2
    refine bq ?_
    rw[beq_iff_eq]
    constructor
    ·intro h;exact⟨by omega,ac.1.1 ⟨by omega,h⟩⟩
    ·intro h;exact(ac.1.2 h.2).2
   ·have c2: ¬(bK i:Int)<2:=c2
    symm;rw[decide_eq_false_iff_not]
    intro h;have:=(ac.1.2 h.2).1;omega
   ·symm;rw[decide_eq_false_iff_not]
    intro h;have c:(b.toNat:Int)≠45:=c;omega
  rintro⟨z,_⟩ _ ⟨rfl,hz⟩ _
  dsimp only at hz
  subst hz
  refine Cf (λc=>?_) λcd=>?_
  ·obtain⟨c1,c2⟩:=c
   have nx:=(at_next (show i<10 by omega)).1 c2
   have eb:b=45:=UInt8.toNat_inj.1 (by show b.toNat=45;exact c1)
   have pr:Abw l (i+1):=λj x hj hx=>by
    rcases Nat.lt_or_ge j i with h|h
    ·exact hpre j x h hx
    ·have:j=i:=by omega
     subst this
     rw[hb] at hx;injection hx with hx;subst hx
     unfold uS;rw[if_pos c2];exact eb
   have ew:wrap .i64 ((bK i:Int)+1)=(bK (i+1):Int):=by
    have:bK i≤2:=by unfold bK;(repeat' split)<;>omega
    rw[Af (by unfold I64;omega),nx.1];omega
   have hlt:=(List.getElem?_eq_some_iff.1 hb).1
   refine⟨⟨i+1,by omega,by omega,pr,ew,by show(0:Int)=_;rw[nx.2];rfl,hI7,B1,by rw[Ahp c2];exact B3,G7⟩,?_⟩
   show(20-(5*wrap .i64 ((bK i:Int)+1)+0)).toNat<(20-(5*(bK i:Int)+(Wn i:Int))).toNat
   rw[ew,nx.1]
   unfold bK Wn
   rcases c2 with rfl|rfl<;>decide
  ·refine Bh.by (λz W'=>w7=W'∧z.1=decide (N8 b∧i≠4∧i≠7∧i<10)) ?_ ?_
   ·rw[show wrap .i64 (4-wrap .i64 (2*(if 1<(((bK i:Int),(Wn i:Int),()):Int×Int×Unit).1 then 1 else(((bK i:Int),(Wn i:Int),()):Int×Int×Unit).1)))=_ from le]
    refine Cf (λc=>Cf (λc2=>⟨rfl,?_⟩) λc2=>⟨rfl,?_⟩) λc=>⟨rfl,?_⟩
    ·have c:(b.toNat:Int)≥48:=c
     have c2:(b.toNat:Int)≤57:=c2
     refine bq ?_
     rw[decide_eq_true_iff]
     exact⟨λh=>⟨⟨by omega,by omega⟩,ac.2.1 h⟩,λh=>ac.2.2 h.2⟩
    ·have c2: ¬(b.toNat:Int)≤57:=c2
     symm;rw[decide_eq_false_iff_not];intro h;have:=h.1.2;omega
    ·have c: ¬(b.toNat:Int)≥48:=c
     symm;rw[decide_eq_false_iff_not];intro h;have:=h.1.1;omega
   rintro⟨z,_⟩ _ ⟨rfl,hz⟩ _
   dsimp only at hz
   subst hz
   refine Cf (λc=>?_) λc=>no (bad hb ?_) G7 B1
   ·obtain⟨c0,c4,c7,c10⟩:=c
    have nx:=(at_next c10).2 c4 c7
    have pr:Abw l (i+1):=λj x hj hx=>by
     rcases Nat.lt_or_ge j i with h|h
     ·exact hpre j x h hx
     ·have:j=i:=by omega
      subst this
      rw[hb] at hx;injection hx with hx;subst hx
      unfold uS;rw[if_neg (by omega)];exact c0
    obtain⟨dg1,dg2,dg3⟩:=Afn hpre hi
    obtain⟨ln1,ln2,ln3⟩:=Amh l i hi
    have v1:=jT dg1 ln1 (by omega)
    have v2:=jT dg2 ln2 (by omega)
    have v3:=jT dg3 ln3 (by omega)
    have st:=Ah9 hb c10 c4 c7
    have hlt:=(List.getElem?_eq_some_iff.1 hb).1
    have cn:Wn i≤10:=by unfold Wn;(repeat' split)<;>omega
    have ew:wrap .i64 ((Wn i:Int)+1)=(Wn (i+1):Int):=by rw[Af (by unfold I64;omega),nx.2];omega
    have cdig:wrap .i64 (wrap .i32 ((b.toNat:Int)-48))=((b.toNat-48:Nat):Int):=by
     unfold N8 at c0
     have:wrap .i32 ((b.toNat:Int)-48)=(b.toNat:Int)-48:=by
      simp[wrap,IntKind.bits,IntKind.signed];omega
     rw[this,Af (by unfold I64;omega)];omega
    have hb9:b.toNat-48≤9:=by unfold N8 at c0;omega
    have tot: ∀{v:Nat},v<10000→wrap .i64 (wrap .i64 (10*(v:Int))+((b.toNat-48:Nat):Int))=10*(v:Int)+((b.toNat-48:Nat):Int):=λh=>by
     rw[Af (n:=10*_) (by unfold I64;omega),Af (by unfold I64;omega)]
    have fin: ∀{W'},Ap (λx=>x=p3) w7 W'→Ar W' p3 [iV (Tu l (i+1)).1,iV (Tu l (i+1)).2.1,iV (Tu l (i+1)).2.2]→
      ((∃i':Nat,i'≤10∧i'≤l.length∧Abw l i'∧(bK i:Int)=(bK i':Int)∧wrap .i64 ((Wn i:Int)+1)=(Wn i':Int)∧Itr W' r l i'∧Ar W' p1 [iV 0,iV 0,iV 0]∧Ar W' p3 [iV (Tu l i').1,iV (Tu l i').2.1,iV (Tu l i').2.2]∧Ah w W')∧
        (20-(5*(bK i:Int)+wrap .i64 ((Wn i:Int)+1))).toNat<(20-(5*(bK i:Int)+(Wn i:Int))).toNat):=λu kb=>
     ⟨⟨i+1,by omega,by omega,pr,by rw[nx.1],ew,hI7.upd u (by omega),B1.upd u (by omega),kb,Ap.trans G7 u λj hj h=>by omega⟩,by
      rw[ew,nx.2]
      have:5*bK i+Wn i≤12:=by unfold bK Wn;(repeat' split)<;>omega
      omega⟩
    show Hf (some ⟨p3,0,none⟩) 3 (bK i:Int) _
    have a3:bK i<3:=by unfold bK;(repeat' split)<;>omega
    rw[Ip (by omega)]
    rcases Nat.lt_or_ge i 4 with a|a
    ·have e0:bK i=0:=by unfold bK;rw[if_pos (by omega)]
     rw[if_pos a] at st
     rw[e0] at fin⊢
     refine B3.i0 rfl ?_
     rw[Ip (by show(0:Int)≤((0:Nat):Int)∧((0:Nat):Int)<((3:Nat):Int);omega)]
     refine B3.s0 (by simp) λw44 k44 u44=>fin u44 ?_
     rw[cdig] at k44
     rw[st]
     have:=tot v1
     have e:wrap .i64 (wrap .i64 (10*(Tu l i).1)+((b.toNat-48:Nat):Int))=10*(Tu l i).1+((b.toNat-48:Nat):Int):=this
     rw[e] at k44;exact k44
    rcases Nat.lt_or_ge i 7 with a2|a2
    ·have e0:bK i=1:=by unfold bK;rw[if_neg (by omega),if_pos (by omega)]
     rw[if_neg (by omega),if_pos a2] at st
     rw[e0] at fin⊢
     refine B3.i1 1 rfl ?_
     rw[Ip (by show(0:Int)≤((1:Nat):Int)∧((1:Nat):Int)<((3:Nat):Int);omega)]
     refine B3.s1 1 (by simp) λw44 k44 u44=>fin u44 ?_
     rw[cdig] at k44
     rw[st]
     have e:wrap .i64 (wrap .i64 (10*(Tu l i).2.1)+((b.toNat-48:Nat):Int))=10*(Tu l i).2.1+((b.toNat-48:Nat):Int):=tot v2
     rw[e] at k44;exact k44
    ·have e0:bK i=2:=by unfold bK;rw[if_neg (by omega),if_neg (by omega)]
     rw[if_neg (by omega),if_neg (by omega)] at st
     rw[e0] at fin⊢
     refine B3.i1 2 rfl ?_
     rw[Ip (by show(0:Int)≤((2:Nat):Int)∧((2:Nat):Int)<((3:Nat):Int);omega)]
     refine B3.s1 2 (by simp) λw44 k44 u44=>fin u44 ?_
     rw[cdig] at k44
     rw[st]
     have e:wrap .i64 (wrap .i64 (10*(Tu l i).2.2)+((b.toNat-48:Nat):Int))=10*(Tu l i).2.2+((b.toNat-48:Nat):Int):=tot v3
     rw[e] at k44;exact k44
   ·rintro⟨h1,h2⟩
    unfold uS at h2
    by_cases c47:i=4∨i=7
    ·rw[if_pos c47] at h2
     exact cd ⟨by rw[h2];rfl,c47⟩
    ·rw[if_neg c47] at h2
     exact c ⟨h2,by omega,by omega,h1⟩
 ·have G7:Ah w w7:=Ap.trans hG u7 λj hj h=>by omega
  have B1:=hB1.upd u7 (by omega)
  have nn:Y3 l=none:=bad hb λ⟨h1,h2⟩=>by
   unfold uS at h2
   split at h2
   ·rw[h2] at hhigh;exact absurd hhigh (by decide)
   ·unfold N8 at h2;omega
  refine Bh.by (λz W'=>w7=W'∧z.1=false) (Vh (λcx=>absurd (show c=45 from cx) (by omega)) λ_=>⟨rfl,rfl⟩) ?_
  rintro⟨z,_⟩ _ ⟨rfl,hz⟩ _
  dsimp only at hz
  subst hz
  refine Le rfl (Bh.by (λz W'=>w7=W'∧z.1=false) (Cf (λ_=>Cf (λc2=>absurd (show c≤57 from c2) (by omega)) λ_=>⟨rfl,rfl⟩) λ_=>⟨rfl,rfl⟩) ?_)
  rintro⟨z,_⟩ _ ⟨rfl,hz⟩ _
  dsimp only at hz
  subst hz
  exact Le rfl (no nn G7 B1)
end Go.Proofs.YtppeepkmnijdpaaGreatDoor
