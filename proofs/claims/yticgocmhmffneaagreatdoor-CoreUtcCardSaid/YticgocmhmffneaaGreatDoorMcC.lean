import Derived.Test.YticgocmhmffneaaGreatDoorCfix
import Derived.Test.YticgocmhmffneaaGreatDoorEngX
namespace Go.Proofs.YticgocmhmffneaaGreatDoor
open Go.Eng Go Tryz
open Go.IntKind (wrap)
set_option linter.unusedSimpArgs false
set_option linter.unusedVariables false
set_option maxRecDepth 100000
set_option maxHeartbeats 8000000
abbrev A6:=Int×Int×Int×Int×Int×Int
abbrev K6:List CK:=[KI,KU,KI,KU,KI,KI]
def a6(a:A6):List Value:=[iV a.1,uV a.2.1,iV a.2.2.1,uV a.2.2.2.1,iV a.2.2.2.2.1,iV a.2.2.2.2.2]
def t6(a:A6):Jf K6:=(a.1,a.2.1,a.2.2.1,a.2.2.2.1,a.2.2.2.2.1,a.2.2.2.2.2,())
abbrev v6(a:A6):Value:=.agg #[iV a.1,uV a.2.1,iV a.2.2.1,uV a.2.2.2.1,iV a.2.2.2.2.1,iV a.2.2.2.2.2]
def tC(a b:Int):Bool:=decide (wrap .i16 (wrap .u16 (a-b))>0)
theorem Pz.cl{a b:Int}{w:World}{k:TR [(false,[.b])]→WP}(h:k ((tC a b,()),()) w):Ae prog F.Pz [uV a,uV b] w false [(false,[.b])] k:=by
 refine Pz.ok ?_
 unfold Pz.wp
 exact h
theorem Qu.cl{a:Int}{w:World}{k:TR [(false,[KU])]→WP}(h:k ((wrap .u16 (a+1),()),()) w):Ae prog F.Qu [uV a] w false [(false,[KU])] k:=by
 refine Qu.ok ?_
 unfold Qu.wp
 exact h
theorem D5.cl{n:Int}{w:World}{k:TR [(true,[KI,KI,KI])]→WP}(h: ∀w',Af w w'→k ((1,n,63,()),()) w'):Ae prog F.D5 [iV n] w false [(true,[KI,KI,KI])] k:=by
 refine D5.ok ?_
 unfold D5.wp
 exact Ad λp w2 e k1 u1=>k1.Fg _ rfl rfl λw3 k3 u3=>k3.bC (h w3 (Af.fresh (Af.refl _) u1 u3 e))
theorem E5.cl{n:Int}(hn:Xe n){w:World}{k:TR [(true,[KI,KI,KI])]→WP}(h: ∀w',Af w w'→k ((2,n,65535,()),()) w'):Ae prog F.E5 [uV n] w false [(true,[KI,KI,KI])] k:=by
 refine E5.ok ?_
 unfold E5.wp
 rw[Ah (by unfold Xe at hn;unfold I64;omega)]
 exact Ad λp w2 e k1 u1=>k1.Fg _ rfl rfl λw3 k3 u3=>k3.bC (h w3 (Af.fresh (Af.refl _) u1 u3 e))
theorem Gn.cl{n:Int}{w:World}{k:TR [(true,[KI,KI,KI])]→WP}(h: ∀w',Af w w'→k ((8,n,1125899906842624,()),()) w'):Ae prog F.Gn [iV n] w false [(true,[KI,KI,KI])] k:=by
 refine Gn.ok ?_
 unfold Gn.wp
 exact Ad λp w2 e k1 u1=>k1.Fg _ rfl rfl λw3 k3 u3=>k3.bC (h w3 (Af.fresh (Af.refl _) u1 u3 e))
def Yy(e:E3):Bool:=decide (0≤e.2.1)&&decide (e.2.1≤e.2.2)
def okF(es:List E3):Bool:=es.all Yy
def tJ(a:A6):List E3:=[(1,a.1,63),(2,a.2.1,65535),(1,a.2.2.1,63),(2,a.2.2.2.1,65535),(8,a.2.2.2.2.1,1125899906842624),(8,a.2.2.2.2.2,1125899906842624)]
def UA(a:A6):Prop:=Xe a.2.1∧Xe a.2.2.2.1
theorem Yq{w:World}{b n:Nat}{es:List E3}{cs:List Value}(h:Az w b cs)(e:cs=flat3 es)(hn:n=es.length):Ku w (some ⟨b,0,none⟩,n,n) es:=by
 subst e
 exact⟨by rw[Uc,hn],λ_=>⟨_,rfl,h.news⟩⟩
theorem Dt.cl{a:A6}(hu:UA a){w:World}{k:TR [(false,[.sl])]→WP}(h: ∀s w',Af w w'→Ku w' s (tJ a)→k ((s,()),()) w'):Ae prog F.Dt [v6 a] w false [(false,[.sl])] k:=by
 refine Dt.ok ?_
 unfold Dt.wp
 refine Ad λp1 w2 e1 k1 u1=>?_
 rw[Be]
 have k3:=k1.drew
 have hold: ∀{w':World},Af w2.drew w'→A7 [(16,(Addr.add ⟨p1,0,none⟩ 5),(w2.drew.cell? (Addr.add ⟨p1,0,none⟩ 5)).getD undef),(13,(Addr.add ⟨p1,0,none⟩ 4),(w2.drew.cell? (Addr.add ⟨p1,0,none⟩ 4)).getD undef),(10,(Addr.add ⟨p1,0,none⟩ 3),(w2.drew.cell? (Addr.add ⟨p1,0,none⟩ 3)).getD undef),(7,(Addr.add ⟨p1,0,none⟩ 2),(w2.drew.cell? (Addr.add ⟨p1,0,none⟩ 2)).getD undef),(4,(Addr.add ⟨p1,0,none⟩ 1),(w2.drew.cell? (Addr.add ⟨p1,0,none⟩ 1)).getD undef),(1,⟨p1,0,none⟩,(w2.drew.cell? ⟨p1,0,none⟩).getD undef)] w':=
  λu=>⟨k3.hold u (λx=>x) 5 (by simp),k3.hold u (λx=>x) 4 (by simp),k3.hold u (λx=>x) 3 (by simp),k3.hold u (λx=>x) 2 (by simp),k3.hold u (λx=>x) 1 (by simp),k3.hold u (λx=>x) 0 (by simp),trivial⟩
 refine k3.c0 rfl (k3.c1 1 rfl (k3.c1 2 rfl (k3.c1 3 rfl (k3.c1 4 rfl (k3.c1 5 rfl ?_)))))
 refine D5.cl λw11 u11=>⟨hold u11,E5.cl hu.1 λw13 u13=>⟨hold (u11.trans u13),D5.cl λw15 u15=>⟨hold ((u11.trans u13).trans u15),?_⟩⟩⟩
 have g15:=(u11.trans u13).trans u15
 refine E5.cl hu.2 λw17 u17=>⟨hold (g15.trans u17),Gn.cl λw19 u19=>⟨hold ((g15.trans u17).trans u19),Gn.cl λw21 u21=>⟨hold (((g15.trans u17).trans u19).trans u21),?_⟩⟩⟩
 have g21:=((g15.trans u17).trans u19).trans u21
 refine Ad λp22 w23 e22 k22 u22=>⟨hold (g21.trans u22),h (some ⟨p22,0,none⟩,6,6) w23 (((Am.drew u1).trans g21 λ_ _ x=>x).trans u22 λ_ _ x=>x) (Yq k22 rfl rfl)⟩
theorem F5.cl{a:A6}{w:World}{k:TR [(false,[.i .u8])]→WP}(h:k ((6,()),()) w):Ae prog F.Fa [.iface T.Bh (v6 a)] w false [(false,[.i .u8])] k:=by
 refine F5.ok ?_
 unfold F5.wp
 exact h
theorem Rq{e:E3}:Yy e=true↔0≤e.2.1∧e.2.1≤e.2.2:=by unfold Yy;simp
theorem Zo{es:List E3}{i:Nat}{e:E3}(he:es[i]? =some e)(h:Yy e=false):okF es=false:=by
 unfold okF
 rw[List.all_eq_false]
 exact⟨e,List.mem_of_getElem? he,by rw[h];simp⟩
theorem bV{es:List E3}(h: ∀e∈es,Yy e=true):okF es=true:=by unfold okF;rw[List.all_eq_true];exact h
theorem Ej.cl{a:A6}(hu:UA a){w:World}{k:TR [(false,[.b])]→WP}(h: ∀w',Af w w'→k ((okF (tJ a),()),()) w'):Ae prog F.Ew [.iface T.Bh (v6 a)] w false [(false,[.b])] k:=by
 refine Ej.ok ?_
 unfold Ej.wp
 refine F5.cl (Jl rfl (Dt.cl hu λs w4 u4 hE=>?_))
 have hl:=hE.len
 have h6:(tJ a).length=6:=rfl
 refine Ci.by (λz w'=>Af w4 w'∧ ∃i:Nat,z=((i:Int),())∧i≤(tJ a).length∧ ∀e∈(tJ a).take i,Yy e=true) (λz=>(1000-z.1).toNat) ⟨Af.refl _,0,rfl,by omega,by simp⟩ ?_
 rintro z w7 ⟨g,i,rfl,hi,hgood⟩ _
 have out: ∀w',Af w4 w'→okF (tJ a)=false→k ((false,()),()) w':=λw' g h0=>by
  have:=h w' (u4.trans g)
  rw[h0] at this;exact this
 refine Dx (λc=>?_) λc=>?_
 ·have hi':i<(tJ a).length:=by have c:(i:Int)<(s.2.1:Int):=c;omega
  have he:(tJ a)[i]? =some (tJ a)[i]:=List.getElem?_eq_getElem hi'
  generalize (tJ a)[i]=e at he
  have hE7:=hE.Ai g
  refine hE7.ix (z:=(i:Int)) rfl he λad ha=>hE7.A8 ha he ?_
  refine Ad λp10 w11 e10 k10 u11=>k10.Fg _ rfl rfl λw12 k12 u12=>k12.i1 1 rfl ?_
  have g12:=Af.fresh g u11 u12 e10
  refine Dx (λc=>out w12 g12 (Zo he ?_)) λc1=>k12.i1 1 rfl (k12.i1 2 rfl (Dx (λc=>out w12 g12 (Zo he ?_)) λc2=>⟨⟨g12,i+1,?_,by omega,?_⟩,?_⟩))
  ·have c:e.2.1<0:=c
   cases hb:Yy e
   ·rfl
   ·have:=Rq.1 hb;omega
  ·have c:e.2.1>e.2.2:=c
   cases hb:Yy e
   ·rfl
   ·have:=Rq.1 hb;omega
  ·show(wrap .i64 ((i:Int)+1),())=_
   rw[Ah (by unfold I64;omega)];rfl
  ·have c1: ¬e.2.1<0:=c1
   have c2: ¬e.2.1>e.2.2:=c2
   rw[List.take_add_one,he]
   intro x hx
   rcases List.mem_append.1 hx with hx|hx
   ·exact hgood x hx
   ·have:x=e:=by simpa using hx
    subst this
    exact Rq.2 ⟨by omega,by omega⟩
  ·show(1000-wrap .i64 ((i:Int)+1)).toNat<(1000-(i:Int)).toNat
   rw[Ah (by unfold I64;omega)];omega
 ·have hi':i=(tJ a).length:=by have c: ¬(i:Int)<(s.2.1:Int):=c;omega
  subst hi'
  rw[List.take_length] at hgood
  have:=h w7 (u4.trans g)
  rw[bV hgood] at this
  exact this
def bk(has:Bool)(a:A6):List Value:=.bool has::a6 a
theorem Gh.cl{b:Nat}{has:Bool}{old a:A6}(hu:UA a){w:World}(hB:Az w b (bk has old)){k:TR [(false,[.b])]→WP}
  (h1:okF (tJ a)=true→(has=true→tC a.2.1 old.2.1=true)→ ∀w',Az w' b (bk true a)→Am (λz=>z=b) w w'→k ((true,()),()) w')
  (h0: ¬(okF (tJ a)=true∧(has=true→tC a.2.1 old.2.1=true))→ ∀w',Az w' b (bk has old)→Af w w'→k ((false,()),()) w'):
  Ae prog F.Gh [.pointer (some ⟨b,0,none⟩),v6 a] w false [(false,[.b])] k:=by
 refine Gh.ok ?_
 unfold Gh.wp
 have lb:=hB.lt
 refine Ad λp1 w2 e1 k1 u1=>?_
 refine Cc.by (λ_ w'=>Af w w'∧Az w' p1 (a6 a)∧okF (tJ a)=true∧(has=true→tC a.2.1 old.2.1=true)) ?_ ?_
 ·rw[Be]
  have k3:=k1.drew
  refine Jl rfl (k3.cA (t6 a) rfl (Ej.cl (a:=a) hu λw9 u9=>⟨⟨k3.hold u9 (λx=>x) 0 (by simp),k3.hold u9 (λx=>x) 1 (by simp),k3.hold u9 (λx=>x) 2 (by simp),k3.hold u9 (λx=>x) 3 (by simp),k3.hold u9 (λx=>x) 4 (by simp),k3.hold u9 (λx=>x) 5 (by simp),trivial⟩,?_⟩))
  have g9:Af w w9:=(Am.drew u1).trans u9 λ_ _ x=>x
  have B9:=hB.Ai g9
  have k9:=k3.Ai u9
  refine Ee (λc=>h0 (λx=>?_) w9 B9 g9) λc=>?_
  ·have c:okF (tJ a)=false:=c
   rw[c] at x;exact absurd x.1 (by simp)
  have c:okF (tJ a)=true:=c
  rw[Ac]
  refine B9.c0 rfl (bM (λch=>?_) λch=>⟨g9,k9,c,λh=>?_⟩)
  ·refine k9.c1 1 rfl ?_
   rw[Ac]
   refine B9.c2 1 1 rfl (Pz.cl ⟨⟨B9.hold (Af.refl _) (λx=>x) 0 (by simp[bk]),k3.hold u9 (λx=>x) 0 (by simp),k3.hold u9 (λx=>x) 1 (by simp),k3.hold u9 (λx=>x) 2 (by simp),k3.hold u9 (λx=>x) 3 (by simp),k3.hold u9 (λx=>x) 4 (by simp),k3.hold u9 (λx=>x) 5 (by simp),trivial⟩,?_⟩)
   refine Ee (λcn=>h0 (λx=>?_) w9 B9 g9) λcn=>⟨g9,k9,c,λ_=>cn⟩
   have cn:tC a.2.1 old.2.1=false:=cn
   have:=x.2 ch
   rw[cn] at this;cases this
  ·have ch:has=false:=ch
   rw[ch] at h;cases h
 ·rintro _ w5 ⟨g,k5,hg,hn⟩ _
  rw[Be]
  have B5:=(hB.Ai g).drew
  have k6:=k5.drew
  refine k6.cA (t6 a) rfl ?_
  rw[Ac]
  refine B5.sN0 [.bool true] (by simp[bk]) rfl λw20 k20 u20=>⟨?_,?_⟩
  ·have hne:p1≠b:=by omega
   exact⟨k6.hold u20 hne 0 (by simp[a6]),k6.hold u20 hne 1 (by simp[a6]),k6.hold u20 hne 2 (by simp[a6]),k6.hold u20 hne 3 (by simp[a6]),k6.hold u20 hne 4 (by simp[a6]),k6.hold u20 hne 5 (by simp[a6]),trivial⟩
  rw[Ac]
  refine k20.sN 1 (a6 a) (by simp[bk,a6,splice]) rfl λw22 k22 u22=>⟨trivial,h1 hg hn w22 k22 ((Am.Bj (Am.drew g)).trans (u20.trans u22 λ_ _ h=>h) λ_ _ h=>h)⟩
end Go.Proofs.YticgocmhmffneaaGreatDoor
namespace Go.Proofs.YticgocmhmffneaaGreatDoor
open Go.Eng Go Tryz
open Go.IntKind (wrap)
set_option linter.unusedSimpArgs false
set_option linter.unusedVariables false
set_option maxRecDepth 100000
set_option maxHeartbeats 8000000
theorem Qw.cl{b:Nat}{a:A6}{t:Int}{w:World}(hB:Az w b (bk true a))(h0:0≤t)(h1:t≤1125899906842624)(hg:okF (tJ a)=true){k:TR [(true,[KI,KI]),(false,[KI])]→WP}
  (hk: ∀w',Af w w'→k ((a.2.2.2.2.2+(t-a.2.2.2.2.1)/1000,(t-a.2.2.2.2.1)%1000,()),(0,()),()) w'):
  Ae prog F.Qw [.pointer (some ⟨b,0,none⟩),.agg #[iV a.2.2.1,uV a.2.2.2.1],iV t] w true [(true,[KI,KI]),(false,[KI])] k:=by
 refine Qw.ok ?_
 unfold Qw.wp
 have lb:=hB.lt
 unfold okF at hg
 rw[List.all_eq_true] at hg
 have g4:=Rq.1 (hg (8,a.2.2.2.2.1,1125899906842624) (by simp[tJ]))
 have g5:=Rq.1 (hg (8,a.2.2.2.2.2,1125899906842624) (by simp[tJ]))
 dsimp only at g4 g5
 refine Ad λp1 w2 e1 k1 u1=>Ad λp3 w4 e3 k3 u3=>Jl rfl ?_
 have g4':=u1.trans u3
 have B4:=hB.Ai g4'
 have q1:=k1.Ai u3
 have l1:=k1.lt
 rw[Ac]
 refine B4.c0 rfl (Jl rfl ?_)
 refine Cc.by (λz w'=>w'=w4.drew∧z.1=false) ?_ ?_
 ·rw[Be,Ac]
  refine B4.drew.c2 1 2 rfl (q1.drew.c0 rfl (bK (λh=>absurd rfl h) λ_=>?_))
  rw[Ac]
  exact B4.drew.c2 1 3 rfl (q1.drew.c1 1 rfl ⟨rfl,by simp⟩)
 ·rintro⟨z,_⟩ _ ⟨rfl,hz⟩ _
  dsimp only at hz
  subst hz
  refine Jl rfl (Dx (λc=>absurd (show t<0 from c) (by omega)) λ_=>Dx (λc=>absurd (show t>1125899906842624 from c) (by omega)) λ_=>?_)
  rw[Ac]
  refine B4.drew.c2 1 4 rfl ?_
  rw[Ah (by unfold I64;omega)]
  refine Oi.cl (by unfold I64;omega) (by unfold I64;omega) λw30 u30=>?_
  rw[Ac]
  refine(B4.drew.Ai u30).c2 1 5 rfl ?_
  have e:dQ (t-a.2.2.2.2.1) 1000=(t-a.2.2.2.2.1)/1000:=by unfold dQ;rw[if_neg (by decide)]
  have e':jW (t-a.2.2.2.2.1) 1000=(t-a.2.2.2.2.1)%1000:=by unfold jW;rw[if_neg (by decide)]
  dsimp only
  rw[e,e',Ah (by unfold I64;omega)]
  refine(k3.drew.Ai u30).Fg _ rfl rfl λw33 k33 u33=>k33.ld2 ?_
  exact hk w33 (Am.trans ((Am.drew g4').trans u30 λ_ _ x=>x) u33 λi hi h=>by have:=u1.size;omega)
theorem Et.cl{b:Nat}{has:Bool}{old:A6}{me tai:Int}{t0 t1 t2 t3 t4:Int}(h3:Xe t3){w:World}(hB:Az w b (bk has old))(hg:okF (tJ (me,wrap .u16 (old.2.1+1),t2,t3,t0,tai))=true)
  {k:TR [(true,K6),(false,[KI])]→WP}
  (hk: ∀w',Az w' b (bk true (me,wrap .u16 (old.2.1+1),t2,t3,t0,tai))→Am (λz=>z=b) w w'→k (t6 (me,wrap .u16 (old.2.1+1),t2,t3,t0,tai),(0,()),()) w'):
  Ae prog F.Et [.pointer (some ⟨b,0,none⟩),iV me,.agg #[iV t0,iV t1,iV t2,uV t3,iV t4],iV tai] w true [(true,K6),(false,[KI])] k:=by
 refine Et.ok ?_
 unfold Et.wp
 have lb:=hB.lt
 have hU:UA (me,wrap .u16 (old.2.1+1),t2,t3,t0,tai):=⟨by show Xe (wrap .u16 _);rw[oL];unfold Xe;omega,h3⟩
 obtain⟨a,ea⟩: ∃a:A6,a=(me,wrap .u16 (old.2.1+1),t2,t3,t0,tai):=⟨_,rfl⟩
 refine Ad λp1 w2 e1 k1 u1=>Ad λp3 w4 e3 k3 u3=>Jl rfl ?_
 have l1:=k1.lt
 have l3:=k3.lt
 have g4:=u1.trans u3
 have B4:=(hB.Ai g4).drew
 have q1:=(k1.Ai u3).drew
 have n:b<p1∧p1<p3:=by omega
 refine Cc.by (λz w'=>Af w w'∧Af w4 w'∧ ∃pb,z.1=⟨pb,0,none⟩∧w4.heap.size≤pb∧Az w' pb (a6 a)) ?_ ?_
 ·rw[Be,Ac]
  refine B4.c2 1 1 rfl (q1.c1 2 rfl (q1.c2 2 1 rfl (q1.c0 rfl ⟨?_,?_⟩)))
  ·refine Qu.cl ⟨⟨q1.hold (Af.refl _) (λx=>x) 0 (by simp),q1.X3 (Af.refl _) (λx=>x) 2 1 (by simp),q1.hold (Af.refl _) (λx=>x) 2 (by simp),B4.X3 (Af.refl _) (λx=>x) 1 1 (by simp[bk,a6]),trivial⟩,?_⟩
   refine Ad λp18 w19 e18 k18 u18=>⟨⟨q1.hold u18 (λx=>x) 0 (by simp),q1.X3 u18 (λx=>x) 2 1 (by simp),q1.hold u18 (λx=>x) 2 (by simp),B4.X3 u18 (λx=>x) 1 1 (by simp[bk,a6]),trivial⟩,?_⟩
   have e18:w4.heap.size=p18:=e18
   subst ea
   refine k18.Fg _ rfl rfl λw20 k20 u20=>?_
   have f:Af w4 w20:=Am.trans ((Af.drew w4).trans u18) u20 λi hi h=>by omega
   exact⟨trivial,g4.trans f,f,p18,rfl,by omega,k20⟩
  ·refine Ad λp18 w19 e18 k18 u18=>⟨⟨q1.hold u18 (λx=>x) 0 (by simp),q1.X3 u18 (λx=>x) 2 1 (by simp),q1.hold u18 (λx=>x) 2 (by simp),B4.X3 u18 (λx=>x) 1 1 (by simp[bk,a6]),trivial⟩,?_⟩
   have e18:w4.heap.size=p18:=e18
   refine Qu.cl ⟨⟨q1.hold u18 (λx=>x) 0 (by simp),q1.X3 u18 (λx=>x) 2 1 (by simp),q1.hold u18 (λx=>x) 2 (by simp),trivial⟩,?_⟩
   subst ea
   refine k18.Fg _ rfl rfl λw20 k20 u20=>?_
   have f:Af w4 w20:=Am.trans ((Af.drew w4).trans u18) u20 λi hi h=>by omega
   exact⟨trivial,g4.trans f,f,p18,rfl,by omega,k20⟩
 ·rintro⟨z,_⟩ w9 ⟨g9,f9,pb,hz,hpb,kb⟩ _
  dsimp only at hz
  subst hz
  rw[←ea] at hg hU hk
  refine kb.cA (t6 a) rfl (Ej.cl (a:=a) hU λw28 u28=>Ee (λc=>absurd (show okF (tJ a)=false from c) (by rw[hg];simp)) λ_=>?_)
  rw[Be]
  have kb2:=(kb.Ai u28).drew
  have B2:=((hB.Ai g9).Ai u28).drew
  refine kb2.cA (t6 a) rfl ?_
  rw[Ac]
  refine B2.sN0 [.bool true] (by simp[bk]) rfl λw34 k34 u34=>⟨?_,?_⟩
  ·have hne:pb≠b:=by omega
   exact⟨kb2.hold u34 hne 0 (by simp[a6]),kb2.hold u34 hne 1 (by simp[a6]),kb2.hold u34 hne 2 (by simp[a6]),kb2.hold u34 hne 3 (by simp[a6]),kb2.hold u34 hne 4 (by simp[a6]),kb2.hold u34 hne 5 (by simp[a6]),trivial⟩
  rw[Ac]
  refine k34.sN 1 (a6 a) (by simp[bk,a6,splice]) rfl λw36 k36 u36=>⟨trivial,?_⟩
  refine((kb2.upd u34 (by omega)).upd u36 (by omega)).cA (t6 a) rfl ?_
  have q3:=(((((k3.Ai f9).Ai u28).drew).upd u34 (by omega)).upd u36 (by omega))
  refine q3.Fg (a6 a) rfl rfl λw38 k38 u38=>k38.cA (t6 a) rfl ?_
  refine hk w38 (k36.upd u38 (by omega)) ?_
  have U:Am (λz=>z=b) w w36:=(Am.Bj (Am.drew (g9.trans u28))).trans (u34.trans u36 λ_ _ h=>h) λ_ _ h=>h
  exact Am.trans U u38 λi hi h=>by omega
abbrev Uo:List CK:=[KI,KI,KI,KI,KU,KU,KI,KI,KI,KI,KI,KI,KI,KI]
abbrev kC:=Jf Uo
end Go.Proofs.YticgocmhmffneaaGreatDoor
