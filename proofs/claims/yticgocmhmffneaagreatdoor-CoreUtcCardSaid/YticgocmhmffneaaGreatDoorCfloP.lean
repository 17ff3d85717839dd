import Derived.Test.YticgocmhmffneaaGreatDoorMcF
import Derived.Test.YticgocmhmffneaaGreatDoorMcB
namespace Go.Proofs.YticgocmhmffneaaGreatDoor
open Go.Eng Go Tryz
open Go.IntKind (wrap)
set_option linter.unusedSimpArgs false
set_option linter.unusedVariables false
set_option maxRecDepth 100000
set_option maxHeartbeats 8000000
abbrev KS:List CK:=[KI,KI,KU,KU,KI,KI]
abbrev S6:=Int×Int×Int×Int×Int×Int
def tS(s:S6):Jf KS:=(s.1,s.2.1,s.2.2.1,s.2.2.2.1,s.2.2.2.2.1,s.2.2.2.2.2,())
def Z4(s:S6):List E3:=[(1,s.1,63),(1,s.2.1,63),(2,wrap .i64 s.2.2.1,65535),(2,wrap .i64 s.2.2.2.1,65535),(1,s.2.2.2.2.1,63),(8,s.2.2.2.2.2,1125899906842624)]
abbrev vS(s:S6):Value:=.agg #[iV s.1,iV s.2.1,uV s.2.2.1,uV s.2.2.2.1,iV s.2.2.2.2.1,iV s.2.2.2.2.2]
theorem E5.clw{n:Int}{w:World}{k:TR [(true,[KI,KI,KI])]→WP}(h: ∀w',Af w w'→k ((2,wrap .i64 n,65535,()),()) w'):Ae prog F.E5 [uV n] w false [(true,[KI,KI,KI])] k:=by
 refine E5.ok ?_
 unfold E5.wp
 exact Ad λp w2 e k1 u1=>k1.Fg _ rfl rfl λw3 k3 u3=>k3.bC (h w3 (Af.fresh (Af.refl _) u1 u3 e))
theorem Qp.cl{n:Int}{w:World}{k:TR [(true,[KI,KI,KI])]→WP}(h: ∀w',Af w w'→k ((1,n,63,()),()) w'):Ae prog F.Qp [iV n] w false [(true,[KI,KI,KI])] k:=by
 refine Qp.ok ?_
 unfold Qp.wp
 exact Ad λp w2 e k1 u1=>k1.Fg _ rfl rfl λw3 k3 u3=>k3.bC (h w3 (Af.fresh (Af.refl _) u1 u3 e))
theorem Dh.clF{s:S6}{w:World}{k:TR [(false,[.sl])]→WP}(h: ∀(q:Sl) w',Af w w'→Ku w' q (Z4 s)→(∀a,q.1=some a→w.heap.size≤a.block)→k ((q,()),()) w'):Ae prog F.Dh [vS s] w false [(false,[.sl])] k:=by
 refine Dh.ok ?_
 unfold Dh.wp
 refine Ad λp1 w2 e1 k1 u1=>?_
 rw[Be]
 have k3:=k1.drew
 have hold: ∀{w':World},Af w2.drew w'→A7 [(16,(Addr.add ⟨p1,0,none⟩ 5),(w2.drew.cell? (Addr.add ⟨p1,0,none⟩ 5)).getD undef),(13,(Addr.add ⟨p1,0,none⟩ 4),(w2.drew.cell? (Addr.add ⟨p1,0,none⟩ 4)).getD undef),(10,(Addr.add ⟨p1,0,none⟩ 3),(w2.drew.cell? (Addr.add ⟨p1,0,none⟩ 3)).getD undef),(7,(Addr.add ⟨p1,0,none⟩ 2),(w2.drew.cell? (Addr.add ⟨p1,0,none⟩ 2)).getD undef),(4,(Addr.add ⟨p1,0,none⟩ 1),(w2.drew.cell? (Addr.add ⟨p1,0,none⟩ 1)).getD undef),(1,⟨p1,0,none⟩,(w2.drew.cell? ⟨p1,0,none⟩).getD undef)] w':=
  λu=>⟨k3.hold u (λx=>x) 5 (by simp),k3.hold u (λx=>x) 4 (by simp),k3.hold u (λx=>x) 3 (by simp),k3.hold u (λx=>x) 2 (by simp),k3.hold u (λx=>x) 1 (by simp),k3.hold u (λx=>x) 0 (by simp),trivial⟩
 refine k3.c0 rfl (k3.c1 1 rfl (k3.c1 2 rfl (k3.c1 3 rfl (k3.c1 4 rfl (k3.c1 5 rfl ?_)))))
 refine D5.cl λw11 u11=>⟨hold u11,D5.cl λw13 u13=>⟨hold (u11.trans u13),E5.clw λw15 u15=>⟨hold ((u11.trans u13).trans u15),?_⟩⟩⟩
 have g15:=(u11.trans u13).trans u15
 refine E5.clw λw17 u17=>⟨hold (g15.trans u17),Qp.cl λw19 u19=>⟨hold ((g15.trans u17).trans u19),Gn.cl λw21 u21=>⟨hold (((g15.trans u17).trans u19).trans u21),?_⟩⟩⟩
 have g21:=((g15.trans u17).trans u19).trans u21
 refine Ad λp22 w23 e22 k22 u22=>⟨hold (g21.trans u22),h (some ⟨p22,0,none⟩,6,6) w23 (((Am.drew u1).trans g21 λ_ _ x=>x).trans u22 λ_ _ x=>x) (Yq k22 rfl rfl) λa ha=>by cases ha;have:=g21.size;have:=u1.size;exact Nat.le_trans (Nat.le_trans u1.size g21.size) (Nat.le_of_eq e22)⟩
theorem Dh.cl{s:S6}{w:World}{k:TR [(false,[.sl])]→WP}(h: ∀q w',Af w w'→Ku w' q (Z4 s)→k ((q,()),()) w'):Ae prog F.Dh [vS s] w false [(false,[.sl])] k:=
 Dh.clF λq w' g E _=>h q w' g E
theorem Fv.cl{v:Value}{s:S6}(hv:v=vS s){w:World}{k:TR [(false,[.i .u8])]→WP}(h:k ((1,()),()) w):Ae prog F.Fa [.iface T.Dy v] w false [(false,[.i .u8])] k:=by
 subst hv
 refine Fv.ok ?_
 unfold Fv.wp
 exact h
theorem Fp.cl{s:S6}{w:World}{k:TR [(false,[.b])]→WP}(h: ∀w',Af w w'→k ((okF (Z4 s),()),()) w'):Ae prog F.Ew [.iface T.Dy (vS s)] w false [(false,[.b])] k:=by
 refine Fp.ok ?_
 unfold Fp.wp
 refine Fv.cl (s:=s) rfl (Jl rfl (Dh.cl (s:=s) λq w4 u4 hE=>?_))
 have hl:=hE.len
 have h6:(Z4 s).length=6:=rfl
 refine Ci.by (λz w'=>Af w4 w'∧ ∃i:Nat,z=((i:Int),())∧i≤(Z4 s).length∧ ∀e∈(Z4 s).take i,Yy e=true) (λz=>(1000-z.1).toNat) ⟨Af.refl _,0,rfl,by omega,by simp⟩ ?_
 rintro z w7 ⟨g,i,rfl,hi,hgood⟩ _
 have out: ∀w',Af w4 w'→okF (Z4 s)=false→k ((false,()),()) w':=λw' g h0=>by
  have:=h w' (u4.trans g)
  rw[h0] at this;exact this
 refine Dx (λc=>?_) λc=>?_
 ·have hi':i<(Z4 s).length:=by have c:(i:Int)<(q.2.1:Int):=c;omega
  have he:(Z4 s)[i]? =some (Z4 s)[i]:=List.getElem?_eq_getElem hi'
  generalize (Z4 s)[i]=e at he
  have hE7:=hE.Ai g
  refine hE7.ix (z:=(i:Int)) rfl he λad ha=>hE7.A8 ha he ?_
  refine Ad λp10 w11 e10 k10 u11=>k10.Fg _ rfl rfl λw12 k12 u12=>k12.i1 1 rfl ?_
  have g12:=Af.fresh g u11 u12 e10
  refine Dx (λc=>out w12 g12 (Zo he ?_)) λc1=>k12.i1 1 rfl (k12.i1 2 rfl (Dx (λc=>out w12 g12 (Zo he ?_)) λc2=>⟨⟨g12,i+1,?_,by omega,?_⟩,?_⟩))
  ·have c:e.2.1<0:=c
   cases hb:Yy e
   ·rfl
   ·have:=Rq.1 hb;omega
  ·have c:e.2.1>e.2.2:=c
   cases hb:Yy e
   ·rfl
   ·have:=Rq.1 hb;omega
  ·show(wrap .i64 ((i:Int)+1),())=_
   rw[Ah (by unfold I64;omega)];rfl
  ·have c1: ¬e.2.1<0:=c1
   have c2: ¬e.2.1>e.2.2:=c2
   rw[List.take_add_one,he]
   intro x hx
   rcases List.mem_append.1 hx with hx|hx
   ·exact hgood x hx
   ·have:x=e:=by simpa using hx
    subst this
    exact Rq.2 ⟨by omega,by omega⟩
  ·show(1000-wrap .i64 ((i:Int)+1)).toNat<(1000-(i:Int)).toNat
   rw[Ah (by unfold I64;omega)];omega
 ·have hi':i=(Z4 s).length:=by have c: ¬(i:Int)<(q.2.1:Int):=c;omega
  subst hi'
  rw[List.take_length] at hgood
  have:=h w7 (u4.trans g)
  rw[bV hgood] at this
  exact this
abbrev Abx(be:Nat)(f:Fl):List Value:=[.pointer (some ⟨be,0,none⟩),iV f.me,iV f.tmo,iV f.ign,iV f.need,iV f.Aw]
abbrev pO(f:Fl):List Value:=[iV f.ll,iV f.lg,iV f.lh]
structure FW(w:World)(O:NP)(bf be:Nat)(f:Fl)(e:El)(l:Um)(es:List E3):Prop where
 ex: ∃r s,Az w bf (flC be f s)∧oJ w be r e l∧Gs w 0 T.Du 3 s es.length (flat3 es)∧(∀a,s.1=some a→a.block≠bf∧a.block≠be∧a.block≠r∧O a.block)∧O r∧bf≠r
 ne:bf≠be
 obf:O bf
 obe:O be
 lt: ∀z,O z→z<w.heap.size
 len:es.length≤8
 good: ∀x∈es,Jm x=true
 need:1≤f.need
theorem FW.upd{S O:NP}{w w':World}{bf be:Nat}{f:Fl}{e:El}{l:Um}{es:List E3}(h:FW w O bf be f e l es)(u:Am S w w')(hS: ∀z,O z→ ¬S z):FW w' O bf be f e l es:=by
 obtain⟨⟨r,s,h1,h2,h3,h4,h5,h6⟩,ne,obf,obe,lt,len,good,need⟩:=h
 exact⟨⟨r,s,h1.upd u (hS _ obf),h2.upd u (hS _ obe) (hS _ h5),h3.upd u λa ha=>hS _ (h4 a ha).2.2.2,h4,h5,h6⟩,ne,obf,obe,λz hz=>Nat.lt_of_lt_of_le (lt z hz) u.size,len,good,need⟩
theorem FW.Ai{O:NP}{w w':World}{bf be:Nat}{f:Fl}{e:El}{l:Um}{es:List E3}(h:FW w O bf be f e l es)(u:Af w w'):FW w' O bf be f e l es:=h.upd u λ_ _ x=>x
structure Nx(O:NP)(w:World)(O':NP)(w':World):Prop where
 u:Am O w w'
 sub: ∀z,O' z→O z∨w.heap.size≤z
theorem Nx.trans{O O' O'':NP}{w w' w'':World}(h:Nx O w O' w')(k:Nx O' w' O'' w''):Nx O w O'' w'':=
 ⟨h.u.trans k.u λi hi ho=>(h.sub i ho).elim id λx=>by omega,λz hz=>(k.sub z hz).elim (h.sub z) λx=>.inr (Nat.le_trans h.u.size x)⟩
theorem Nx.Ai{O O':NP}{w w' w'':World}(h:Nx O w O' w')(g:Af w' w''):Nx O w O' w'':=⟨h.u.Ai g,h.sub⟩
theorem Nx.of{O:NP}{w w':World}(g:Af w w'):Nx O w O w':=⟨Am.Bj g,λz hz=>.inl hz⟩
theorem Nx.pre{O O':NP}{w w' w'':World}(g:Af w w')(h:Nx O w' O' w''):Nx O w O' w'':=(Nx.of g).trans h
theorem Nx.blk{O O':NP}{w w':World}{b:Nat}{cs:List Value}(h:Nx O w O' w')(k:Az w b cs)(hb: ¬O b):Az w' b cs∧ ¬O' b:=
 ⟨k.upd h.u hb,λx=>(h.sub b x).elim hb λy=>by have:=k.lt;omega⟩
theorem FW.eF{O:NP}{w:World}{bf be:Nat}{f:Fl}{e:El}{l:Um}{es:List E3}(h:FW w O bf be f e l es){k:Option Addr→Prop}(hk:k (some ⟨be,0,none⟩)):ld1 .p ⟨bf,0,none⟩ w k:=by
 obtain⟨r,s,h1,_⟩:=h.ex
 exact h1.c0 (c:=.p) (x:=some ⟨be,0,none⟩) rfl hk
theorem FW.b{O:NP}{w:World}{bf be:Nat}{f:Fl}{e:El}{l:Um}{es:List E3}(h:FW w O bf be f e l es): ∃r s,FlB w bf be r f s e l es:=by
 obtain⟨r,s,h1,h2,h3,h4,h5⟩:=h.ex
 exact⟨r,s,h1,h2,h3.Abt,h.ne⟩
theorem FW.el{O:NP}{w:World}{bf be:Nat}{f:Fl}{e:El}{l:Um}{es:List E3}(h:FW w O bf be f e l es): ∃r,oJ w be r e l:=by
 obtain⟨r,s,h1⟩:=h.b;exact⟨r,h1.el⟩
theorem Ui.cw{me r0 r1 r2 r3:Int}{w:World}{k:TR [(false,[.p]),(false,[KI])]→WP}
  (h0:(me<0∨64≤me∨tV r0 r1 r2 r3=false)→ ∀w',Af w w'→k ((none,()),(1,()),()) w')
  (h1:0≤me→me<64→tV r0 r1 r2 r3=true→ ∀O bf be w',FW w' O bf be ⟨me,r0,r1,r2,r3,0,0,0⟩ ⟨me,r0,r1,0,0,-1,0,0⟩ [] []→(∀z,O z→w.heap.size≤z)→Af w w'→k ((some ⟨bf,0,none⟩,()),(0,()),()) w'):
  Ae prog F.Ui [iV me,.agg #[iV r0,iV r1,iV r2,iV r3]] w true [(false,[.p]),(false,[KI])] k:=by
 refine Ui.cl h0 λm0 m1 hg bf be m w' lf le lm hF g=>h1 m0 m1 hg (λz=>z=bf∨z=be∨z=m) bf be w' ?_ ?_ g
 ·have a1:=hF.blk.lt
  have a2:=hF.el.blk.lt
  have a3:=hF.el.map.lt
  refine⟨⟨m,(none,0,0),hF.blk,hF.el,Gs.nil _ _ _ _,(λa h=>by cases h),.inr (.inr rfl),Zr.ne hF.el.map hF.blk⟩,hF.ne,.inl rfl,.inr (.inl rfl),?_,by simp,by simp,(Ya.1 hg).2.1⟩
  rintro z (rfl|rfl|rfl)<;>assumption
 ·rintro z (rfl|rfl|rfl)<;>assumption
theorem Ba.cw{O:NP}{bf be:Nat}{f:Fl}{e:El}{l:Um}{es:List E3}{w:World}(hF:FW w O bf be f e l es){k:TR [(false,[.b])]→WP}
  (h: ∀w',Af w w'→k ((Xb f e es.length,()),()) w'):Ae prog F.Ba [.pointer (some ⟨bf,0,none⟩)] w false [(false,[.b])] k:=by
 obtain⟨r,s,hb⟩:=hF.b
 exact Ba.cl hb h
theorem Bc.cw{O:NP}{bf be:Nat}{f:Fl}{e:El}{l:Um}{es:List E3}{w:World}(hF:FW w O bf be f e l es){k:TR [(false,[.b])]→WP}
  (h: ∀w',Af w w'→k ((mine e,()),()) w'):Ae prog F.Bc [.pointer (some ⟨be,0,none⟩)] w false [(false,[.b])] k:=by
 obtain⟨r,hb⟩:=hF.el
 exact Bc.cl hb h
theorem Dc.cw{O:NP}{bf be:Nat}{f:Fl}{e:El}{l:Um}{es:List E3}{w:World}(hF:FW w O bf be f e l es){k:TR [(false,[KI])]→WP}
  (h:k ((e.root,()),()) w):Ae prog F.Dc [.pointer (some ⟨be,0,none⟩)] w false [(false,[KI])] k:=by
 obtain⟨r,hb⟩:=hF.el
 exact Dc.cl hb h
theorem Hg.cw{O:NP}{bf be:Nat}{f:Fl}{e:El}{l:Um}{es:List E3}{w:World}(hF:FW w O bf be f e l es){k:TR [(false,[KI])]→WP}
  (h:k (((es.length:Int),()),()) w):Ae prog F.Hg [.pointer (some ⟨bf,0,none⟩)] w false [(false,[KI])] k:=by
 refine Hg.ok ?_
 unfold Hg.wp
 obtain⟨r,s,hb⟩:=hF.b
 refine Jl rfl ?_
 rw[Ac]
 have hc:w.cell? (Addr.add ⟨bf,0,none⟩ 6)=some (.slice s.1 s.2.1 s.2.2):=by rw[N8,Nat.zero_add,hb.blk.cell];rfl
 refine Dk.at hc ?_
 rw[hb.Abt.len];exact h
def fgF(f:Fl):Fl:={f with ll:=0,lg:=0,lh:=0}
theorem Em.cw{O:NP}{bf be:Nat}{f:Fl}{e:El}{l:Um}{es:List E3}{w:World}(hF:FW w O bf be f e l es){k:TR []→WP}
  (h: ∀w' O',FW w' O' bf be (fgF f) e l []→Nx O w O' w'→k () w'):Ae prog F.Em [.pointer (some ⟨bf,0,none⟩)] w true [] k:=by
 refine Em.ok ?_
 unfold Em.wp
 obtain⟨r,s,h1,h2,h3,h4,h5,h6⟩:=hF.ex
 rw[Ac]
 have hT:jE w 0 bf (Abx be f) (pO f) s es:=⟨h1,h3,hF.len,λa ha=>(h4 a ha).1⟩
 refine Gg.clG (Abx be f) (pO f) hT λw3 T3 u3=>?_
 rw[Ac]
 have k3:Az w3 bf (flC be f (none,0,0)):=T3.1
 refine k3.sN 7 _ (by simp[flC]) rfl λw5 k5 u5=>?_
 have U:Am (λz=>z=bf) w w5:=Am.trans u3 u5 λ_ _ h=>h
 refine h w5 O ⟨⟨r,(none,0,0),k5,h2.upd U (λh=>hF.ne h.symm) (λh=>h6 h.symm),Gs.nil _ _ _ _,(λa h=>by cases h),h5,h6⟩,hF.ne,hF.obf,hF.obe,λz hz=>Nat.lt_of_lt_of_le (hF.lt z hz) U.size,by simp,by simp,hF.need⟩ ⟨U.mono λz hz=>by rw[hz];exact hF.obf,λz hz=>.inl hz⟩
theorem Aud{es:List E3}{x:E3}(h: ∀y∈es,Jm y=true)(hx:Jm x=true): ∀y∈Zn es x,Jm y=true:=by
 intro y hy
 unfold Zn at hy
 split at hy
 ·exact h y hy
 ·rcases List.mem_append.1 (List.mem_of_mem_drop hy) with h'|h'
  ·exact h y h'
  ·have:y=x:=by simpa using h'
   subst this;exact hx
theorem FW.add{O:NP}{bf be:Nat}{f:Fl}{e:El}{l:Um}{es:List E3}{x:E3}{w:World}(hF:FW w O bf be f e l es)(hx:Jm x=true){k:TR [(false,[KI])]→WP}
  (h: ∀w' O',FW w' O' bf be f e l (Zn es x)→Nx O w O' w'→k ((addN es x,()),()) w'):
  Ae prog F.Ed [.pointer (some (Addr.add ⟨bf,0,none⟩ 6)),.agg #[iV x.1,iV x.2.1,iV x.2.2]] w false [(false,[KI])] k:=by
 obtain⟨r,s,h1,h2,h3,h4,h5,h6⟩:=hF.ex
 have hT:jE w 0 bf (Abx be f) (pO f) s es:=⟨h1,h3,hF.len,λa ha=>(h4 a ha).1⟩
 have lb:=h1.lt
 have le:=h2.blk.lt
 have lr:=h2.map.lt
 refine Ed.clG (Abx be f) (pO f) hT (Nat.zero_le _) λs' w' T' u' hs=>?_
 obtain⟨t1,t2,t3,t4⟩:=T'
 have no: ∀a,s.1=some a→O a.block:=λa ha=>(h4 a ha).2.2.2
 refine h w' (λz=>O z∨ ∃a,s'.1=some a∧a.block=z) ⟨⟨r,s',t1,h2.upd u' ?_ ?_,t2,λa ha=>?_,.inl h5,h6⟩,hF.ne,.inl hF.obf,.inl hF.obe,?_,t3,Aud hF.good hx,hF.need⟩ ⟨u'.mono ?_,?_⟩
 ·rintro(h|⟨a,ha,h⟩)
  ·exact hF.ne h.symm
  ·exact(h4 a ha).2.1 h
 ·rintro(h|⟨a,ha,h⟩)
  ·exact h6 h.symm
  ·exact(h4 a ha).2.2.1 h
 ·refine⟨t4 a ha,?_,?_,.inr ⟨a,ha,rfl⟩⟩
  ·rcases hs a ha with ⟨a0,h0,e0⟩|hh
   ·rw[e0];exact(h4 a0 h0).2.1
   ·omega
  ·rcases hs a ha with ⟨a0,h0,e0⟩|hh
   ·rw[e0];exact(h4 a0 h0).2.2.1
   ·omega
 ·rintro z (hz|⟨a,ha,rfl⟩)
  ·exact Nat.lt_of_lt_of_le (hF.lt z hz) u'.size
  ·exact(t2.blk ha).2.1
 ·rintro z (rfl|⟨a,ha,rfl⟩)
  ·exact hF.obf
  ·exact no a ha
 ·rintro z (hz|⟨a,ha,rfl⟩)
  ·exact .inl hz
  ·rcases hs a ha with ⟨a0,h0,e0⟩|hh
   ·left;rw[e0];exact no a0 h0
   ·exact .inr hh
theorem FW.clear{O:NP}{bf be:Nat}{f:Fl}{e:El}{l:Um}{es:List E3}{w:World}(hF:FW w O bf be f e l es){k:TR []→WP}
  (h: ∀w' O',FW w' O' bf be f e l []→Nx O w O' w'→k () w'):Ae prog F.Gg [.pointer (some (Addr.add ⟨bf,0,none⟩ 6))] w true [] k:=by
 obtain⟨r,s,h1,h2,h3,h4,h5,h6⟩:=hF.ex
 have hT:jE w 0 bf (Abx be f) (pO f) s es:=⟨h1,h3,hF.len,λa ha=>(h4 a ha).1⟩
 refine Gg.clG (Abx be f) (pO f) hT λw3 T3 u3=>?_
 refine h w3 O ⟨⟨r,(none,0,0),T3.1,h2.upd u3 (λh=>hF.ne h.symm) (λh=>h6 h.symm),Gs.nil _ _ _ _,(λa h=>by cases h),h5,h6⟩,hF.ne,hF.obf,hF.obe,λz hz=>Nat.lt_of_lt_of_le (hF.lt z hz) u3.size,by simp,by simp,hF.need⟩ ⟨u3.mono λz hz=>by rw[hz];exact hF.obf,λz hz=>.inl hz⟩
theorem FW.last{O:NP}{bf be:Nat}{f:Fl}{e:El}{l:Um}{es:List E3}{a b c:Int}{w:World}(hF:FW w O bf be f e l es){k:WP}
  (h: ∀w' O',FW w' O' bf be {f with ll:=a,lg:=b,lh:=c} e l es→Nx O w O' w'→k w'):Au [iV a,iV b,iV c] (Addr.add ⟨bf,0,none⟩ 7) 0 w k:=by
 obtain⟨r,s,h1,h2,h3,h4,h5,h6⟩:=hF.ex
 refine h1.sN 7 _ (by simp[flC]) rfl λw5 k5 u5=>?_
 refine h w5 O ⟨⟨r,s,k5,h2.upd u5 (λh=>hF.ne h.symm) (λh=>h6 h.symm),h3.upd u5 λa ha h=>(h4 a ha).1 h,h4,h5,h6⟩,hF.ne,hF.obf,hF.obe,λz hz=>Nat.lt_of_lt_of_le (hF.lt z hz) u5.size,hF.len,hF.good,hF.need⟩ ⟨u5.mono λz hz=>by rw[hz];exact hF.obf,λz hz=>.inl hz⟩
def okH(s:S6)(loc:Int):Bool:=decide (0≤s.2.2.2.2.1)&&decide (s.2.2.2.2.1<63)&&decide (0≤loc)&&decide (loc≤1125899906842624)&&decide (0≤s.2.2.2.2.2)&&decide (s.2.2.2.2.2≤1125899906842624)
theorem lC{s:S6}{loc:Int}:okH s loc=true↔0≤s.2.2.2.2.1∧s.2.2.2.2.1<63∧0≤loc∧loc≤1125899906842624∧0≤s.2.2.2.2.2∧s.2.2.2.2.2≤1125899906842624:=by unfold okH;simp[and_assoc]
def yH(s:S6):Jf MK:=(s.2.2.1,s.2.2.2.1,())
def hrF(e:El)(l:Um)(s:S6)(loc:Int):Int:=if okH s loc=true then tX e l s.2.1 (yH s) else 0
def iZ(s:S6)(loc:Int):E3:=(loc,wrap .i64 (s.2.2.2.2.2-loc),wrap .i64 (s.2.2.2.2.1+1))
def adF(es:List E3)(x:E3):List E3:=if addN es x=0 then Zn es x else[x]
def esF(c:Int)(es:List E3)(s:S6)(loc:Int):List E3:=adF (if c=2 then[] else es) (iZ s loc)
def hfF(f:Fl)(s:S6)(loc:Int):Fl:={f with ll:=loc,lg:=s.2.2.2.2.2,lh:=wrap .i64 (s.2.2.2.2.1+1)}
theorem vH{s:S6}{loc:Int}(h:okH s loc=true):Jm (iZ s loc)=true:=by
 have h:=lC.1 h
 have e:iZ s loc=(loc,s.2.2.2.2.2-loc,s.2.2.2.2.1+1):=by
  unfold iZ;rw[Ah (by unfold I64;omega),Ah (by unfold I64;omega)]
 rw[e]
 unfold Jm
 simp
 omega
theorem Acv{x:E3}(h:Jm x=true):Zn [] x=[x]:=by
 unfold Zn bH;simp[h]
theorem Le.cw{O:NP}{bf be:Nat}{f:Fl}{e:El}{l:Um}{es:List E3}{s:S6}{loc:Int}{w:World}(hF:FW w O bf be f e l es){k:TR [(false,[KI])]→WP}
  (h0:hrF e l s loc=0→ ∀w',Af w w'→k ((0,()),()) w')
  (h1: ∀c,hrF e l s loc=c→c≠0→okH s loc=true→ ∀w' O',FW w' O' bf be (hfF f s loc) (xU e s.2.1) (Xd l s.2.1 (yH s)) (esF c es s loc)→Nx O w O' w'→k ((c,()),()) w'):
  Ae prog F.Le [.pointer (some ⟨bf,0,none⟩),vS s,iV loc] w false [(false,[KI])] k:=by
 refine Le.ok ?_
 unfold Le.wp
 refine Ad λp1 w2 e1 k1 u1=>Jl rfl ?_
 have l1:=k1.lt
 have no:okH s loc=false→k ((0,()),()) w2:=λh=>h0 (by unfold hrF;rw[h];rfl) w2 u1
 have bad: ¬(0≤s.2.2.2.2.1∧s.2.2.2.2.1<63∧0≤loc∧loc≤1125899906842624∧0≤s.2.2.2.2.2∧s.2.2.2.2.2≤1125899906842624)→k ((0,()),()) w2:=λh=>no (by
  cases ho:okH s loc
  ·rfl
  ·exact absurd (lC.1 ho) h)
 refine k1.i1 4 rfl (Dx (λc=>bad (by have c:s.2.2.2.2.1<0:=c;omega)) λc1=>k1.i1 4 rfl (Dx (λc=>bad (by have c:s.2.2.2.2.1≥63:=c;omega)) λc2=>?_))
 refine Dx (λc=>bad (by have c:loc<0:=c;omega)) λc3=>Dx (λc=>bad (by have c:loc>1125899906842624:=c;omega)) λc4=>?_
 refine k1.i1 5 rfl (Dx (λc=>bad (by have c:s.2.2.2.2.2<0:=c;omega)) λc5=>k1.i1 5 rfl (Dx (λc=>bad (by have c:s.2.2.2.2.2>1125899906842624:=c;omega)) λc6=>?_))
 have ok:okH s loc=true:=lC.2 ⟨by have c: ¬s.2.2.2.2.1<0:=c1;omega,by have c: ¬s.2.2.2.2.1≥63:=c2;omega,by have c: ¬loc<0:=c3;omega,by have c: ¬loc>1125899906842624:=c4;omega,by have c: ¬s.2.2.2.2.2<0:=c5;omega,by have c: ¬s.2.2.2.2.2>1125899906842624:=c6;omega⟩
 clear c1 c2 c3 c4 c5 c6 bad no
 have hN:hrF e l s loc=tX e l s.2.1 (yH s):=by unfold hrF;rw[if_pos ok]
 have hx:=vH ok
 rw[Be,Ac]
 have F7:=(hF.Ai u1).Ai (Af.drew _)
 have g7:Af w w2.drew:=u1.trans (Af.drew _)
 have k7:=k1.drew
 refine F7.eF (k7.c1 1 rfl (k7.c1 2 rfl (k7.c1 3 rfl ?_)))
 obtain⟨⟨r,sl,f1,f2,f3,f4,f5,f6⟩,fne,fobf,fobe,flt,flen,fgood,fneed⟩:=F7
 have np1: ¬O p1:=λh=>by have:=hF.lt p1 h;omega
 have nel: ¬elS be r p1:=by
  rintro(h|h)
  ·rw[h] at np1;exact np1 fobe
  ·rw[h] at np1;exact np1 f5
 refine Lc.cl (m:=yH s) (root:=s.2.1) f2 (λhz w14 u14=>⟨⟨k7.hold u14 (λx=>x) 3 (by simp),k7.hold u14 (λx=>x) 2 (by simp),trivial⟩,Vt rfl (h0 (hN.trans hz) w14 (g7.trans u14))⟩) λc hc hc0 w14 E14 u14=>⟨⟨k7.hold u14 nel 3 (by simp),k7.hold u14 nel 2 (by simp),trivial⟩,?_⟩
 have hc':hrF e l s loc=c:=hN.trans hc
 refine Jl (beq_eq_false_iff_ne.2 hc0) ?_
 have F14:FW w14 O bf be f (xU e s.2.1) (Xd l s.2.1 (yH s)) es:=by
  refine⟨⟨r,sl,f1.upd u14 ?_,E14,f3.upd u14 λa ha=>?_,f4,f5,f6⟩,fne,fobf,fobe,λz hz=>Nat.lt_of_lt_of_le (flt z hz) u14.size,flen,fgood,fneed⟩
  ·rintro(h|h)
   ·exact fne h
   ·exact f6 h
  ·rintro(h|h)
   ·exact(f4 a ha).2.1 h
   ·exact(f4 a ha).2.2.1 h
 have X14:Nx O w O w14:=Nx.pre g7 ⟨u14.mono (λz h=>h.elim (λh=>by rw[h];exact fobe) λh=>by rw[h];exact f5),λz hz=>.inl hz⟩
 have k14:=k7.upd u14 nel
 refine Cc.by (λ_ w'=> ∃O' f',f'.me=f.me∧f'.tmo=f.tmo∧f'.ign=f.ign∧f'.need=f.need∧f'.Aw=f.Aw∧FW w' O' bf be f' (xU e s.2.1) (Xd l s.2.1 (yH s)) (if c=2 then[] else es)∧Nx O w O' w'∧Az w' p1 (encs KS (tS s))∧ ¬O' p1) ?_ ?_
 ·refine Yl (λc2=>?_) λc2=>?_
  ·have c2:c=2:=c2
   refine Em.cw F14 λw19 O' F19 x19=>⟨O',fgF f,rfl,rfl,rfl,rfl,rfl,by rw[if_pos c2];exact F19,X14.trans x19,x19.blk k14 np1⟩
  ·have c2:c≠2:=c2
   exact⟨O,f,rfl,rfl,rfl,rfl,rfl,by rw[if_neg c2];exact F14,X14,k14,np1⟩
 rintro _ w17 ⟨O',f',q1,q2,q3,q4,q5,F17,X17,k17,n17⟩ _
 clear F14 X14 k14
 refine k17.c1 5 rfl (k17.c1 4 rfl ?_)
 refine Ad λp22 w23 e22 k22 u22=>k22.Fg _ rfl rfl λw24 k24 u24=>?_
 have g24:Af w17 w24:=Af.fresh (Af.refl _) u22 u24 e22
 have F24:=F17.Ai g24
 have X24:=X17.Ai g24
 have k24':=k17.Ai g24
 change Az w24 p22 (encs [KI,KI,KI] ((iZ s loc).1,(iZ s loc).2.1,(iZ s loc).2.2,())) at k24
 have n22: ¬O' p22:=λh=>by have:=F17.lt p22 h;omega
 refine Cc.by (λ_ w'=> ∃O'',FW w' O'' bf be f' (xU e s.2.1) (Xd l s.2.1 (yH s)) (esF c es s loc)∧Nx O w O'' w'∧Az w' p1 (encs KS (tS s))) ?_ ?_
 ·rw[Be,Ac]
  refine k24.drew.bC ?_
  refine(F24.Ai (Af.drew _)).add hx λw32 O2 F32 x32=>⟨trivial,?_⟩
  have x32':Nx O' w24 O2 w32:=Nx.pre (Af.drew _) x32
  have b32:=x32'.blk k24' n17
  have c32:=x32'.blk k24 n22
  refine bK (λcn=>?_) λcn=>?_
  ·have cn:addN (if c=2 then[] else es) (iZ s loc)≠0:=cn
   rw[Ac]
   refine F32.clear λw35 O3 F35 x35=>?_
   have c35:=x35.blk c32.1 c32.2
   have b35:=x35.blk b32.1 b32.2
   rw[Be,Ac]
   refine c35.1.drew.bC ((F35.Ai (Af.drew _)).add hx λw40 O4 F40 x40=>⟨trivial,O4,?_,((X24.trans x32').trans x35).trans (Nx.pre (Af.drew _) x40),((Nx.pre (Af.drew _) x40).blk b35.1 b35.2).1⟩)
   rw[Acv hx] at F40
   unfold esF adF;rw[if_neg cn];exact F40
  ·have cn:addN (if c=2 then[] else es) (iZ s loc)=0:=cn
   refine⟨O2,?_,X24.trans x32',b32.1⟩
   unfold esF adF;rw[if_pos cn];exact F32
 ·rintro _ w27 ⟨O2,F27,X27,k27⟩ _
  refine k27.c1 5 rfl (k27.c1 4 rfl ?_)
  rw[Ac]
  refine F27.last λw44 O3 F44 x44=>h1 c hc' hc0 ok w44 O3 ?_ (X27.trans x44)
  have:hfF f s loc={f' with ll:=loc,lg:=s.2.2.2.2.2,lh:=wrap .i64 (s.2.2.2.2.1+1)}:=by
   unfold hfF;rw[q1,q2,q3,q4,q5]
  rw[this];exact F44
theorem FW.Ac8{O:NP}{bf be:Nat}{f:Fl}{e:El}{l:Um}{es:List E3}{w:World}(hF:FW w O bf be f e l es):
  ∃r,oJ w be r e l∧(∀z,elS be r z→O z)∧ ∀w' e' l',oJ w' be r e' l'→Am (elS be r) w w'→FW w' O bf be f e' l' es∧Nx O w O w':=by
 obtain⟨⟨r,s,h1,h2,h3,h4,h5,h6⟩,ne,obf,obe,lt,len,good,need⟩:=hF
 have hO: ∀z,elS be r z→O z:=λz h=>h.elim (λh=>by rw[h];exact obe) λh=>by rw[h];exact h5
 refine⟨r,h2,hO,λw' e' l' E u=>⟨⟨⟨r,s,h1.upd u ?_,E,h3.upd u λa ha=>?_,h4,h5,h6⟩,ne,obf,obe,λz hz=>Nat.lt_of_lt_of_le (lt z hz) u.size,len,good,need⟩,u.mono hO,λz hz=>.inl hz⟩⟩
 ·rintro(h|h)
  ·exact ne h
  ·exact h6 h
 ·rintro(h|h)
  ·exact(h4 a ha).2.1 h
  ·exact(h4 a ha).2.2.1 h
theorem FW.Ak7{O:NP}{bf be:Nat}{f:Fl}{e:El}{l:Um}{es:List E3}{w:World}(hF:FW w O bf be f e l es):
  ∃r,oJ w be r e l∧ ∀w' e' l',oJ w' be r e' l'→Am (λz=>z=be) w w'→FW w' O bf be f e' l' es∧Nx O w O w':=by
 obtain⟨r,h1,_,h2⟩:=hF.Ac8
 exact⟨r,h1,λw' e' l' E u=>h2 w' e' l' E (u.mono λz h=>.inl h)⟩
def zX(e:El)(boot:Int):El:={e with boot:=boot,seq:=0,root:= -1,beats:=0,quiet:=0}
theorem Lh.cw{O:NP}{bf be:Nat}{f:Fl}{e:El}{l:Um}{es:List E3}{boot:Int}{w:World}(hF:FW w O bf be f e l es){k:TR []→WP}
  (h: ∀w' O',FW w' O' bf be (fgF f) (zX e boot) [] []→Nx O w O' w'→k () w'):Ae prog F.Lh [.pointer (some ⟨bf,0,none⟩),uV boot] w true [] k:=by
 refine Lh.ok ?_
 unfold Lh.wp
 refine Vt rfl ?_
 rw[Ac]
 refine hF.eF ?_
 obtain⟨⟨r,s,h1,h2,h3,h4,h5,h6⟩,ne,obf,obe,lt,len,good,need⟩:=hF
 refine Hr.cl h2.blk λw4 m lm E4 u4=>?_
 have lb:=h1.lt
 have F4:FW w4 (λz=>O z∨z=m) bf be f (zX e boot) [] es:=by
  refine⟨⟨m,s,h1.upd u4 ne,E4,h3.upd u4 λa ha=>(h4 a ha).2.1,λa ha=>⟨(h4 a ha).1,(h4 a ha).2.1,?_,.inl (h4 a ha).2.2.2⟩,.inr rfl,by omega⟩,ne,.inl obf,.inl obe,?_,len,good,need⟩
  ·have:=(h3.blk ha).2.1;omega
  ·rintro z (hz|rfl)
   ·exact Nat.lt_of_lt_of_le (lt z hz) u4.size
   ·exact E4.map.lt
 have X4:Nx O w (λz=>O z∨z=m) w4:=⟨u4.mono λz hz=>by rw[hz];exact obe,λz hz=>hz.elim .inl λx=>.inr (by omega)⟩
 exact Em.cw F4 λw6 O6 F6 x6=>h w6 O6 F6 (X4.trans x6)
def fwS(f:Fl)(e:El)(l:Um)(loc:Int):S6:=(f.me,e.root,(oN e l).1,(oN e l).2.1,f.lh,wrap .i64 (wrap .i64 (f.lg+loc)-f.ll))
def wdF(f:Fl)(e:El)(l:Um)(es:List E3)(loc:Int):S6×Bool:=
 if mine e=true then((f.me,f.me,(isM e).1,(isM e).2.1,0,loc),true)
 else if Xb f e es.length=false then((0,0,0,0,0,0),false)
 else(fwS f e l loc,okF (Z4 (fwS f e l loc)))
theorem Afd{e:El}(h: ¬mine e=true):isE e=e:=by unfold isE;rw[if_neg h]
theorem La.cw{O:NP}{bf be:Nat}{f:Fl}{e:El}{l:Um}{es:List E3}{loc:Int}{w:World}(hF:FW w O bf be f e l es){k:TR [(true,KS),(false,[.b])]→WP}
  (h: ∀w',FW w' O bf be f (isE e) l es→Nx O w O w'→k (tS (wdF f e l es loc).1,((wdF f e l es loc).2,()),()) w'):
  Ae prog F.La [.pointer (some ⟨bf,0,none⟩),iV loc] w true [(true,KS),(false,[.b])] k:=by
 refine La.ok ?_
 unfold La.wp
 refine Ad λp1 w2 e1 k1 u1=>?_
 have np1: ¬O p1:=λh=>by have:=hF.lt p1 h;omega
 rw[Ac]
 have F2:=hF.Ai u1
 unfold wdF at h
 refine F2.eF (Bc.cw F2 λw6 u6=>?_)
 have F6:=F2.Ai u6
 have g6:=u1.trans u6
 refine bM (λc=>?_) λc=>?_
 ·have c:mine e=true:=c
  rw[if_pos c] at h
  rw[Ac]
  refine F6.eF ?_
  obtain⟨r,E6,hr⟩:=F6.Ak7
  refine I5.cl E6 λw10 E10 u10=>?_
  obtain⟨F10,X10⟩:=hr _ _ _ E10 u10
  have k10:=X10.blk (k1.Ai u6) np1
  refine Ad λp11 w12 e11 k11 u11=>k11.Fg _ rfl rfl λw13 k13 u13=>?_
  have g13:Af w10 w13:=Af.fresh (Af.refl _) u11 u13 e11
  rw[Be,Ac]
  have F13:=(F10.Ai g13).Ai (Af.drew _)
  have k13:=k13.drew
  have l11:=k11.lt
  obtain⟨r',s',b1,_⟩:=F13.ex
  refine b1.c1 1 (x:=f.me) rfl ?_
  rw[Ac]
  refine b1.c1 1 (x:=f.me) rfl (k13.c0 rfl (k13.c1 1 rfl ?_))
  have X13:Nx O w O w13.drew:=(Nx.pre g6 X10).Ai (g13.trans (Af.drew _))
  refine((k10.1.Ai g13).drew).Fg _ rfl rfl λw21 k21 u21=>⟨trivial,?_⟩
  refine k21.cA (cs:=KS) (tS (f.me,f.me,(isM e).1,(isM e).2.1,0,loc)) rfl ?_
  refine h w21 (F13.upd u21 λz hz h=>by rw[h] at hz;exact np1 hz) ⟨Am.trans X13.u u21 λi hi h=>by omega,X13.sub⟩
 ·have c: ¬mine e=true:=by have c:mine e=false:=c;rw[c];simp
  rw[if_neg c,Afd c] at h
  refine Ba.cw F6 λw24 u24=>Ee (λc2=>?_) λc2=>?_
  ·have c2:Xb f e es.length=false:=c2
   rw[if_pos c2] at h
   refine((k1.Ai u6).Ai u24).Fg _ rfl rfl λw25 k25 u25=>k25.cA (cs:=KS) (tS (0,0,0,0,0,0)) rfl ?_
   have g25:Af w w25:=Am.trans (g6.trans u24) u25 λi hi h=>by omega
   exact h w25 (hF.Ai g25) (Nx.of g25)
  ·have c2: ¬Xb f e es.length=false:=by have c2:Xb f e es.length=true:=c2;rw[c2];simp
   rw[if_neg c2] at h
   rw[Ac]
   have F24:=F6.Ai u24
   refine F24.eF ?_
   obtain⟨r0,E24⟩:=F24.el
   refine Hl.cl E24 λw30 u30=>?_
   refine Ad λp31 w32 e31 k31 u31=>k31.Fg _ rfl rfl λw33 k33 u33=>?_
   have g33:Af w30 w33:=Af.fresh (Af.refl _) u31 u33 e31
   have G33:Af w w33:=((g6.trans u24).trans u30).trans g33
   have q33:=(((k1.Ai u6).Ai u24).Ai u30).Ai g33
   have l1:=k1.lt
   have l31:=k31.lt
   have n31:p1<p31:=by have:=u6.size;have:=u24.size;have:=u30.size;omega
   refine Cc.by (λz w'=>Af w w'∧Af w33 w'∧ ∃p,z.1=⟨p,0,none⟩∧p≠p1∧Az w' p (encs KS (tS (fwS f e l loc)))) ?_ ?_
   ·rw[Be]
    have gd:Af w w33.drew:=G33.trans (Af.drew _)
    obtain⟨r1,s1,b1,E1,_⟩:=(hF.Ai gd).ex
    have m33:=k33.drew
    rw[Ac]
    refine b1.c1 1 (x:=f.me) rfl ?_
    rw[Ac]
    refine b1.c0 (c:=.p) (x:=some ⟨be,0,none⟩) rfl (m33.c0 rfl (m33.c1 1 rfl ?_))
    rw[Ac]
    refine b1.c2 7 2 (x:=f.lh) rfl ?_
    rw[Ac]
    refine b1.c2 7 1 (x:=f.lg) rfl ?_
    rw[Ac]
    refine b1.c1 7 (x:=f.ll) rfl ?_
    have hold: ∀{w':World},Af w33.drew w'→w'.cell? (Addr.add ⟨bf,0,none⟩ 7)=some ((w33.drew.cell? (Addr.add ⟨bf,0,none⟩ 7)).getD undef)∧w'.cell? (Addr.add (Addr.add ⟨bf,0,none⟩ 7) 1)=some ((w33.drew.cell? (Addr.add (Addr.add ⟨bf,0,none⟩ 7) 1)).getD undef)∧w'.cell? (Addr.add (Addr.add ⟨bf,0,none⟩ 7) 2)=some ((w33.drew.cell? (Addr.add (Addr.add ⟨bf,0,none⟩ 7) 2)).getD undef)
      ∧w'.cell? (Addr.add ⟨p31,0,none⟩ 1)=some ((w33.drew.cell? (Addr.add ⟨p31,0,none⟩ 1)).getD undef)∧w'.cell? ⟨p31,0,none⟩=some ((w33.drew.cell? ⟨p31,0,none⟩).getD undef)∧w'.cell? ⟨bf,0,none⟩=some ((w33.drew.cell? ⟨bf,0,none⟩).getD undef)∧w'.cell? (Addr.add ⟨bf,0,none⟩ 1)=some ((w33.drew.cell? (Addr.add ⟨bf,0,none⟩ 1)).getD undef):=λu=>
     ⟨b1.hold u (λx=>x) 7 (by simp[flC]),b1.X3 u (λx=>x) 7 1 (by simp[flC]),b1.X3 u (λx=>x) 7 2 (by simp[flC]),m33.hold u (λx=>x) 1 (by simp),m33.hold u (λx=>x) 0 (by simp),b1.hold u (λx=>x) 0 (by simp[flC]),b1.hold u (λx=>x) 1 (by simp[flC])⟩
    have hd:=λ{w'} (u:Af w33.drew w')=>hold u
    have n52: ∀p,w33.drew.heap.size=p→p≠p1:=λp hp=>by have:w33.drew.heap.size=w33.heap.size:=rfl;have:=q33.lt;omega
    refine⟨?_,?_⟩
    ·refine Dc.cl E1 ⟨?_,?_⟩
     ·obtain⟨a1,a2,a3,a4,a5,a6,a7⟩:=hd (Af.refl _)
      exact⟨a1,a2,a3,a4,a5,a6,a7,trivial⟩
     ·refine Ad λp52 w53 e52 k52 u52=>⟨?_,?_⟩
      ·obtain⟨a1,a2,a3,a4,a5,a6,a7⟩:=hd u52
       exact⟨a1,a2,a3,a4,a5,a6,a7,trivial⟩
      ·refine k52.Fg _ rfl rfl λw54 k54 u54=>⟨trivial,?_⟩
       have g54:Af w33.drew w54:=Af.fresh (Af.refl _) u52 u54 e52
       exact⟨gd.trans g54,(Af.drew _).trans g54,p52,rfl,n52 p52 e52,k54⟩
    ·refine Ad λp55 w56 e55 k55 u55=>⟨?_,?_⟩
     ·obtain⟨a1,a2,a3,a4,a5,a6,a7⟩:=hd u55
      exact⟨a1,a2,a3,a4,a5,a6,a7,trivial⟩
     ·refine Dc.cl (E1.Ai u55) ⟨?_,?_⟩
      ·obtain⟨a1,a2,a3,a4,a5,a6,a7⟩:=hd u55
       exact⟨a1,a2,a3,a4,a5,a7,trivial⟩
      ·refine k55.Fg _ rfl rfl λw59 k59 u59=>⟨trivial,?_⟩
       have g59:Af w33.drew w59:=Af.fresh (Af.refl _) u55 u59 e55
       exact⟨gd.trans g59,(Af.drew _).trans g59,p55,rfl,n52 p55 e55,k59⟩
   ·rintro⟨z,_⟩ w36 ⟨g36,f36,p,hz,hp,kp⟩ _
    dsimp only at hz
    subst hz
    rw[Be]
    have kd:=kp.drew
    refine kd.cA (cs:=KS) (tS (fwS f e l loc)) rfl (kd.cA (cs:=KS) (tS (fwS f e l loc)) rfl ?_)
    refine Fp.cl (s:=fwS f e l loc) λkJ u64=>?_
    have hh: ∀i,i<6→kJ.cell? (Addr.add ⟨p,0,none⟩ i)=some ((w36.drew.cell? (Addr.add ⟨p,0,none⟩ i)).getD undef):=λi hi=>kd.hold u64 (λx=>x) i (by simpa [encs] using hi)
    have k64:=kp.drew.Ai u64
    have g64:Af w kJ:=(g36.trans (Af.drew _)).trans u64
    have r64:=((q33.Ai f36).Ai (Af.drew _)).Ai u64
    refine⟨⟨hh 0 (by decide),hh 1 (by decide),hh 2 (by decide),hh 3 (by decide),hh 4 (by decide),hh 5 (by decide),hh 0 (by decide),hh 1 (by decide),hh 2 (by decide),hh 3 (by decide),hh 4 (by decide),hh 5 (by decide),trivial⟩,?_⟩
    refine r64.Fg _ rfl rfl λw65 k65 u65=>?_
    have g65:Af w w65:=Am.trans g64 u65 λi hi h=>by omega
    have hh: ∀i,i<6→w65.cell? (Addr.add ⟨p,0,none⟩ i)=some ((w36.drew.cell? (Addr.add ⟨p,0,none⟩ i)).getD undef):=λi hi=>kd.hold ((Am.Bj u64).trans u65 λ_ _ h=>h) hp i (by simpa [encs] using hi)
    exact⟨⟨hh 0 (by decide),hh 1 (by decide),hh 2 (by decide),hh 3 (by decide),hh 4 (by decide),hh 5 (by decide),trivial⟩,k65.cA (cs:=KS) (tS (fwS f e l loc)) rfl (h w65 (hF.Ai g65) (Nx.of g65))⟩
def nD(f:Fl)(e:El):Fl:=if btB e=true then fgF f else f
def b1l(e:El)(es:List E3):List E3:=if btB e=true then[] else es
def inT(loc:Int):Bool:=decide (0≤loc)&&decide (loc≤1125899906842624)
theorem Xk{loc:Int}:inT loc=true↔0≤loc∧loc≤1125899906842624:=by unfold inT;simp
theorem gQ{loc:Int}(h:loc<0∨loc>1125899906842624):inT loc=false:=by
 cases hb:inT loc
 ·rfl
 ·have:=Xk.1 hb;omega
def btW(f:Fl)(e:El)(l:Um)(es:List E3)(loc:Int):S6×Bool:=wdF (nD f e) (eG e) l (b1l e es) loc
def sH(f:Fl)(e:El)(l:Um)(es:List E3)(loc:Int):S6×Bool:=if inT loc=true then(if(btW f e l es loc).2=true then((btW f e l es loc).1,true) else((0,0,0,0,0,0),false)) else((0,0,0,0,0,0),false)
def yL(e:El)(loc:Int):El:=if inT loc=true then isE (eG e) else eG e
theorem Kt.cw{O:NP}{bf be:Nat}{f:Fl}{e:El}{l:Um}{es:List E3}{loc:Int}{w:World}(hF:FW w O bf be f e l es){k:TR [(true,KS),(false,[.b])]→WP}
  (h: ∀w' O',FW w' O' bf be (nD f e) (yL e loc) l (b1l e es)→Nx O w O' w'→k (tS (sH f e l es loc).1,((sH f e l es loc).2,()),()) w'):
  Ae prog F.Kt [.pointer (some ⟨bf,0,none⟩),iV loc] w true [(true,KS),(false,[.b])] k:=by
 refine Kt.ok ?_
 unfold Kt.wp
 refine Ad λp1 w2 e1 k1 u1=>Jl rfl ?_
 have np1: ¬O p1:=λh=>by have:=hF.lt p1 h;omega
 have F2:=hF.Ai u1
 have l1:=k1.lt
 unfold sH yL at h
 refine Cc.by (λ_ w'=> ∃O',FW w' O' bf be (nD f e) (eG e) l (b1l e es)∧Nx O w O' w'∧Az w' p1 (encs KS (tS (0,0,0,0,0,0)))∧ ¬O' p1) ?_ ?_
 ·rw[Ac]
  refine F2.eF ?_
  obtain⟨r,E2,hr⟩:=F2.Ak7
  refine Jt.cl E2 λw11 E11 u11=>?_
  obtain⟨F11,X11⟩:=hr _ _ _ E11 u11
  have k11:=X11.blk k1 np1
  have X11':=Nx.pre u1 X11
  refine bM (λc=>?_) λc=>?_
  ·have c:btB e=true:=c
   refine Em.cw F11 λw13 O' F13 X13=>⟨O',?_,X11'.trans X13,X13.blk k11.1 k11.2⟩
   unfold nD b1l;rw[if_pos c,if_pos c];exact F13
  ·have c: ¬btB e=true:=by have c:btB e=false:=c;rw[c];simp
   refine⟨O,?_,X11',k11⟩
   unfold nD b1l;rw[if_neg c,if_neg c];exact F11
 rintro _ w7 ⟨O',F7,X7,k7,n7⟩ _
 have l7:=k7.lt
 have fin: ∀{O'':NP} {w' w'':World} {f' e' l' es'},FW w' O'' bf be f' e' l' es'→Nx O w O'' w'→ ¬O'' p1→Am (λx=>x=p1) w' w''→FW w'' O'' bf be f' e' l' es'∧Nx O w O'' w'':=λhf X n u=>
  ⟨hf.upd u λz hz h=>by rw[h] at hz;exact n hz,Am.trans X.u u λi hi h=>by omega,X.sub⟩
 refine Dx (λc=>?_) λc1=>Dx (λc=>?_) λc2=>?_
 ·have c:loc<0:=c
  rw[if_neg (by rw[gQ (.inl c)];simp),if_neg (by rw[gQ (.inl c)];simp)] at h
  refine k7.Fg _ rfl rfl λw14 k14 u14=>k14.cA (cs:=KS) (tS (0,0,0,0,0,0)) rfl ?_
  obtain⟨F14,X14⟩:=fin F7 X7 n7 u14
  exact h w14 O' F14 X14
 ·have c:loc>1125899906842624:=c
  rw[if_neg (by rw[gQ (.inr c)];simp),if_neg (by rw[gQ (.inr c)];simp)] at h
  refine k7.Fg _ rfl rfl λw14 k14 u14=>k14.cA (cs:=KS) (tS (0,0,0,0,0,0)) rfl ?_
  obtain⟨F14,X14⟩:=fin F7 X7 n7 u14
  exact h w14 O' F14 X14
 have hin:inT loc=true:=Xk.2 ⟨by have c: ¬loc<0:=c1;omega,by have c: ¬loc>1125899906842624:=c2;omega⟩
 rw[if_pos hin,if_pos hin] at h
 refine La.cw F7 λw19 F19 X19=>?_
 have X19':=X7.trans X19
 have k19:=X19.blk k7 n7
 change∀w' O',FW w' O' bf be (nD f e) (isE (eG e)) l (b1l e es)→_ at h
 have hW:wdF (nD f e) (eG e) l (b1l e es) loc=btW f e l es loc:=rfl
 rw[hW]
 generalize btW f e l es loc=Z at*
 refine Ad λp20 w21 e20 k20 u20=>k20.Fg _ rfl rfl λw22 k22 u22=>?_
 have g22:Af w19 w22:=Af.fresh (Af.refl _) u20 u22 e20
 have F22:=F19.Ai g22
 have X22:=X19'.Ai g22
 have k22':=k19.1.Ai g22
 refine Ee (λc=>?_) λc=>?_
 ·have c:Z.2=false:=c
  rw[if_neg (by rw[c];simp)] at h
  refine k22'.Fg _ rfl rfl λw23 k23 u23=>k23.cA (cs:=KS) (tS (0,0,0,0,0,0)) rfl ?_
  obtain⟨F23,X23⟩:=fin F22 X22 k19.2 u23
  exact h w23 O' F23 X23
 ·have c:Z.2=true:=c
  rw[if_pos c] at h
  change Az w22 p20 (encs KS (tS Z.1)) at k22
  refine k22.cA (cs:=KS) (tS Z.1) rfl (k22'.Fg _ rfl rfl λw26 k26 u26=>k26.cA (cs:=KS) (tS Z.1) rfl ?_)
  obtain⟨F26,X26⟩:=fin F22 X22 k19.2 u26
  exact h w26 O' F26 X26
def oH(f:Fl)(e:El)(es:List E3)(loc:Int):Int×Int×Int:=
 if Xb f e es.length=false then(0,0,9) else if inT loc=false then(0,0,8) else if mine e=true then(loc,0,0)
 else if pF (rF f.Aw es) loc=true then(gV (rF f.Aw es) loc,kS es,0) else(0,0,8)
theorem Hw.cw{O:NP}{bf be:Nat}{f:Fl}{e:El}{l:Um}{es:List E3}{loc:Int}{w:World}(hF:FW w O bf be f e l es){k:TR [(false,[KI]),(false,[KI]),(false,[KI])]→WP}
  (h: ∀w',Af w w'→k (((oH f e es loc).1,()),((oH f e es loc).2.1,()),((oH f e es loc).2.2,()),()) w'):
  Ae prog F.Hw [.pointer (some ⟨bf,0,none⟩),iV loc] w true [(false,[KI]),(false,[KI]),(false,[KI])] k:=by
 refine Hw.ok ?_
 unfold Hw.wp
 unfold oH at h
 refine Jl rfl (Ba.cw hF λw2 u2=>Ee (λc=>?_) λc=>?_)
 ·have c:Xb f e es.length=false:=c
  rw[if_pos c] at h;exact h w2 u2
 have cs: ¬Xb f e es.length=false:=by have c:Xb f e es.length=true:=c;rw[c];simp
 rw[if_neg cs] at h
 have F2:=hF.Ai u2
 refine Cc.by (λz w'=>w'=w2∧(z.1=true↔inT loc=false)) ?_ ?_
 ·refine Dx (λc=>⟨rfl,by have c:loc<0:=c;simp[gQ (.inl c)]⟩) λc=>⟨rfl,?_⟩
  have c: ¬loc<0:=c
  show decide (loc>1125899906842624)=true↔_
  rw[decide_eq_true_iff]
  refine⟨λh=>gQ (.inr h),λh=>?_⟩
  by_cases h2:loc>1125899906842624
  ·exact h2
  ·rw[Xk.2 ⟨by omega,by omega⟩] at h;cases h
 rintro⟨z,_⟩ _ ⟨rfl,hz⟩ _
 dsimp only at hz
 refine bM (λc=>?_) λc=>?_
 ·have c:z=true:=c
  rw[if_pos (hz.1 c)] at h;exact h _ u2
 have ct: ¬inT loc=false:=λx=>by have c:z=false:=c;rw[hz.2 x] at c;cases c
 rw[if_neg ct] at h
 rw[Ac]
 refine F2.eF (Bc.cw F2 λw9 u9=>?_)
 have F9:=F2.Ai u9
 have g9:=u2.trans u9
 refine bM (λc=>?_) λc=>?_
 ·have c:mine e=true:=c
  rw[if_pos c] at h;exact h _ g9
 have cm':mine e=false:=c
 have cm: ¬mine e=true:=by rw[cm'];simp
 rw[if_neg cm] at h
 have hne:es≠[]:=by
  intro h0;subst h0
  refine cs ?_
  unfold Xb
  have:(e.root==e.me)=false:=cm'
  rw[this]
  have:=hF.need
  simp;omega
 have hMB:MB f.Aw (rF f.Aw es):=Acs hne hF.good
 generalize hm:rF f.Aw es=m at*
 have hm5:m.2.2.2.2=kS es:=by rw[←hm];rfl
 refine Cc.by (λz w'=>Af w w'∧ ∃p,z.1=⟨p,0,none⟩∧Az w' p (m5 m)) ?_ ?_
 ·rw[Be]
  have gd:Af w w9.drew:=g9.trans (Af.drew _)
  obtain⟨r,s,b1,E1,o1,_⟩:=(hF.Ai gd).ex
  rw[Ac]
  refine b1.c2 2 3 (x:=f.Aw) rfl ?_
  rw[Ac]
  have hd: ∀{w':World},Af w9.drew w'→w'.cell? (Addr.add (Addr.add ⟨bf,0,none⟩ 2) 3)=some ((w9.drew.cell? (Addr.add (Addr.add ⟨bf,0,none⟩ 2) 3)).getD undef):=λu=>b1.X3 u (λx=>x) 2 3 (by simp[flC])
  have hT:TV w9.drew (some (Addr.add ⟨bf,0,none⟩ 6)) s es:=.inr ⟨_,rfl,Az.Abb (Abx be f) (pO f) b1,o1.Abt⟩
  refine⟨?_,?_⟩
  ·refine V7.cl hT hF.len hF.good (λh=>absurd h hne) λ_ w18 u18=>⟨⟨hd u18,trivial⟩,?_⟩
   rw[hm]
   refine Ad λp19 w20 e19 k19 u19=>⟨⟨hd (u18.trans u19),trivial⟩,k19.Fg _ rfl rfl λw21 k21 u21=>⟨trivial,?_⟩⟩
   exact⟨gd.trans (Af.fresh u18 u19 u21 e19),p19,rfl,k21⟩
  ·refine Ad λp22 w23 e22 k22 u22=>⟨⟨hd u22,trivial⟩,?_⟩
   refine V7.cl (hT.Ai u22) hF.len hF.good (λh=>absurd h hne) λ_ w25 u25=>⟨trivial,?_⟩
   rw[hm]
   refine(k22.Ai u25).Fg _ rfl rfl λw26 k26 u26=>⟨trivial,?_⟩
   refine⟨gd.trans (Am.trans (u22.trans u25) u26 λi hi h=>?_),p22,rfl,k26⟩
   omega
 ·rintro⟨z,_⟩ w12 ⟨g12,p,hz,kp⟩ _
  dsimp only at hz
  subst hz
  refine kp.cA (cs:=[KI,KI,KI,KI,KI]) (t5 m) rfl ?_
  refine Jp.cl (m:=m) hMB λw29 u29=>Ee (λc=>?_) λc=>?_
  ·have c:pF m loc=false:=c
   rw[if_neg (by rw[c];simp)] at h
   exact h _ (g12.trans u29)
  ·have c:pF m loc=true:=c
   rw[if_pos c] at h
   rw[Be]
   refine(kp.Ai u29).drew.c1 4 (x:=m.2.2.2.2) rfl ?_
   rw[hm5]
   exact h _ ((g12.trans u29).trans (Af.drew _))
abbrev Aq5:List CK:=[KI,KI,KI,KI,KU,KU,KI,KI,KI,KI,KI,KI,KI,KI]
def kH(p:Jf Aq5):S6:=(p.2.1,p.2.2.2.1,p.2.2.2.2.1,p.2.2.2.2.2.1,p.2.2.2.2.2.2.1,p.2.2.2.2.2.2.2.1)
end Go.Proofs.YticgocmhmffneaaGreatDoor
