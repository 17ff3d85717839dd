import Derived.Test.YtppeepkmnijdpaaGreatDoorCflo2
import Derived.Test.YtppeepkmnijdpaaGreatDoorMcB
namespace Go.Proofs.YtppeepkmnijdpaaGreatDoor
open Go.Eng Go Tryz
open Go.IntKind (wrap)
set_option linter.unusedSimpArgs false
set_option linter.unusedVariables false
set_option maxRecDepth 100000
set_option maxHeartbeats 8000000
abbrev KS:List CK:=[KI,KI,KU,KU,KI,KI]
abbrev S6:=Int×Int×Int×Int×Int×Int
def tS(s:S6):Ky KS:=(s.1,s.2.1,s.2.2.1,s.2.2.2.1,s.2.2.2.2.1,s.2.2.2.2.2,())
def qZ(s:S6):List E3:=[(1,s.1,63),(1,s.2.1,63),(2,wrap .i64 s.2.2.1,65535),(2,wrap .i64 s.2.2.2.1,65535),(1,s.2.2.2.2.1,63),(8,s.2.2.2.2.2,1125899906842624)]
abbrev vS(s:S6):Value:=.agg #[iV s.1,iV s.2.1,uV s.2.2.1,uV s.2.2.2.1,iV s.2.2.2.2.1,iV s.2.2.2.2.2]
theorem Gl.clw{n:Int}{w:World}{k:TR [(true,[KI,KI,KI])]→WP}(h: ∀w',Ah w w'→k ((2,wrap .i64 n,65535,()),()) w'):Ad prog F.Gl [uV n] w false [(true,[KI,KI,KI])] k:=by
 refine Gl.ok ?_
 exact Ae λp w2 e k1 u1=>k1.E5 _ rfl rfl λw3 k3 u3=>k3.Xd (h w3 (Ah.fresh (Ah.refl _) u1 u3 e))
theorem Oi.cl{n:Int}{w:World}{k:TR [(true,[KI,KI,KI])]→WP}(h: ∀w',Ah w w'→k ((1,n,63,()),()) w'):Ad prog F.Oi [iV n] w false [(true,[KI,KI,KI])] k:=by
 refine Oi.ok ?_
 exact Ae λp w2 e k1 u1=>k1.E5 _ rfl rfl λw3 k3 u3=>k3.Xd (h w3 (Ah.fresh (Ah.refl _) u1 u3 e))
theorem Df.clF{s:S6}{w:World}{k:TR [(false,[.sl])]→WP}(h: ∀(q:Sl) w',Ah w w'→Nu w' q (qZ s)→(∀a,q.1=some a→w.heap.size≤a.block)→k ((q,()),()) w'):Ad prog F.Df [vS s] w false [(false,[.sl])] k:=by
 refine Df.ok ?_
 refine Ae λp1 w2 e1 k1 u1=>?_
 rw[Aq]
 have k3:=k1.drew
 have hold: ∀{w':World},Ah w2.drew w'→Ak [(16,(Addr.add ⟨p1,0,none⟩ 5),(w2.drew.cell? (Addr.add ⟨p1,0,none⟩ 5)).getD undef),(13,(Addr.add ⟨p1,0,none⟩ 4),(w2.drew.cell? (Addr.add ⟨p1,0,none⟩ 4)).getD undef),(10,(Addr.add ⟨p1,0,none⟩ 3),(w2.drew.cell? (Addr.add ⟨p1,0,none⟩ 3)).getD undef),(7,(Addr.add ⟨p1,0,none⟩ 2),(w2.drew.cell? (Addr.add ⟨p1,0,none⟩ 2)).getD undef),(4,(Addr.add ⟨p1,0,none⟩ 1),(w2.drew.cell? (Addr.add ⟨p1,0,none⟩ 1)).getD undef),(1,⟨p1,0,none⟩,(w2.drew.cell? ⟨p1,0,none⟩).getD undef)] w':=
  λu=>⟨k3.hold u (λx=>x) 5 (by simp),k3.hold u (λx=>x) 4 (by simp),k3.hold u (λx=>x) 3 (by simp),k3.hold u (λx=>x) 2 (by simp),k3.hold u (λx=>x) 1 (by simp),k3.hold u (λx=>x) 0 (by simp),trivial⟩
 refine k3.c0 rfl (k3.c1 1 rfl (k3.c1 2 rfl (k3.c1 3 rfl (k3.c1 4 rfl (k3.c1 5 rfl ?_)))))
 refine Dn.cl λw11 u11=>⟨hold u11,Dn.cl λw13 u13=>⟨hold (u11.trans u13),Gl.clw λw15 u15=>⟨hold ((u11.trans u13).trans u15),?_⟩⟩⟩
 have g15:=(u11.trans u13).trans u15
 refine Gl.clw λw17 u17=>⟨hold (g15.trans u17),Oi.cl λw19 u19=>⟨hold ((g15.trans u17).trans u19),Ff.cl λw21 u21=>⟨hold (((g15.trans u17).trans u19).trans u21),?_⟩⟩⟩
 have g21:=((g15.trans u17).trans u19).trans u21
 refine Ae λp22 w23 e22 k22 u22=>⟨hold (g21.trans u22),h (some ⟨p22,0,none⟩,6,6) w23 (((Ap.drew u1).trans g21 λ_ _ x=>x).trans u22 λ_ _ x=>x) (bF k22 rfl rfl) λa ha=>by cases ha;have:=g21.size;have:=u1.size;exact Nat.le_trans (Nat.le_trans u1.size g21.size) (Nat.le_of_eq e22)⟩
theorem Df.cl{s:S6}{w:World}{k:TR [(false,[.sl])]→WP}(h: ∀q w',Ah w w'→Nu w' q (qZ s)→k ((q,()),()) w'):Ad prog F.Df [vS s] w false [(false,[.sl])] k:=
 Df.clF λq w' g E _=>h q w' g E
theorem Kw.cl{v:Value}{s:S6}(hv:v=vS s){w:World}{k:TR [(false,[.i .u8])]→WP}(h:k ((1,()),()) w):Ad prog F.Dv [.iface T.Ci v] w false [(false,[.i .u8])] k:=by
 subst hv
 refine Kw.ok ?_
 exact h
theorem Kv.cl{s:S6}{w:World}{k:TR [(false,[.b])]→WP}(h: ∀w',Ah w w'→k ((okF (qZ s),()),()) w'):Ad prog F.Dw [.iface T.Ci (vS s)] w false [(false,[.b])] k:=by
 refine Kv.ok ?_
 refine Kw.cl (s:=s) rfl (Le rfl (Df.cl (s:=s) λq w4 u4 hE=>?_))
 have hl:=hE.len
 have h6:(qZ s).length=6:=rfl
 refine Aw.by (λz w'=>Ah w4 w'∧ ∃i:Nat,z=((i:Int),())∧i≤(qZ s).length∧ ∀e∈(qZ s).take i,aI e=true) (λz=>(1000-z.1).toNat) ⟨Ah.refl _,0,rfl,by omega,by simp⟩ ?_
 rintro z w7 ⟨g,i,rfl,hi,hgood⟩ _
 have out: ∀w',Ah w4 w'→okF (qZ s)=false→k ((false,()),()) w':=λw' g h0=>by
  have:=h w' (u4.trans g)
  rw[h0] at this;exact this
 refine Cf (λc=>?_) λc=>?_
 ·have hi':i<(qZ s).length:=by have c:(i:Int)<(q.2.1:Int):=c;omega
  have he:(qZ s)[i]? =some (qZ s)[i]:=List.getElem?_eq_getElem hi'
  generalize (qZ s)[i]=e at he
  have hE7:=hE.Ai g
  refine hE7.ix (z:=(i:Int)) rfl he λad ha=>hE7.Bc ha he ?_
  refine Ae λp10 w11 e10 k10 u11=>k10.E5 _ rfl rfl λw12 k12 u12=>k12.i1 1 rfl ?_
  have g12:=Ah.fresh g u11 u12 e10
  refine Cf (λc=>out w12 g12 (zT he ?_)) λc1=>k12.i1 1 rfl (k12.i1 2 rfl (Cf (λc=>out w12 g12 (zT he ?_)) λc2=>⟨⟨g12,i+1,?_,by omega,?_⟩,?_⟩))
  ·have c:e.2.1<0:=c
   cases hb:aI e
   ·rfl
   ·have:=dD.1 hb;omega
  ·have c:e.2.1>e.2.2:=c
   cases hb:aI e
   ·rfl
   ·have:=dD.1 hb;omega
  ·show(wrap .i64 ((i:Int)+1),())=_
   rw[Af (by unfold I64;omega)];rfl
  ·have c1: ¬e.2.1<0:=c1
   have c2: ¬e.2.1>e.2.2:=c2
   rw[List.take_add_one,he]
   intro x hx
   rcases List.mem_append.1 hx with hx|hx
   ·exact hgood x hx
   ·have:x=e:=by simpa using hx
    subst this
    exact dD.2 ⟨by omega,by omega⟩
  ·show(1000-wrap .i64 ((i:Int)+1)).toNat<(1000-(i:Int)).toNat
   rw[Af (by unfold I64;omega)];omega
 ·have hi':i=(qZ s).length:=by have c: ¬(i:Int)<(q.2.1:Int):=c;omega
  subst hi'
  rw[List.take_length] at hgood
  have:=h w7 (u4.trans g)
  rw[Abp hgood] at this
  exact this
abbrev Aea(be:Nat)(f:Fl):List Value:=[.pointer (some ⟨be,0,none⟩),iV f.me,iV f.tmo,iV f.ign,iV f.need,iV f.drift]
abbrev qL(f:Fl):List Value:=[iV f.ll,iV f.lg,iV f.lh]
structure FW(w:World)(O:NP)(bf be:Nat)(f:Fl)(e:El)(l:Tz)(es:List E3):Prop where
 ex: ∃r s,Ar w bf (flC be f s)∧pJ w be r e l∧Dp w 0 T.Bq 3 s es.length (flat3 es)∧(∀a,s.1=some a→a.block≠bf∧a.block≠be∧a.block≠r∧O a.block)∧O r∧bf≠r
 ne:bf≠be
 obf:O bf
 obe:O be
 lt: ∀z,O z→z<w.heap.size
 len:es.length≤8
 good: ∀x∈es,J8 x=true
 need:1≤f.need
theorem FW.upd{S O:NP}{w w':World}{bf be:Nat}{f:Fl}{e:El}{l:Tz}{es:List E3}(h:FW w O bf be f e l es)(u:Ap S w w')(hS: ∀z,O z→ ¬S z):FW w' O bf be f e l es:=by
 obtain⟨⟨r,s,h1,h2,h3,h4,h5,h6⟩,ne,obf,obe,lt,len,good,need⟩:=h
 exact⟨⟨r,s,h1.upd u (hS _ obf),h2.upd u (hS _ obe) (hS _ h5),h3.upd u λa ha=>hS _ (h4 a ha).2.2.2,h4,h5,h6⟩,ne,obf,obe,λz hz=>Nat.lt_of_lt_of_le (lt z hz) u.size,len,good,need⟩
theorem FW.Ai{O:NP}{w w':World}{bf be:Nat}{f:Fl}{e:El}{l:Tz}{es:List E3}(h:FW w O bf be f e l es)(u:Ah w w'):FW w' O bf be f e l es:=h.upd u λ_ _ x=>x
structure Nx(O:NP)(w:World)(O':NP)(w':World):Prop where
 u:Ap O w w'
 sub: ∀z,O' z→O z∨w.heap.size≤z
theorem Nx.trans{O O' O'':NP}{w w' w'':World}(h:Nx O w O' w')(k:Nx O' w' O'' w''):Nx O w O'' w'':=
 ⟨h.u.trans k.u λi hi ho=>(h.sub i ho).elim id λx=>by omega,λz hz=>(k.sub z hz).elim (h.sub z) λx=>.inr (Nat.le_trans h.u.size x)⟩
theorem Nx.Ai{O O':NP}{w w' w'':World}(h:Nx O w O' w')(g:Ah w' w''):Nx O w O' w'':=⟨h.u.Ai g,h.sub⟩
theorem Nx.of{O:NP}{w w':World}(g:Ah w w'):Nx O w O w':=⟨Ap.Ed g,λz hz=>.inl hz⟩
theorem Nx.pre{O O':NP}{w w' w'':World}(g:Ah w w')(h:Nx O w' O' w''):Nx O w O' w'':=(Nx.of g).trans h
theorem Nx.blk{O O':NP}{w w':World}{b:Nat}{cs:List Value}(h:Nx O w O' w')(k:Ar w b cs)(hb: ¬O b):Ar w' b cs∧ ¬O' b:=
 ⟨k.upd h.u hb,λx=>(h.sub b x).elim hb λy=>by have:=k.lt;omega⟩
theorem FW.dN{O:NP}{w:World}{bf be:Nat}{f:Fl}{e:El}{l:Tz}{es:List E3}(h:FW w O bf be f e l es){k:Option Addr→Prop}(hk:k (some ⟨be,0,none⟩)):ld1 .p ⟨bf,0,none⟩ w k:=by
 obtain⟨r,s,h1,_⟩:=h.ex
 exact h1.c0 (c:=.p) (x:=some ⟨be,0,none⟩) rfl hk
theorem FW.b{O:NP}{w:World}{bf be:Nat}{f:Fl}{e:El}{l:Tz}{es:List E3}(h:FW w O bf be f e l es): ∃r s,FlB w bf be r f s e l es:=by
 obtain⟨r,s,h1,h2,h3,h4,h5⟩:=h.ex
 exact⟨r,s,h1,h2,h3.vN,h.ne⟩
theorem FW.el{O:NP}{w:World}{bf be:Nat}{f:Fl}{e:El}{l:Tz}{es:List E3}(h:FW w O bf be f e l es): ∃r,pJ w be r e l:=by
 obtain⟨r,s,h1⟩:=h.b;exact⟨r,h1.el⟩
theorem Rn.cw{me r0 r1 r2 r3:Int}{w:World}{k:TR [(false,[.p]),(false,[KI])]→WP}
  (h0:(me<0∨64≤me∨flG r0 r1 r2 r3=false)→ ∀w',Ah w w'→k ((none,()),(1,()),()) w')
  (h1:0≤me→me<64→flG r0 r1 r2 r3=true→ ∀O bf be w',FW w' O bf be ⟨me,r0,r1,r2,r3,0,0,0⟩ ⟨me,r0,r1,0,0,-1,0,0⟩ [] []→(∀z,O z→w.heap.size≤z)→Ah w w'→k ((some ⟨bf,0,none⟩,()),(0,()),()) w'):
  Ad prog F.Rn [iV me,.agg #[iV r0,iV r1,iV r2,iV r3]] w true [(false,[.p]),(false,[KI])] k:=by
 refine Rn.cl h0 λm0 m1 hg bf be m w' lf le lm hF g=>h1 m0 m1 hg (λz=>z=bf∨z=be∨z=m) bf be w' ?_ ?_ g
 ·have a1:=hF.blk.lt
  have a2:=hF.el.blk.lt
  have a3:=hF.el.map.lt
  refine⟨⟨m,(none,0,0),hF.blk,hF.el,Dp.nil _ _ _ _,(λa h=>by cases h),.inr (.inr rfl),Zb.ne hF.el.map hF.blk⟩,hF.ne,.inl rfl,.inr (.inl rfl),?_,by simp,by simp,(Vg.1 hg).2.1⟩
  rintro z (rfl|rfl|rfl)<;>assumption
 ·rintro z (rfl|rfl|rfl)<;>assumption
theorem Az.cw{O:NP}{bf be:Nat}{f:Fl}{e:El}{l:Tz}{es:List E3}{w:World}(hF:FW w O bf be f e l es){k:TR [(false,[.b])]→WP}
  (h: ∀w',Ah w w'→k ((Xm f e es.length,()),()) w'):Ad prog F.Az [.pointer (some ⟨bf,0,none⟩)] w false [(false,[.b])] k:=by
 obtain⟨r,s,hb⟩:=hF.b
 exact Az.cl hb h
theorem A8.cw{O:NP}{bf be:Nat}{f:Fl}{e:El}{l:Tz}{es:List E3}{w:World}(hF:FW w O bf be f e l es){k:TR [(false,[.b])]→WP}
  (h: ∀w',Ah w w'→k ((mine e,()),()) w'):Ad prog F.A8 [.pointer (some ⟨be,0,none⟩)] w false [(false,[.b])] k:=by
 obtain⟨r,hb⟩:=hF.el
 exact A8.cl hb h
theorem Bz.cw{O:NP}{bf be:Nat}{f:Fl}{e:El}{l:Tz}{es:List E3}{w:World}(hF:FW w O bf be f e l es){k:TR [(false,[KI])]→WP}
  (h:k ((e.root,()),()) w):Ad prog F.Bz [.pointer (some ⟨be,0,none⟩)] w false [(false,[KI])] k:=by
 obtain⟨r,hb⟩:=hF.el
 exact Bz.cl hb h
theorem G8.cw{O:NP}{bf be:Nat}{f:Fl}{e:El}{l:Tz}{es:List E3}{w:World}(hF:FW w O bf be f e l es){k:TR [(false,[KI])]→WP}
  (h:k (((es.length:Int),()),()) w):Ad prog F.G8 [.pointer (some ⟨bf,0,none⟩)] w false [(false,[KI])] k:=by
 refine G8.ok ?_
 obtain⟨r,s,hb⟩:=hF.b
 refine Le rfl ?_
 rw[Ac]
 have hc:w.cell? (Addr.add ⟨bf,0,none⟩ 6)=some (.slice s.1 s.2.1 s.2.2):=by rw[Lr,Nat.zero_add,hb.blk.cell];rfl
 refine C9.at hc ?_
 rw[hb.vN.len];exact h
def fgF(f:Fl):Fl:={f with ll:=0,lg:=0,lh:=0}
theorem Eb.cw{O:NP}{bf be:Nat}{f:Fl}{e:El}{l:Tz}{es:List E3}{w:World}(hF:FW w O bf be f e l es){k:TR []→WP}
  (h: ∀w' O',FW w' O' bf be (fgF f) e l []→Nx O w O' w'→k () w'):Ad prog F.Eb [.pointer (some ⟨bf,0,none⟩)] w true [] k:=by
 refine Eb.ok ?_
 obtain⟨r,s,h1,h2,h3,h4,h5,h6⟩:=hF.ex
 rw[Ac]
 have hT:jU w 0 bf (Aea be f) (qL f) s es:=⟨h1,h3,hF.len,λa ha=>(h4 a ha).1⟩
 refine Fa.clG (Aea be f) (qL f) hT λw3 T3 u3=>?_
 rw[Ac]
 have k3:Ar w3 bf (flC be f (none,0,0)):=T3.1
 refine k3.sN 7 _ (by simp[flC]) rfl λw5 k5 u5=>?_
 have U:Ap (λz=>z=bf) w w5:=Ap.trans u3 u5 λ_ _ h=>h
 refine h w5 O ⟨⟨r,(none,0,0),k5,h2.upd U (λh=>hF.ne h.symm) (λh=>h6 h.symm),Dp.nil _ _ _ _,(λa h=>by cases h),h5,h6⟩,hF.ne,hF.obf,hF.obe,λz hz=>Nat.lt_of_lt_of_le (hF.lt z hz) U.size,by simp,by simp,hF.need⟩ ⟨U.mono λz hz=>by rw[hz];exact hF.obf,λz hz=>.inl hz⟩
theorem Aid{es:List E3}{x:E3}(h: ∀y∈es,J8 y=true)(hx:J8 x=true): ∀y∈iP es x,J8 y=true:=by
 intro y hy
 unfold iP at hy
 split at hy
 ·exact h y hy
 ·rcases List.mem_append.1 (List.mem_of_mem_drop hy) with h'|h'
  ·exact h y h'
  ·have:y=x:=by simpa using h'
   subst this;exact hx
theorem FW.add{O:NP}{bf be:Nat}{f:Fl}{e:El}{l:Tz}{es:List E3}{x:E3}{w:World}(hF:FW w O bf be f e l es)(hx:J8 x=true){k:TR [(false,[KI])]→WP}
  (h: ∀w' O',FW w' O' bf be f e l (iP es x)→Nx O w O' w'→k ((addN es x,()),()) w'):
  Ad prog F.Hu [.pointer (some (Addr.add ⟨bf,0,none⟩ 6)),.agg #[iV x.1,iV x.2.1,iV x.2.2]] w false [(false,[KI])] k:=by
 obtain⟨r,s,h1,h2,h3,h4,h5,h6⟩:=hF.ex
 have hT:jU w 0 bf (Aea be f) (qL f) s es:=⟨h1,h3,hF.len,λa ha=>(h4 a ha).1⟩
 have lb:=h1.lt
 have le:=h2.blk.lt
 have lr:=h2.map.lt
 refine Hu.clG (Aea be f) (qL f) hT (Nat.zero_le _) λs' w' T' u' hs=>?_
 obtain⟨t1,t2,t3,t4⟩:=T'
 have no: ∀a,s.1=some a→O a.block:=λa ha=>(h4 a ha).2.2.2
 refine h w' (λz=>O z∨ ∃a,s'.1=some a∧a.block=z) ⟨⟨r,s',t1,h2.upd u' ?_ ?_,t2,λa ha=>?_,.inl h5,h6⟩,hF.ne,.inl hF.obf,.inl hF.obe,?_,t3,Aid hF.good hx,hF.need⟩ ⟨u'.mono ?_,?_⟩
 ·rintro(h|⟨a,ha,h⟩)
  ·exact hF.ne h.symm
  ·exact(h4 a ha).2.1 h
 ·rintro(h|⟨a,ha,h⟩)
  ·exact h6 h.symm
  ·exact(h4 a ha).2.2.1 h
 ·refine⟨t4 a ha,?_,?_,.inr ⟨a,ha,rfl⟩⟩
  ·rcases hs a ha with ⟨a0,h0,e0⟩|hh
   ·rw[e0];exact(h4 a0 h0).2.1
   ·omega
  ·rcases hs a ha with ⟨a0,h0,e0⟩|hh
   ·rw[e0];exact(h4 a0 h0).2.2.1
   ·omega
 ·rintro z (hz|⟨a,ha,rfl⟩)
  ·exact Nat.lt_of_lt_of_le (hF.lt z hz) u'.size
  ·exact(t2.blk ha).2.1
 ·rintro z (rfl|⟨a,ha,rfl⟩)
  ·exact hF.obf
  ·exact no a ha
 ·rintro z (hz|⟨a,ha,rfl⟩)
  ·exact .inl hz
  ·rcases hs a ha with ⟨a0,h0,e0⟩|hh
   ·left;rw[e0];exact no a0 h0
   ·exact .inr hh
theorem FW.clear{O:NP}{bf be:Nat}{f:Fl}{e:El}{l:Tz}{es:List E3}{w:World}(hF:FW w O bf be f e l es){k:TR []→WP}
  (h: ∀w' O',FW w' O' bf be f e l []→Nx O w O' w'→k () w'):Ad prog F.Fa [.pointer (some (Addr.add ⟨bf,0,none⟩ 6))] w true [] k:=by
 obtain⟨r,s,h1,h2,h3,h4,h5,h6⟩:=hF.ex
 have hT:jU w 0 bf (Aea be f) (qL f) s es:=⟨h1,h3,hF.len,λa ha=>(h4 a ha).1⟩
 refine Fa.clG (Aea be f) (qL f) hT λw3 T3 u3=>?_
 refine h w3 O ⟨⟨r,(none,0,0),T3.1,h2.upd u3 (λh=>hF.ne h.symm) (λh=>h6 h.symm),Dp.nil _ _ _ _,(λa h=>by cases h),h5,h6⟩,hF.ne,hF.obf,hF.obe,λz hz=>Nat.lt_of_lt_of_le (hF.lt z hz) u3.size,by simp,by simp,hF.need⟩ ⟨u3.mono λz hz=>by rw[hz];exact hF.obf,λz hz=>.inl hz⟩
theorem FW.last{O:NP}{bf be:Nat}{f:Fl}{e:El}{l:Tz}{es:List E3}{a b c:Int}{w:World}(hF:FW w O bf be f e l es){k:WP}
  (h: ∀w' O',FW w' O' bf be {f with ll:=a,lg:=b,lh:=c} e l es→Nx O w O' w'→k w'):Au [iV a,iV b,iV c] (Addr.add ⟨bf,0,none⟩ 7) 0 w k:=by
 obtain⟨r,s,h1,h2,h3,h4,h5,h6⟩:=hF.ex
 refine h1.sN 7 _ (by simp[flC]) rfl λw5 k5 u5=>?_
 refine h w5 O ⟨⟨r,s,k5,h2.upd u5 (λh=>hF.ne h.symm) (λh=>h6 h.symm),h3.upd u5 λa ha h=>(h4 a ha).1 h,h4,h5,h6⟩,hF.ne,hF.obf,hF.obe,λz hz=>Nat.lt_of_lt_of_le (hF.lt z hz) u5.size,hF.len,hF.good,hF.need⟩ ⟨u5.mono λz hz=>by rw[hz];exact hF.obf,λz hz=>.inl hz⟩
def okH(s:S6)(loc:Int):Bool:=decide (0≤s.2.2.2.2.1)&&decide (s.2.2.2.2.1<63)&&decide (0≤loc)&&decide (loc≤1125899906842624)&&decide (0≤s.2.2.2.2.2)&&decide (s.2.2.2.2.2≤1125899906842624)
theorem yQ{s:S6}{loc:Int}:okH s loc=true↔0≤s.2.2.2.2.1∧s.2.2.2.2.1<63∧0≤loc∧loc≤1125899906842624∧0≤s.2.2.2.2.2∧s.2.2.2.2.2≤1125899906842624:=by unfold okH;simp[and_assoc]
def mrk(s:S6):Ky MK:=(s.2.2.1,s.2.2.2.1,())
def hrF(e:El)(l:Tz)(s:S6)(loc:Int):Int:=if okH s loc=true then hrN e l s.2.1 (mrk s) else 0
def yG(s:S6)(loc:Int):E3:=(loc,wrap .i64 (s.2.2.2.2.2-loc),wrap .i64 (s.2.2.2.2.1+1))
def adF(es:List E3)(x:E3):List E3:=if addN es x=0 then iP es x else[x]
def esF(c:Int)(es:List E3)(s:S6)(loc:Int):List E3:=adF (if c=2 then[] else es) (yG s loc)
def hfF(f:Fl)(s:S6)(loc:Int):Fl:={f with ll:=loc,lg:=s.2.2.2.2.2,lh:=wrap .i64 (s.2.2.2.2.1+1)}
theorem Ahw{s:S6}{loc:Int}(h:okH s loc=true):J8 (yG s loc)=true:=by
 have h:=yQ.1 h
 have e:yG s loc=(loc,s.2.2.2.2.2-loc,s.2.2.2.2.1+1):=by
  unfold yG;rw[Af (by unfold I64;omega),Af (by unfold I64;omega)]
 rw[e]
 unfold J8
 simp
 omega
theorem Aoo{x:E3}(h:J8 x=true):iP [] x=[x]:=by
 unfold iP gB;simp[h]
theorem Jd.cw{O:NP}{bf be:Nat}{f:Fl}{e:El}{l:Tz}{es:List E3}{s:S6}{loc:Int}{w:World}(hF:FW w O bf be f e l es){k:TR [(false,[KI])]→WP}
  (h0:hrF e l s loc=0→ ∀w',Ah w w'→k ((0,()),()) w')
  (h1: ∀c,hrF e l s loc=c→c≠0→okH s loc=true→ ∀w' O',FW w' O' bf be (hfF f s loc) (hrE e s.2.1) (bM l s.2.1 (mrk s)) (esF c es s loc)→Nx O w O' w'→k ((c,()),()) w'):
  Ad prog F.Jd [.pointer (some ⟨bf,0,none⟩),vS s,iV loc] w false [(false,[KI])] k:=by
 refine Jd.ok ?_
 refine Ae λp1 w2 e1 k1 u1=>Le rfl ?_
 have l1:=k1.lt
 have no:okH s loc=false→k ((0,()),()) w2:=λh=>h0 (by unfold hrF;rw[h];rfl) w2 u1
 have bad: ¬(0≤s.2.2.2.2.1∧s.2.2.2.2.1<63∧0≤loc∧loc≤1125899906842624∧0≤s.2.2.2.2.2∧s.2.2.2.2.2≤1125899906842624)→k ((0,()),()) w2:=λh=>no (by
  cases ho:okH s loc
  ·rfl
  ·exact absurd (yQ.1 ho) h)
 refine k1.i1 4 rfl (Cf (λc=>bad (by have c:s.2.2.2.2.1<0:=c;omega)) λc1=>k1.i1 4 rfl (Cf (λc=>bad (by have c:s.2.2.2.2.1≥63:=c;omega)) λc2=>?_))
 refine Cf (λc=>bad (by have c:loc<0:=c;omega)) λc3=>Cf (λc=>bad (by have c:loc>1125899906842624:=c;omega)) λc4=>?_
 refine k1.i1 5 rfl (Cf (λc=>bad (by have c:s.2.2.2.2.2<0:=c;omega)) λc5=>k1.i1 5 rfl (Cf (λc=>bad (by have c:s.2.2.2.2.2>1125899906842624:=c;omega)) λc6=>?_))
 have ok:okH s loc=true:=yQ.2 ⟨by have c: ¬s.2.2.2.2.1<0:=c1;omega,by have c: ¬s.2.2.2.2.1≥63:=c2;omega,by have c: ¬loc<0:=c3;omega,by have c: ¬loc>1125899906842624:=c4;omega,by have c: ¬s.2.2.2.2.2<0:=c5;omega,by have c: ¬s.2.2.2.2.2>1125899906842624:=c6;omega⟩
 clear c1 c2 c3 c4 c5 c6 bad no
 have hN:hrF e l s loc=hrN e l s.2.1 (mrk s):=by unfold hrF;rw[if_pos ok]
 have hx:=Ahw ok
 rw[Aq,Ac]
 have F7:=(hF.Ai u1).Ai (Ah.drew _)
 have g7:Ah w w2.drew:=u1.trans (Ah.drew _)
 have k7:=k1.drew
 refine F7.dN (k7.c1 1 rfl (k7.c1 2 rfl (k7.c1 3 rfl ?_)))
 obtain⟨⟨r,sl,f1,f2,f3,f4,f5,f6⟩,fne,fobf,fobe,flt,flen,fgood,fneed⟩:=F7
 have np1: ¬O p1:=λh=>by have:=hF.lt p1 h;omega
 have nel: ¬elS be r p1:=by
  rintro(h|h)
  ·rw[h] at np1;exact np1 fobe
  ·rw[h] at np1;exact np1 f5
 refine Jp.cl (m:=mrk s) (root:=s.2.1) f2 (λhz w14 u14=>⟨⟨k7.hold u14 (λx=>x) 3 (by simp),k7.hold u14 (λx=>x) 2 (by simp),trivial⟩,We rfl (h0 (hN.trans hz) w14 (g7.trans u14))⟩) λc hc hc0 w14 E14 u14=>⟨⟨k7.hold u14 nel 3 (by simp),k7.hold u14 nel 2 (by simp),trivial⟩,?_⟩
 have hc':hrF e l s loc=c:=hN.trans hc
 refine Le (beq_eq_false_iff_ne.2 hc0) ?_
 have F14:FW w14 O bf be f (hrE e s.2.1) (bM l s.2.1 (mrk s)) es:=by
  refine⟨⟨r,sl,f1.upd u14 ?_,E14,f3.upd u14 λa ha=>?_,f4,f5,f6⟩,fne,fobf,fobe,λz hz=>Nat.lt_of_lt_of_le (flt z hz) u14.size,flen,fgood,fneed⟩
  ·rintro(h|h)
   ·exact fne h
   ·exact f6 h
  ·rintro(h|h)
   ·exact(f4 a ha).2.1 h
   ·exact(f4 a ha).2.2.1 h
 have X14:Nx O w O w14:=Nx.pre g7 ⟨u14.mono (λz h=>h.elim (λh=>by rw[h];exact fobe) λh=>by rw[h];exact f5),λz hz=>.inl hz⟩
 have k14:=k7.upd u14 nel
 refine Bh.by (λ_ w'=> ∃O' f',f'.me=f.me∧f'.tmo=f.tmo∧f'.ign=f.ign∧f'.need=f.need∧f'.drift=f.drift∧FW w' O' bf be f' (hrE e s.2.1) (bM l s.2.1 (mrk s)) (if c=2 then[] else es)∧Nx O w O' w'∧Ar w' p1 (encs KS (tS s))∧ ¬O' p1) ?_ ?_
 ·refine Vh (λc2=>?_) λc2=>?_
  ·have c2:c=2:=c2
   refine Eb.cw F14 λw19 O' F19 x19=>⟨O',fgF f,rfl,rfl,rfl,rfl,rfl,by rw[if_pos c2];exact F19,X14.trans x19,x19.blk k14 np1⟩
  ·have c2:c≠2:=c2
   exact⟨O,f,rfl,rfl,rfl,rfl,rfl,by rw[if_neg c2];exact F14,X14,k14,np1⟩
 rintro _ w17 ⟨O',f',q1,q2,q3,q4,q5,F17,X17,k17,n17⟩ _
 clear F14 X14 k14
 refine k17.c1 5 rfl (k17.c1 4 rfl ?_)
 refine Ae λp22 w23 e22 k22 u22=>k22.E5 _ rfl rfl λw24 k24 u24=>?_
 have g24:Ah w17 w24:=Ah.fresh (Ah.refl _) u22 u24 e22
 have F24:=F17.Ai g24
 have X24:=X17.Ai g24
 have k24':=k17.Ai g24
 change Ar w24 p22 (encs [KI,KI,KI] ((yG s loc).1,(yG s loc).2.1,(yG s loc).2.2,())) at k24
 have n22: ¬O' p22:=λh=>by have:=F17.lt p22 h;omega
 refine Bh.by (λ_ w'=> ∃O'',FW w' O'' bf be f' (hrE e s.2.1) (bM l s.2.1 (mrk s)) (esF c es s loc)∧Nx O w O'' w'∧Ar w' p1 (encs KS (tS s))) ?_ ?_
 ·rw[Aq,Ac]
  refine k24.drew.Xd ?_
  refine(F24.Ai (Ah.drew _)).add hx λw32 O2 F32 x32=>⟨trivial,?_⟩
  have x32':Nx O' w24 O2 w32:=Nx.pre (Ah.drew _) x32
  have b32:=x32'.blk k24' n17
  have c32:=x32'.blk k24 n22
  refine dS (λcn=>?_) λcn=>?_
  ·have cn:addN (if c=2 then[] else es) (yG s loc)≠0:=cn
   rw[Ac]
   refine F32.clear λw35 O3 F35 x35=>?_
   have c35:=x35.blk c32.1 c32.2
   have b35:=x35.blk b32.1 b32.2
   rw[Aq,Ac]
   refine c35.1.drew.Xd ((F35.Ai (Ah.drew _)).add hx λw40 O4 F40 x40=>⟨trivial,O4,?_,((X24.trans x32').trans x35).trans (Nx.pre (Ah.drew _) x40),((Nx.pre (Ah.drew _) x40).blk b35.1 b35.2).1⟩)
   rw[Aoo hx] at F40
   unfold esF adF;rw[if_neg cn];exact F40
  ·have cn:addN (if c=2 then[] else es) (yG s loc)=0:=cn
   refine⟨O2,?_,X24.trans x32',b32.1⟩
   unfold esF adF;rw[if_pos cn];exact F32
 ·rintro _ w27 ⟨O2,F27,X27,k27⟩ _
  refine k27.c1 5 rfl (k27.c1 4 rfl ?_)
  rw[Ac]
  refine F27.last λw44 O3 F44 x44=>h1 c hc' hc0 ok w44 O3 ?_ (X27.trans x44)
  have:hfF f s loc={f' with ll:=loc,lg:=s.2.2.2.2.2,lh:=wrap .i64 (s.2.2.2.2.1+1)}:=by
   unfold hfF;rw[q1,q2,q3,q4,q5]
  rw[this];exact F44
theorem FW.Aut{O:NP}{bf be:Nat}{f:Fl}{e:El}{l:Tz}{es:List E3}{w:World}(hF:FW w O bf be f e l es):
  ∃r,pJ w be r e l∧(∀z,elS be r z→O z)∧ ∀w' e' l',pJ w' be r e' l'→Ap (elS be r) w w'→FW w' O bf be f e' l' es∧Nx O w O w':=by
 obtain⟨⟨r,s,h1,h2,h3,h4,h5,h6⟩,ne,obf,obe,lt,len,good,need⟩:=hF
 have hO: ∀z,elS be r z→O z:=λz h=>h.elim (λh=>by rw[h];exact obe) λh=>by rw[h];exact h5
 refine⟨r,h2,hO,λw' e' l' E u=>⟨⟨⟨r,s,h1.upd u ?_,E,h3.upd u λa ha=>?_,h4,h5,h6⟩,ne,obf,obe,λz hz=>Nat.lt_of_lt_of_le (lt z hz) u.size,len,good,need⟩,u.mono hO,λz hz=>.inl hz⟩⟩
 ·rintro(h|h)
  ·exact ne h
  ·exact h6 h
 ·rintro(h|h)
  ·exact(h4 a ha).2.1 h
  ·exact(h4 a ha).2.2.1 h
theorem FW.Aqn{O:NP}{bf be:Nat}{f:Fl}{e:El}{l:Tz}{es:List E3}{w:World}(hF:FW w O bf be f e l es):
  ∃r,pJ w be r e l∧ ∀w' e' l',pJ w' be r e' l'→Ap (λz=>z=be) w w'→FW w' O bf be f e' l' es∧Nx O w O w':=by
 obtain⟨r,h1,_,h2⟩:=hF.Aut
 exact⟨r,h1,λw' e' l' E u=>h2 w' e' l' E (u.mono λz h=>.inl h)⟩
def Agh(e:El)(boot:Int):El:={e with boot:=boot,seq:=0,root:= -1,beats:=0,quiet:=0}
theorem Jc.cw{O:NP}{bf be:Nat}{f:Fl}{e:El}{l:Tz}{es:List E3}{boot:Int}{w:World}(hF:FW w O bf be f e l es){k:TR []→WP}
  (h: ∀w' O',FW w' O' bf be (fgF f) (Agh e boot) [] []→Nx O w O' w'→k () w'):Ad prog F.Jc [.pointer (some ⟨bf,0,none⟩),uV boot] w true [] k:=by
 refine Jc.ok ?_
 refine We rfl ?_
 rw[Ac]
 refine hF.dN ?_
 obtain⟨⟨r,s,h1,h2,h3,h4,h5,h6⟩,ne,obf,obe,lt,len,good,need⟩:=hF
 refine Gy.cl h2.blk λw4 m lm E4 u4=>?_
 have lb:=h1.lt
 have F4:FW w4 (λz=>O z∨z=m) bf be f (Agh e boot) [] es:=by
  refine⟨⟨m,s,h1.upd u4 ne,E4,h3.upd u4 λa ha=>(h4 a ha).2.1,λa ha=>⟨(h4 a ha).1,(h4 a ha).2.1,?_,.inl (h4 a ha).2.2.2⟩,.inr rfl,by omega⟩,ne,.inl obf,.inl obe,?_,len,good,need⟩
  ·have:=(h3.blk ha).2.1;omega
  ·rintro z (hz|rfl)
   ·exact Nat.lt_of_lt_of_le (lt z hz) u4.size
   ·exact E4.map.lt
 have X4:Nx O w (λz=>O z∨z=m) w4:=⟨u4.mono λz hz=>by rw[hz];exact obe,λz hz=>hz.elim .inl λx=>.inr (by omega)⟩
 exact Eb.cw F4 λw6 O6 F6 x6=>h w6 O6 F6 (X4.trans x6)
def fwS(f:Fl)(e:El)(l:Tz)(loc:Int):S6:=(f.me,e.root,(mkM e l).1,(mkM e l).2.1,f.lh,wrap .i64 (wrap .i64 (f.lg+loc)-f.ll))
def wdF(f:Fl)(e:El)(l:Tz)(es:List E3)(loc:Int):S6×Bool:=
 if mine e=true then((f.me,f.me,(isM e).1,(isM e).2.1,0,loc),true)
 else if Xm f e es.length=false then((0,0,0,0,0,0),false)
 else(fwS f e l loc,okF (qZ (fwS f e l loc)))
theorem Asx{e:El}(h: ¬mine e=true):isE e=e:=by unfold isE;rw[if_neg h]
theorem Jo.cw{O:NP}{bf be:Nat}{f:Fl}{e:El}{l:Tz}{es:List E3}{loc:Int}{w:World}(hF:FW w O bf be f e l es){k:TR [(true,KS),(false,[.b])]→WP}
  (h: ∀w',FW w' O bf be f (isE e) l es→Nx O w O w'→k (tS (wdF f e l es loc).1,((wdF f e l es loc).2,()),()) w'):
  Ad prog F.Jo [.pointer (some ⟨bf,0,none⟩),iV loc] w true [(true,KS),(false,[.b])] k:=by
 refine Jo.ok ?_
 refine Ae λp1 w2 e1 k1 u1=>?_
 have np1: ¬O p1:=λh=>by have:=hF.lt p1 h;omega
 rw[Ac]
 have F2:=hF.Ai u1
 unfold wdF at h
 refine F2.dN (A8.cw F2 λw6 u6=>?_)
 have F6:=F2.Ai u6
 have g6:=u1.trans u6
 refine bQ (λc=>?_) λc=>?_
 ·have c:mine e=true:=c
  rw[if_pos c] at h
  rw[Ac]
  refine F6.dN ?_
  obtain⟨r,E6,hr⟩:=F6.Aqn
  refine Iu.cl E6 λw10 E10 u10=>?_
  obtain⟨F10,X10⟩:=hr _ _ _ E10 u10
  have k10:=X10.blk (k1.Ai u6) np1
  refine Ae λp11 w12 e11 k11 u11=>k11.E5 _ rfl rfl λw13 k13 u13=>?_
  have g13:Ah w10 w13:=Ah.fresh (Ah.refl _) u11 u13 e11
  rw[Aq,Ac]
  have F13:=(F10.Ai g13).Ai (Ah.drew _)
  have k13:=k13.drew
  have l11:=k11.lt
  obtain⟨r',s',b1,_⟩:=F13.ex
  refine b1.c1 1 (x:=f.me) rfl ?_
  rw[Ac]
  refine b1.c1 1 (x:=f.me) rfl (k13.c0 rfl (k13.c1 1 rfl ?_))
  have X13:Nx O w O w13.drew:=(Nx.pre g6 X10).Ai (g13.trans (Ah.drew _))
  refine((k10.1.Ai g13).drew).E5 _ rfl rfl λw21 k21 u21=>⟨trivial,?_⟩
  refine k21.cA (cs:=KS) (tS (f.me,f.me,(isM e).1,(isM e).2.1,0,loc)) rfl ?_
  refine h w21 (F13.upd u21 λz hz h=>by rw[h] at hz;exact np1 hz) ⟨Ap.trans X13.u u21 λi hi h=>by omega,X13.sub⟩
 ·have c: ¬mine e=true:=by have c:mine e=false:=c;rw[c];simp
  rw[if_neg c,Asx c] at h
  refine Az.cw F6 λw24 u24=>En (λc2=>?_) λc2=>?_
  ·have c2:Xm f e es.length=false:=c2
   rw[if_pos c2] at h
   refine((k1.Ai u6).Ai u24).E5 _ rfl rfl λw25 k25 u25=>k25.cA (cs:=KS) (tS (0,0,0,0,0,0)) rfl ?_
   have g25:Ah w w25:=Ap.trans (g6.trans u24) u25 λi hi h=>by omega
   exact h w25 (hF.Ai g25) (Nx.of g25)
  ·have c2: ¬Xm f e es.length=false:=by have c2:Xm f e es.length=true:=c2;rw[c2];simp
   rw[if_neg c2] at h
   rw[Ac]
   have F24:=F6.Ai u24
   refine F24.dN ?_
   obtain⟨r0,E24⟩:=F24.el
   refine Gx.cl E24 λw30 u30=>?_
   refine Ae λp31 w32 e31 k31 u31=>k31.E5 _ rfl rfl λw33 k33 u33=>?_
   have g33:Ah w30 w33:=Ah.fresh (Ah.refl _) u31 u33 e31
   have G33:Ah w w33:=((g6.trans u24).trans u30).trans g33
   have q33:=(((k1.Ai u6).Ai u24).Ai u30).Ai g33
   have l1:=k1.lt
   have l31:=k31.lt
   have n31:p1<p31:=by have:=u6.size;have:=u24.size;have:=u30.size;omega
   refine Bh.by (λz w'=>Ah w w'∧Ah w33 w'∧ ∃p,z.1=⟨p,0,none⟩∧p≠p1∧Ar w' p (encs KS (tS (fwS f e l loc)))) ?_ ?_
   ·rw[Aq]
    have gd:Ah w w33.drew:=G33.trans (Ah.drew _)
    obtain⟨r1,s1,b1,E1,_⟩:=(hF.Ai gd).ex
    have m33:=k33.drew
    rw[Ac]
    refine b1.c1 1 (x:=f.me) rfl ?_
    rw[Ac]
    refine b1.c0 (c:=.p) (x:=some ⟨be,0,none⟩) rfl (m33.c0 rfl (m33.c1 1 rfl ?_))
    rw[Ac]
    refine b1.c2 7 2 (x:=f.lh) rfl ?_
    rw[Ac]
    refine b1.c2 7 1 (x:=f.lg) rfl ?_
    rw[Ac]
    refine b1.c1 7 (x:=f.ll) rfl ?_
    have hold: ∀{w':World},Ah w33.drew w'→w'.cell? (Addr.add ⟨bf,0,none⟩ 7)=some ((w33.drew.cell? (Addr.add ⟨bf,0,none⟩ 7)).getD undef)∧w'.cell? (Addr.add (Addr.add ⟨bf,0,none⟩ 7) 1)=some ((w33.drew.cell? (Addr.add (Addr.add ⟨bf,0,none⟩ 7) 1)).getD undef)∧w'.cell? (Addr.add (Addr.add ⟨bf,0,none⟩ 7) 2)=some ((w33.drew.cell? (Addr.add (Addr.add ⟨bf,0,none⟩ 7) 2)).getD undef)
      ∧w'.cell? (Addr.add ⟨p31,0,none⟩ 1)=some ((w33.drew.cell? (Addr.add ⟨p31,0,none⟩ 1)).getD undef)∧w'.cell? ⟨p31,0,none⟩=some ((w33.drew.cell? ⟨p31,0,none⟩).getD undef)∧w'.cell? ⟨bf,0,none⟩=some ((w33.drew.cell? ⟨bf,0,none⟩).getD undef)∧w'.cell? (Addr.add ⟨bf,0,none⟩ 1)=some ((w33.drew.cell? (Addr.add ⟨bf,0,none⟩ 1)).getD undef):=λu=>
     ⟨b1.hold u (λx=>x) 7 (by simp[flC]),b1.Zo u (λx=>x) 7 1 (by simp[flC]),b1.Zo u (λx=>x) 7 2 (by simp[flC]),m33.hold u (λx=>x) 1 (by simp),m33.hold u (λx=>x) 0 (by simp),b1.hold u (λx=>x) 0 (by simp[flC]),b1.hold u (λx=>x) 1 (by simp[flC])⟩
    have hd:=λ{w'} (u:Ah w33.drew w')=>hold u
    have n52: ∀p,w33.drew.heap.size=p→p≠p1:=λp hp=>by have:w33.drew.heap.size=w33.heap.size:=rfl;have:=q33.lt;omega
    refine⟨?_,?_⟩
    ·refine Bz.cl E1 ⟨?_,?_⟩
     ·obtain⟨a1,a2,a3,a4,a5,a6,a7⟩:=hd (Ah.refl _)
      exact⟨a1,a2,a3,a4,a5,a6,a7,trivial⟩
     ·refine Ae λp52 w53 e52 k52 u52=>⟨?_,?_⟩
      ·obtain⟨a1,a2,a3,a4,a5,a6,a7⟩:=hd u52
       exact⟨a1,a2,a3,a4,a5,a6,a7,trivial⟩
      ·refine k52.E5 _ rfl rfl λw54 k54 u54=>⟨trivial,?_⟩
       have g54:Ah w33.drew w54:=Ah.fresh (Ah.refl _) u52 u54 e52
       exact⟨gd.trans g54,(Ah.drew _).trans g54,p52,rfl,n52 p52 e52,k54⟩
    ·refine Ae λp55 w56 e55 k55 u55=>⟨?_,?_⟩
     ·obtain⟨a1,a2,a3,a4,a5,a6,a7⟩:=hd u55
      exact⟨a1,a2,a3,a4,a5,a6,a7,trivial⟩
     ·refine Bz.cl (E1.Ai u55) ⟨?_,?_⟩
      ·obtain⟨a1,a2,a3,a4,a5,a6,a7⟩:=hd u55
       exact⟨a1,a2,a3,a4,a5,a7,trivial⟩
      ·refine k55.E5 _ rfl rfl λw59 k59 u59=>⟨trivial,?_⟩
       have g59:Ah w33.drew w59:=Ah.fresh (Ah.refl _) u55 u59 e55
       exact⟨gd.trans g59,(Ah.drew _).trans g59,p55,rfl,n52 p55 e55,k59⟩
   ·rintro⟨z,_⟩ w36 ⟨g36,f36,p,hz,hp,kp⟩ _
    dsimp only at hz
    subst hz
    rw[Aq]
    have kd:=kp.drew
    refine kd.cA (cs:=KS) (tS (fwS f e l loc)) rfl (kd.cA (cs:=KS) (tS (fwS f e l loc)) rfl ?_)
    refine Kv.cl (s:=fwS f e l loc) λwR u64=>?_
    have hh: ∀i,i<6→wR.cell? (Addr.add ⟨p,0,none⟩ i)=some ((w36.drew.cell? (Addr.add ⟨p,0,none⟩ i)).getD undef):=λi hi=>kd.hold u64 (λx=>x) i (by simpa [encs] using hi)
    have k64:=kp.drew.Ai u64
    have g64:Ah w wR:=(g36.trans (Ah.drew _)).trans u64
    have r64:=((q33.Ai f36).Ai (Ah.drew _)).Ai u64
    refine⟨⟨hh 0 (by decide),hh 1 (by decide),hh 2 (by decide),hh 3 (by decide),hh 4 (by decide),hh 5 (by decide),hh 0 (by decide),hh 1 (by decide),hh 2 (by decide),hh 3 (by decide),hh 4 (by decide),hh 5 (by decide),trivial⟩,?_⟩
    refine r64.E5 _ rfl rfl λw65 k65 u65=>?_
    have g65:Ah w w65:=Ap.trans g64 u65 λi hi h=>by omega
    have hh: ∀i,i<6→w65.cell? (Addr.add ⟨p,0,none⟩ i)=some ((w36.drew.cell? (Addr.add ⟨p,0,none⟩ i)).getD undef):=λi hi=>kd.hold ((Ap.Ed u64).trans u65 λ_ _ h=>h) hp i (by simpa [encs] using hi)
    exact⟨⟨hh 0 (by decide),hh 1 (by decide),hh 2 (by decide),hh 3 (by decide),hh 4 (by decide),hh 5 (by decide),trivial⟩,k65.cA (cs:=KS) (tS (fwS f e l loc)) rfl (h w65 (hF.Ai g65) (Nx.of g65))⟩
def b1f(f:Fl)(e:El):Fl:=if btB e=true then fgF f else f
def b1l(e:El)(es:List E3):List E3:=if btB e=true then[] else es
def inT(loc:Int):Bool:=decide (0≤loc)&&decide (loc≤1125899906842624)
theorem kX{loc:Int}:inT loc=true↔0≤loc∧loc≤1125899906842624:=by unfold inT;simp
theorem fK{loc:Int}(h:loc<0∨loc>1125899906842624):inT loc=false:=by
 cases hb:inT loc
 ·rfl
 ·have:=kX.1 hb;omega
def btW(f:Fl)(e:El)(l:Tz)(es:List E3)(loc:Int):S6×Bool:=wdF (b1f f e) (lU e) l (b1l e es) loc
def btF(f:Fl)(e:El)(l:Tz)(es:List E3)(loc:Int):S6×Bool:=if inT loc=true then(if(btW f e l es loc).2=true then((btW f e l es loc).1,true) else((0,0,0,0,0,0),false)) else((0,0,0,0,0,0),false)
def b2e(e:El)(loc:Int):El:=if inT loc=true then isE (lU e) else lU e
theorem Jw.cw{O:NP}{bf be:Nat}{f:Fl}{e:El}{l:Tz}{es:List E3}{loc:Int}{w:World}(hF:FW w O bf be f e l es){k:TR [(true,KS),(false,[.b])]→WP}
  (h: ∀w' O',FW w' O' bf be (b1f f e) (b2e e loc) l (b1l e es)→Nx O w O' w'→k (tS (btF f e l es loc).1,((btF f e l es loc).2,()),()) w'):
  Ad prog F.Jw [.pointer (some ⟨bf,0,none⟩),iV loc] w true [(true,KS),(false,[.b])] k:=by
 refine Jw.ok ?_
 refine Ae λp1 w2 e1 k1 u1=>Le rfl ?_
 have np1: ¬O p1:=λh=>by have:=hF.lt p1 h;omega
 have F2:=hF.Ai u1
 have l1:=k1.lt
 unfold btF b2e at h
 refine Bh.by (λ_ w'=> ∃O',FW w' O' bf be (b1f f e) (lU e) l (b1l e es)∧Nx O w O' w'∧Ar w' p1 (encs KS (tS (0,0,0,0,0,0)))∧ ¬O' p1) ?_ ?_
 ·rw[Ac]
  refine F2.dN ?_
  obtain⟨r,E2,hr⟩:=F2.Aqn
  refine Jr.cl E2 λw11 E11 u11=>?_
  obtain⟨F11,X11⟩:=hr _ _ _ E11 u11
  have k11:=X11.blk k1 np1
  have X11':=Nx.pre u1 X11
  refine bQ (λc=>?_) λc=>?_
  ·have c:btB e=true:=c
   refine Eb.cw F11 λw13 O' F13 X13=>⟨O',?_,X11'.trans X13,X13.blk k11.1 k11.2⟩
   unfold b1f b1l;rw[if_pos c,if_pos c];exact F13
  ·have c: ¬btB e=true:=by have c:btB e=false:=c;rw[c];simp
   refine⟨O,?_,X11',k11⟩
   unfold b1f b1l;rw[if_neg c,if_neg c];exact F11
 rintro _ w7 ⟨O',F7,X7,k7,n7⟩ _
 have l7:=k7.lt
 have fin: ∀{O'':NP} {w' w'':World} {f' e' l' es'},FW w' O'' bf be f' e' l' es'→Nx O w O'' w'→ ¬O'' p1→Ap (λx=>x=p1) w' w''→FW w'' O'' bf be f' e' l' es'∧Nx O w O'' w'':=λhf X n u=>
  ⟨hf.upd u λz hz h=>by rw[h] at hz;exact n hz,Ap.trans X.u u λi hi h=>by omega,X.sub⟩
 refine Cf (λc=>?_) λc1=>Cf (λc=>?_) λc2=>?_
 ·have c:loc<0:=c
  rw[if_neg (by rw[fK (.inl c)];simp),if_neg (by rw[fK (.inl c)];simp)] at h
  refine k7.E5 _ rfl rfl λw14 k14 u14=>k14.cA (cs:=KS) (tS (0,0,0,0,0,0)) rfl ?_
  obtain⟨F14,X14⟩:=fin F7 X7 n7 u14
  exact h w14 O' F14 X14
 ·have c:loc>1125899906842624:=c
  rw[if_neg (by rw[fK (.inr c)];simp),if_neg (by rw[fK (.inr c)];simp)] at h
  refine k7.E5 _ rfl rfl λw14 k14 u14=>k14.cA (cs:=KS) (tS (0,0,0,0,0,0)) rfl ?_
  obtain⟨F14,X14⟩:=fin F7 X7 n7 u14
  exact h w14 O' F14 X14
 have hin:inT loc=true:=kX.2 ⟨by have c: ¬loc<0:=c1;omega,by have c: ¬loc>1125899906842624:=c2;omega⟩
 rw[if_pos hin,if_pos hin] at h
 refine Jo.cw F7 λw19 F19 X19=>?_
 have X19':=X7.trans X19
 have k19:=X19.blk k7 n7
 change∀w' O',FW w' O' bf be (b1f f e) (isE (lU e)) l (b1l e es)→_ at h
 have hW:wdF (b1f f e) (lU e) l (b1l e es) loc=btW f e l es loc:=rfl
 rw[hW]
 generalize btW f e l es loc=Z at*
 refine Ae λp20 w21 e20 k20 u20=>k20.E5 _ rfl rfl λw22 k22 u22=>?_
 have g22:Ah w19 w22:=Ah.fresh (Ah.refl _) u20 u22 e20
 have F22:=F19.Ai g22
 have X22:=X19'.Ai g22
 have k22':=k19.1.Ai g22
 refine En (λc=>?_) λc=>?_
 ·have c:Z.2=false:=c
  rw[if_neg (by rw[c];simp)] at h
  refine k22'.E5 _ rfl rfl λw23 k23 u23=>k23.cA (cs:=KS) (tS (0,0,0,0,0,0)) rfl ?_
  obtain⟨F23,X23⟩:=fin F22 X22 k19.2 u23
  exact h w23 O' F23 X23
 ·have c:Z.2=true:=c
  rw[if_pos c] at h
  change Ar w22 p20 (encs KS (tS Z.1)) at k22
  refine k22.cA (cs:=KS) (tS Z.1) rfl (k22'.E5 _ rfl rfl λw26 k26 u26=>k26.cA (cs:=KS) (tS Z.1) rfl ?_)
  obtain⟨F26,X26⟩:=fin F22 X22 k19.2 u26
  exact h w26 O' F26 X26
def wP(f:Fl)(e:El)(es:List E3)(loc:Int):Int×Int×Int:=
 if Xm f e es.length=false then(0,0,9) else if inT loc=false then(0,0,8) else if mine e=true then(loc,0,0)
 else if okG (Aeu f.drift es) loc=true then(gV (Aeu f.drift es) loc,Ab3 es,0) else(0,0,8)
theorem Gv.cw{O:NP}{bf be:Nat}{f:Fl}{e:El}{l:Tz}{es:List E3}{loc:Int}{w:World}(hF:FW w O bf be f e l es){k:TR [(false,[KI]),(false,[KI]),(false,[KI])]→WP}
  (h: ∀w',Ah w w'→k (((wP f e es loc).1,()),((wP f e es loc).2.1,()),((wP f e es loc).2.2,()),()) w'):
  Ad prog F.Gv [.pointer (some ⟨bf,0,none⟩),iV loc] w true [(false,[KI]),(false,[KI]),(false,[KI])] k:=by
 refine Gv.ok ?_
 unfold wP at h
 refine Le rfl (Az.cw hF λw2 u2=>En (λc=>?_) λc=>?_)
 ·have c:Xm f e es.length=false:=c
  rw[if_pos c] at h;exact h w2 u2
 have cs: ¬Xm f e es.length=false:=by have c:Xm f e es.length=true:=c;rw[c];simp
 rw[if_neg cs] at h
 have F2:=hF.Ai u2
 refine Bh.by (λz w'=>w'=w2∧(z.1=true↔inT loc=false)) ?_ ?_
 ·refine Cf (λc=>⟨rfl,by have c:loc<0:=c;simp[fK (.inl c)]⟩) λc=>⟨rfl,?_⟩
  have c: ¬loc<0:=c
  show decide (loc>1125899906842624)=true↔_
  rw[decide_eq_true_iff]
  refine⟨λh=>fK (.inr h),λh=>?_⟩
  by_cases h2:loc>1125899906842624
  ·exact h2
  ·rw[kX.2 ⟨by omega,by omega⟩] at h;cases h
 rintro⟨z,_⟩ _ ⟨rfl,hz⟩ _
 dsimp only at hz
 refine bQ (λc=>?_) λc=>?_
 ·have c:z=true:=c
  rw[if_pos (hz.1 c)] at h;exact h _ u2
 have ct: ¬inT loc=false:=λx=>by have c:z=false:=c;rw[hz.2 x] at c;cases c
 rw[if_neg ct] at h
 rw[Ac]
 refine F2.dN (A8.cw F2 λw9 u9=>?_)
 have F9:=F2.Ai u9
 have g9:=u2.trans u9
 refine bQ (λc=>?_) λc=>?_
 ·have c:mine e=true:=c
  rw[if_pos c] at h;exact h _ g9
 have cm':mine e=false:=c
 have cm: ¬mine e=true:=by rw[cm'];simp
 rw[if_neg cm] at h
 have hne:es≠[]:=by
  intro h0;subst h0
  refine cs ?_
  unfold Xm
  have:(e.root==e.me)=false:=cm'
  rw[this]
  have:=hF.need
  simp;omega
 have hMB:MB f.drift (Aeu f.drift es):=Aoz hne hF.good
 generalize hm:Aeu f.drift es=m at*
 have hm5:m.2.2.2.2=Ab3 es:=by rw[←hm];rfl
 refine Bh.by (λz w'=>Ah w w'∧ ∃p,z.1=⟨p,0,none⟩∧Ar w' p (m5 m)) ?_ ?_
 ·rw[Aq]
  have gd:Ah w w9.drew:=g9.trans (Ah.drew _)
  obtain⟨r,s,b1,E1,o1,_⟩:=(hF.Ai gd).ex
  rw[Ac]
  refine b1.c2 2 3 (x:=f.drift) rfl ?_
  rw[Ac]
  have hd: ∀{w':World},Ah w9.drew w'→w'.cell? (Addr.add (Addr.add ⟨bf,0,none⟩ 2) 3)=some ((w9.drew.cell? (Addr.add (Addr.add ⟨bf,0,none⟩ 2) 3)).getD undef):=λu=>b1.Zo u (λx=>x) 2 3 (by simp[flC])
  have hT:TV w9.drew (some (Addr.add ⟨bf,0,none⟩ 6)) s es:=.inr ⟨_,rfl,Ar.Aa3 (Aea be f) (qL f) b1,o1.vN⟩
  refine⟨?_,?_⟩
  ·refine Va.cl hT hF.len hF.good (λh=>absurd h hne) λ_ w18 u18=>⟨⟨hd u18,trivial⟩,?_⟩
   rw[hm]
   refine Ae λp19 w20 e19 k19 u19=>⟨⟨hd (u18.trans u19),trivial⟩,k19.E5 _ rfl rfl λw21 k21 u21=>⟨trivial,?_⟩⟩
   exact⟨gd.trans (Ah.fresh u18 u19 u21 e19),p19,rfl,k21⟩
  ·refine Ae λp22 w23 e22 k22 u22=>⟨⟨hd u22,trivial⟩,?_⟩
   refine Va.cl (hT.Ai u22) hF.len hF.good (λh=>absurd h hne) λ_ w25 u25=>⟨trivial,?_⟩
   rw[hm]
   refine(k22.Ai u25).E5 _ rfl rfl λw26 k26 u26=>⟨trivial,?_⟩
   refine⟨gd.trans (Ap.trans (u22.trans u25) u26 λi hi h=>?_),p22,rfl,k26⟩
   omega
 ·rintro⟨z,_⟩ w12 ⟨g12,p,hz,kp⟩ _
  dsimp only at hz
  subst hz
  refine kp.cA (cs:=[KI,KI,KI,KI,KI]) (t5 m) rfl ?_
  refine Jv.cl (m:=m) hMB λw29 u29=>En (λc=>?_) λc=>?_
  ·have c:okG m loc=false:=c
   rw[if_neg (by rw[c];simp)] at h
   exact h _ (g12.trans u29)
  ·have c:okG m loc=true:=c
   rw[if_pos c] at h
   rw[Aq]
   refine(kp.Ai u29).drew.c1 4 (x:=m.2.2.2.2) rfl ?_
   rw[hm5]
   exact h _ ((g12.trans u29).trans (Ah.drew _))
end Go.Proofs.YtppeepkmnijdpaaGreatDoor
