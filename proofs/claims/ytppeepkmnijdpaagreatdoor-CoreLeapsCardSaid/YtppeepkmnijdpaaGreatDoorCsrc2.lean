import Derived.Test.YtppeepkmnijdpaaGreatDoorCsrc
import Derived.Test.YtppeepkmnijdpaaGreatDoorMcA
namespace Go.Proofs.YtppeepkmnijdpaaGreatDoor
open Go.Eng Go Tryz
open Go.IntKind (wrap)
set_option linter.unusedSimpArgs false
set_option linter.unusedVariables false
set_option maxRecDepth 100000
set_option maxHeartbeats 8000000
def Amg(f:Fl)(e:El)(l:Tz)(es:List E3)(loc:Int):A5×Int:=
 if(wP f e es loc).2.2≠0 then((0,0,0,0,0),(wP f e es loc).2.2)
 else(((wP f e es loc).1,(wP f e es loc).2.1,e.root,(mkM e l).1,if mine e=true then 1 else 2),0)
theorem Ot.cw{O:NP}{bf be:Nat}{f:Fl}{e:El}{l:Tz}{es:List E3}{loc:Int}{w:World}(hF:FW w O bf be f e l es){k:TR [(true,K5),(false,[KI])]→WP}
  (h: ∀w',Ah w w'→k (dM (Amg f e l es loc).1,((Amg f e l es loc).2,()),()) w'):
  Ad prog F.Ot [.pointer (some ⟨bf,0,none⟩),iV loc] w true [(true,K5),(false,[KI])] k:=by
 refine Ot.ok ?_
 unfold Amg at h
 refine Ae λp1 w2 e1 k1 u1=>Gv.cw (hF.Ai u1) λw4 u4=>?_
 have l1:=k1.lt
 generalize wP f e es loc=Z at*
 have g4:=u1.trans u4
 refine dS (λc=>?_) λc=>?_
 ·have c:Z.2.2≠0:=c
  rw[if_pos c] at h
  refine(k1.Ai u4).E5 _ rfl rfl λw5 k5 u5=>k5.cA (dM (0,0,0,0,0)) rfl (h w5 (Ap.trans g4 u5 λi hi h=>by omega))
 have c:Z.2.2=0:=c
 rw[if_neg (λh=>h c)] at h
 rw[Ac]
 have F4:=hF.Ai g4
 refine F4.dN ?_
 obtain⟨r0,E4⟩:=F4.el
 refine Gx.cl E4 λw10 u10=>?_
 refine Ae λp11 w12 e11 k11 u12=>k11.E5 _ rfl rfl λw13 k13 u13=>?_
 have f13:Ah w10 w13:=Ah.fresh (Ah.refl _) u12 u13 e11
 have g13:=(g4.trans u10).trans f13
 have q13:=((k1.Ai u4).Ai u10).Ai f13
 have hne: ∀p,w13.drew.heap.size=p→p≠p1:=λp hp=>by have:w13.drew.heap.size=w13.heap.size:=rfl;have:=q13.lt;omega
 refine Bh.by (λz w'=>Ah w w'∧Ah w13 w'∧ ∃p,z.1=⟨p,0,none⟩∧p≠p1∧w.heap.size≤p∧Ar w' p (cA5 (Z.1,Z.2.1,e.root,(mkM e l).1,2))) ?_ ?_
 ·rw[Aq,Ac]
  have gd:Ah w w13.drew:=g13.trans (Ah.drew _)
  have FD:=hF.Ai gd
  have m13:=k13.drew
  have lo: ∀p,w13.drew.heap.size=p→w.heap.size≤p:=λp hp=>by have:=gd.size;omega
  refine FD.dN (m13.c0 rfl ?_)
  have hd: ∀{w':World},Ah w13.drew w'→w'.cell? ⟨p11,0,none⟩=some ((w13.drew.cell? ⟨p11,0,none⟩).getD undef)∧w'.cell? ⟨bf,0,none⟩=some ((w13.drew.cell? ⟨bf,0,none⟩).getD undef):=λu=>
   ⟨m13.hold u (λx=>x) 0 (by simp),FD.Aqi u (λx=>x)⟩
  refine⟨?_,?_⟩
  ·refine Bz.cw FD ⟨⟨(hd (Ah.refl _)).1,(hd (Ah.refl _)).2,trivial⟩,?_⟩
   refine Ae λp23 w24 e23 k23 u24=>⟨⟨(hd u24).1,(hd u24).2,trivial⟩,k23.E5 _ rfl rfl λw25 k25 u25=>⟨trivial,?_⟩⟩
   have g25:Ah w13.drew w25:=Ah.fresh (Ah.refl _) u24 u25 e23
   exact⟨gd.trans g25,(Ah.drew _).trans g25,p23,rfl,hne p23 e23,lo p23 e23,k25⟩
  ·refine Ae λp26 w27 e26 k26 u27=>⟨⟨(hd u27).1,(hd u27).2,trivial⟩,?_⟩
   refine Bz.cw (FD.Ai u27) ⟨⟨(hd u27).1,trivial⟩,k26.E5 _ rfl rfl λw30 k30 u30=>⟨trivial,?_⟩⟩
   have g30:Ah w13.drew w30:=Ah.fresh (Ah.refl _) u27 u30 e26
   exact⟨gd.trans g30,(Ah.drew _).trans g30,p26,rfl,hne p26 e26,lo p26 e26,k30⟩
 ·rintro⟨z,_⟩ w16 ⟨g16,f16,p,hz,hp,lp,kp⟩ _
  dsimp only at hz
  subst hz
  have F16:=hF.Ai g16
  rw[Ac]
  refine F16.dN (A8.cw F16 λw34 u34=>?_)
  have k34:=kp.Ai u34
  have q34:=(q13.Ai f16).Ai u34
  have g34:=g16.trans u34
  refine bQ (λc=>?_) λc=>?_
  ·have c:mine e=true:=c
   rw[if_pos c] at h
   refine k34.sN 4 _ (by simp[cA5]) rfl λw35 k35 u35=>?_
   change Ar w35 p (cA5 (Z.1,Z.2.1,e.root,(mkM e l).1,1)) at k35
   refine k35.cA (dM (Z.1,Z.2.1,e.root,(mkM e l).1,1)) rfl ((q34.upd u35 (λh=>hp h.symm)).E5 _ rfl rfl λw37 k37 u37=>k37.cA (dM (Z.1,Z.2.1,e.root,(mkM e l).1,1)) rfl ?_)
   exact h w37 (Ap.trans (Ap.trans g34 u35 λi hi h=>by omega) u37 λi hi h=>by omega)
  ·have c: ¬mine e=true:=by have c:mine e=false:=c;rw[c];simp
   rw[if_neg c] at h
   refine k34.cA (dM (Z.1,Z.2.1,e.root,(mkM e l).1,2)) rfl (q34.E5 _ rfl rfl λw37 k37 u37=>k37.cA (dM (Z.1,Z.2.1,e.root,(mkM e l).1,2)) rfl ?_)
   exact h w37 (Ap.trans g34 u37 λi hi h=>by omega)
def An6(s:So)(f:Fl)(e:El)(l:Tz)(es:List E3)(loc:Int):A5×Int:=if Xm f e es.length=true then Amg f e l es loc else tmS s loc
theorem Am.cw{b bf be:Nat}{O:NP}{s:So}{loc:Int}{f:Fl}{e:El}{l:Tz}{es:List E3}{w:World}(hB:Ar w b (soC s))(hF:FW w O bf be f e l es)
  {k:TR [(true,K5),(false,[KI])]→WP} (h: ∀w',Ah w w'→k (dM (An6 s f e l es loc).1,((An6 s f e l es loc).2,()),()) w'):
  Ad prog F.Am [.pointer (some ⟨b,0,none⟩),.pointer (some ⟨bf,0,none⟩),iV loc] w true [(true,K5),(false,[KI])] k:=by
 unfold An6 at h
 by_cases hs:Xm f e es.length=true
 ·rw[if_pos hs] at h
  refine Am.ok ?_
  refine Ae λp1 w2 e1 k1 u1=>?_
  refine Bh.by (λz w'=>w'=w2∧z.1=false) (Le rfl ⟨rfl,rfl⟩) ?_
  rintro⟨z,_⟩ _ ⟨rfl,hz⟩ _
  dsimp only at hz
  subst hz
  refine Le rfl (Az.cw (hF.Ai u1) λw9 u9=>We hs ?_)
  refine Ot.cw ((hF.Ai u1).Ai u9) (loc:=loc) λw11 u11=>?_
  generalize Amg f e l es loc=Z at*
  refine((k1.Ai u9).Ai u11).E5 _ rfl rfl λw12 k12 u12=>k12.cA (dM Z.1) rfl (h w12 ?_)
  exact Ap.trans ((u1.trans u9).trans u11) u12 λi hi h=>by omega
 ·rw[if_neg hs] at h
  obtain⟨r,q,hb⟩:=hF.b
  exact Am.cl0 hB hb (by cases c:Xm f e es.length;rfl;exact absurd c hs) h
def Aeq(s:So):So:=if s.has=false then s else if wrap .i64 (s.age+1)≥s.limit then⟨s.limit,(0,0,0),0,0,0,false⟩ else{s with age:=wrap .i64 (s.age+1)}
theorem Ie.cw{b:Nat}{s:So}{w:World}(hB:Ar w b (soC s)){k:TR []→WP}
  (h: ∀w',Ar w' b (soC (Aeq s))→Ap (λx=>x=b) w w'→k () w'):
  Ad prog F.Ie [.pointer (some ⟨b,0,none⟩)] w true [] k:=by
 refine Ie.ok ?_
 unfold Aeq at h
 refine Le rfl ?_
 rw[Ac]
 refine hB.c1 7 (c:=.b) (x:=s.has) rfl (En (λc=>?_) λc=>?_)
 ·have c:s.has=false:=c
  rw[if_pos c] at h;exact h w hB (Ap.refl _ _)
 have c: ¬s.has=false:=by have c:s.has=true:=c;rw[c];simp
 rw[if_neg c] at h
 rw[Ac]
 refine hB.i1 6 rfl ?_
 rw[Ac]
 refine hB.sN 6 _ (by simp[soC]) rfl λw6 k6 u6=>?_
 rw[Aq,Ac]
 have k6:Ar w6 b (soC {s with age:=wrap .i64 (s.age+1)}):=k6
 refine k6.drew.i1 6 rfl ?_
 rw[Ac]
 refine k6.drew.i0 rfl (Cf (λc=>?_) λc=>?_)
 ·have c:wrap .i64 (s.age+1)≥s.limit:=c
  rw[if_pos c] at h
  exact Fh.cl k6.drew λw13 k13 u13=>h w13 k13 (Ap.trans u6.drew u13 λ_ _ h=>h)
 ·have c: ¬wrap .i64 (s.age+1)≥s.limit:=c
  rw[if_neg c] at h
  exact h _ k6.drew u6.drew
def iT(s:So)(e:E3)(root boot:Int):So:=if tY e root=true then{s with e:=e,root:=root,boot:=boot,age:=0,has:=true} else s
end Go.Proofs.YtppeepkmnijdpaaGreatDoor
