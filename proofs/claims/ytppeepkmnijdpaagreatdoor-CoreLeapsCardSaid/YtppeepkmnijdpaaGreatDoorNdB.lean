import Derived.Test.YtppeepkmnijdpaaGreatDoorNdA
import Derived.Test.YtppeepkmnijdpaaGreatDoorEngY
namespace Go.Proofs.YtppeepkmnijdpaaGreatDoor
open Go Go.Eng Tryz
open Go.IntKind (wrap)
set_option linter.unusedSimpArgs false
set_option linter.unusedVariables false
set_option maxRecDepth 100000
set_option maxHeartbeats 8000000
theorem wQ(l:List Nat)(x:Nat):jE (l++[x])=jE l*256+x:=by unfold jE;rw[List.foldl_append];rfl
theorem Af4: ∀(l:List Nat),pG l→jE l<256^l.length:=by
 refine Ace ?_ ?_
 ·intro _;decide
 ·intro l x ih h
  have h1:=ih λy hy=>h y (List.mem_append_left _ hy)
  have h2:=h x (by simp)
  rw[wQ,List.length_append,List.length_singleton,Nat.pow_succ]
  omega
theorem pG.drop{l:List Nat}(h:pG l)(n:Nat):pG (l.drop n):=λx hx=>h x (List.mem_of_mem_drop hx)
theorem pG.take{l:List Nat}(h:pG l)(n:Nat):pG (l.take n):=λx hx=>h x (List.mem_of_mem_take hx)
theorem aT(s:Nat×Nat)(L:List (Nat×Nat)):mP (s::L)=s.1+mP L:=by
 unfold mP
 rw[List.foldl_cons]
 have: ∀(L:List (Nat×Nat)) (a b:Nat),L.foldl (λn x=>n+x.1) (a+b)=a+L.foldl (λn x=>n+x.1) b:=by
  intro L
  induction L with
  |nil=>intro a b;rfl
  |cons x L ih=>intro a b;rw[List.foldl_cons,List.foldl_cons,Nat.add_assoc,ih]
 rw[Nat.zero_add]
 exact this L s.1 0
theorem Acy(L:List (Nat×Nat)): ∀b,(U3 L b).length=L.length:=by
 induction L with
 |nil=>intro b;rfl
 |cons s L ih=>intro b;simp[U3,ih]
theorem qH: ∀(L:List (Nat×Nat)) (b:List Nat) (i:Nat) (s:Nat×Nat),L[i]? =some s→(U3 L b)[i]? =some (jE ((b.drop (mP (L.take i))).take s.1))
 |[],b,i,s,h=>by simp at h
 |t::L,b,0,s,h=>by simp at h;subst h;simp[U3,mP]
 |t::L,b,i+1,s,h=>by
  simp only[List.getElem?_cons_succ] at h
  have:=qH L (b.drop t.1) i s h
  simp only[U3,List.getElem?_cons_succ,List.take_succ_cons]
  rw[this,aT,List.drop_drop]
theorem Axl(a:Option Addr)(c:Nat):slA a c 0 1=a:=by
 unfold slA
 split
 ·rfl
 ·cases a<;>simp[add_zero']
theorem dC.pre{w:World}{s:Sl}{xs:List Nat}(h:dC w s xs){n c:Nat}(hn:n≤xs.length):dC w (slA s.1 s.2.2 0 1,n,c) (xs.take n):=by
 refine⟨by simp;omega,λhx=>?_⟩
 obtain⟨a,ha,hk⟩:=h.at_ (λe=>hx (by simp only[List.map_eq_nil_iff] at e⊢;rw[e];simp))
 refine⟨a,by rw[Axl];exact ha,λk v hv=>hk k v ?_⟩
 rw[List.getElem?_map,List.getElem?_take] at hv
 split at hv
 ·rw[List.getElem?_map];exact hv
 ·cases hv
abbrev RSB:List (Bool×List CK):=[(false,[.sl]),(false,[.b])]
theorem Yl.cl{xs:List Nat}(hx:pG xs){b:Sl}{w:World}(hR:dC w b xs)(hc:b.2.1≤b.2.2)(h2:2≤xs.length)(hl:xs.length≤1000){k:TR RSB→WP}
  (h: ∀(y:Sl) w',Ah w w'→k ((y,()),(decide (Xi 65535 xs=0),()),()) w'):Ad prog F.Yl [.slice b.1 b.2.1 b.2.2] w true RSB k:=by
 refine Yl.ok (b:=b) ?_
 have hn:=hR.len'
 refine Cf (λc=>absurd (show(b.2.1:Int)<2 from c) (by omega)) λ_=>Xy.cl hx hR (by omega) (dS (λc=>?_) λc=>?_)
 ·have c:((Xi 65535 xs:Nat):Int)≠0:=c
  have:=h (none,0,0) w (Ah.refl _)
  rw[decide_eq_false (by omega)] at this
  exact this
 ·have c:((Xi 65535 xs:Nat):Int)=0:=c
  rw[Af (n:=(b.2.1:Int)-2) (by unfold I64;omega),nG (by omega)]
  have e0:Int.toNat 0=0:=rfl
  have e1:Int.toNat ((b.2.1:Int)-2)-Int.toNat 0=xs.length-2:=by omega
  rw[e0] at e1⊢
  rw[e1]
  refine S9 (s:=(none,0,0)) (x:=(slA b.1 b.2.2 0 1,xs.length-2,b.2.2-0)) (base:=0) (e:=T.uint8) (size:=1) (n:=0) (xs:=[]) (news:=uY (xs.take (xs.length-2))) (by kernel_rfl) (by kernel_rfl) (by decide) (Dp.nil _ _ _ _) (dC.pre hR (by omega)) (gY _) (by show 0+(xs.length-2)≤1000000000;omega) (by omega) λy w' o u hb=>?_
  have:=h y w' (u.mono λz ⟨a,ha,_⟩=>by cases ha)
  rw[decide_eq_true (by omega)] at this
  exact this
structure pM(w:World)(p:Nat)(y:Sl)(xs:List Nat)(i:Nat):Prop where
 b:Ar w p [Uz y,iV (i:Int)]
 r:dC w y xs
 ne: ∀a,y.1=some a→a.block≠p
theorem pM.upd{S:NP}{w w':World}{p:Nat}{y:Sl}{xs:List Nat}{i:Nat}(h:pM w p y xs i)(u:Ap S w w')(h1: ¬S p)(h2: ∀a,y.1=some a→ ¬S a.block):pM w' p y xs i:=⟨h.b.upd u h1,Row.upd h.r u h2,h.ne⟩
theorem pM.Ai{w w':World}{p:Nat}{y:Sl}{xs:List Nat}{i:Nat}(h:pM w p y xs i)(u:Ah w w'):pM w' p y xs i:=h.upd u (λx=>x) λ_ _ x=>x
abbrev RPp:List (Bool×List CK):=[(false,[.p])]
theorem Y2.cl{xs:List Nat}{b:Sl}{w:World}(hR:dC w b xs)(hl:xs.length≤1000){k:TR RPp→WP}
  (h: ∀p y w',w.heap.size≤p→pM w' p y xs 0→(∀a,y.1=some a→w.heap.size≤a.block)→Ah w w'→k ((some ⟨p,0,none⟩,()),()) w'):Ad prog F.Y2 [.slice b.1 b.2.1 b.2.2] w false RPp k:=by
 refine Y2.ok (b:=b) ?_
 have hn:=hR.len'
 refine S9 (s:=(none,0,0)) (x:=b) (base:=w.heap.size) (e:=T.uint8) (size:=1) (n:=0) (xs:=[]) (news:=uY xs) (by kernel_rfl) (by kernel_rfl) (by decide) (Dp.nil _ _ _ _) hR (gY _) (by omega) (Nat.le_refl _) λy w2 o u hb=>?_
 have g2:Ah w w2:=u.mono λz ⟨a,ha,_⟩=>by cases ha
 have o:Dp w2 w.heap.size T.uint8 1 y (0+b.2.1) ([]++uY xs):=o
 refine Ae λp w4 e4 k4 u4=>h p y w4 (by have:=g2.size;omega) ⟨k4,?_,λa ha=>?_⟩ (λa ha=>(o.blk ha).1) (g2.trans u4)
 ·have:=(o.Ai u4).row
  rwa [List.nil_append] at this
 ·have:=(o.blk ha).2.1;omega
abbrev RUB:List (Bool×List CK):=[(false,[.i .u64]),(false,[.b])]
theorem N7.cl{p:Nat}{y:Sl}{xs:List Nat}{i:Nat}{w:World}(hE:pM w p y xs i)(hl:xs.length≤1000)(hi:i≤xs.length){k:TR Kt→WP}(h: ∀w',Ah w w'→k (((xs.length:Int)-(i:Int),()),()) w'):Ad prog F.N7 [.pointer (some ⟨p,0,none⟩)] w false Kt k:=by
 refine N7.ok ?_
 have hn:=hE.r.len'
 refine Le rfl ?_
 rw[Aq,Ac]
 refine hE.b.drew.c0 (c:=.sl) (x:=y) rfl ?_
 rw[Ac]
 refine hE.b.drew.c1 1 (c:=KI) (x:=(i:Int)) rfl ?_
 rw[Af (n:=(y.2.1:Int)-(i:Int)) (by unfold I64;omega),hn]
 exact h _ (Ah.drew _)
theorem Au0(z:Int):Ib .u64 z 8=wrap .u64 (z*256):=by simp[Ib,IntKind.bits]
theorem Ku.cl{p:Nat}{y:Sl}{xs:List Nat}{i n:Nat}{z:Int}(hz:z=n)(h8:n≤8)(hx:pG xs)(hl:xs.length≤1000)(hi:i≤xs.length){w:World}(hE:pM w p y xs i){k:TR RUB→WP}
  (h0:xs.length<i+n→ ∀w',Ah w w'→k ((0,()),(false,()),()) w')
  (h1:i+n≤xs.length→ ∀w',pM w' p y xs (i+n)→Ap (λz=>z=p) w w'→k ((((jE ((xs.drop i).take n):Nat):Int),()),(true,()),()) w'):Ad prog F.Ku [.pointer (some ⟨p,0,none⟩),iV z] w true RUB k:=by
 subst hz
 refine Ku.ok ?_
 refine Cf (λc=>absurd (show(n:Int)<0 from c) (by omega)) λ_=>Cf (λc=>absurd (show(n:Int)>8 from c) (by omega)) λ_=>N7.cl hE hl hi λw2 u2=>Cf (λc=>h0 (by have c:(n:Int)>(xs.length:Int)-(i:Int):=c;omega) w2 u2) λc=>?_
 have c: ¬(n:Int)>(xs.length:Int)-(i:Int):=c
 have hin:i+n≤xs.length:=by omega
 have h1:=h1 hin
 have E2:=hE.Ai u2
 refine Aw.by (λz W=> ∃j:Nat,j≤n∧z=(((jE ((xs.drop i).take j):Nat):Int),(j:Int),())∧pM W p y xs (i+j)∧Ap (λz=>z=p) w W) (λz=>(10-z.2.1).toNat) ⟨0,by omega,rfl,E2,Ap.Ed u2⟩ ?_
 rintro z W ⟨j,hj,rfl,hW,hU⟩ _
 refine Cf (λc=>?_) λc=>?_
 ·have c:(j:Int)<(n:Int):=c
  have hjl:i+j<xs.length:=by omega
  have hn:=hW.r.len'
  rw[Aq,Nj (by decide),Ac]
  have hb:=hW.b.drew
  refine hb.c0 (c:=.sl) (x:=y) rfl ?_
  rw[Ac]
  refine hb.c1 1 (c:=KI) (x:=((i+j:Nat):Int)) rfl ?_
  have hc:(uY xs)[i+j]? =some (.int .u8 ((xs[i+j]:Nat):Int)):=Afr (List.getElem?_eq_getElem hjl)
  have hr:=Row.Ai hW.r (Ah.drew W)
  refine hr.ixc (c:=.i .u8) (z:=((i+j:Nat):Int)) (x:=((xs[i+j]:Nat):Int)) rfl hc rfl ?_
  rw[Ac]
  refine hb.c1 1 (c:=KI) (x:=((i+j:Nat):Int)) rfl ?_
  rw[Ac]
  refine hb.sN 1 [_] (by simp) rfl λw16 k16 u16=>⟨⟨j+1,by omega,?_,⟨?_,?_,hW.ne⟩,?_⟩,?_⟩
  ·have hbt:=Af4 ((xs.drop i).take j) ((hx.drop i).take j)
   have hlen:((xs.drop i).take j).length≤7:=by rw[List.length_take];omega
   have hp:256^((xs.drop i).take j).length≤256^7:=Nat.pow_le_pow_right (by decide) hlen
   have h7:(256:Nat)^7=72057594037927936:=by decide
   have hx1:=hx xs[i+j] (List.getElem_mem _)
   have e:(xs.drop i).take (j+1)=(xs.drop i).take j++[xs[i+j]]:=by
    rw[List.take_add_one,List.getElem?_drop,List.getElem?_eq_getElem hjl];rfl
   rw[e,wQ]
   generalize jE ((xs.drop i).take j)=G at*
   generalize xs[i+j]=x at*
   show(Ez .or .u64 (Ib .u64 (G:Int) 8) (wrap .u64 (x:Int)),wrap .i64 ((j:Int)+1),())=_
   rw[Au0,I9 (n:=(G:Int)*256) (by unfold Tn;omega),I9 (n:=(x:Int)) (by unfold Tn;omega),Akt 8 (by unfold Tn;omega) (by omega) (by omega) (by omega) (by unfold Tn;omega),Af (by unfold I64;omega)]
   congr 1
  ·have e:wrap .i64 (((i+j:Nat):Int)+1)=((i+(j+1):Nat):Int):=by rw[Af (by unfold I64;omega)];omega
   have k16:Ar w16 p [Uz y,iV (wrap .i64 (((i+j:Nat):Int)+1))]:=k16
   rw[e] at k16;exact k16
  ·exact Row.upd hr u16 λa ha e=>hW.ne a ha e
  ·exact Ap.trans (hU.Ai (Ah.drew W)) u16 λz _ hz=>hz
  ·show(10-wrap .i64 ((j:Int)+1)).toNat<(10-(j:Int)).toNat
   rw[Af (by unfold I64;omega)];omega
 ·have c: ¬(j:Int)<(n:Int):=c
  have:j=n:=by omega
  subst this
  exact h1 W hW hU
theorem Ao0{x:Int×Int}:okF (flD x)=true↔(0≤x.1∧x.1≤63)∧0≤x.2∧x.2≤63:=by simp[okF,flD,aI]
theorem Jj.cl{b:Nat}{me lev par:Int}{x:Int×Int}{w:World}(hB:Ar w b (lvC me lev par)){k:TR Vl→WP}
  (h: ∀w',Ar w' b (lvC me (V4 me lev par x).1.1 (V4 me lev par x).1.2)→Ap (λz=>z=b) w w'→k (((V4 me lev par x).2,()),()) w'):Ad prog F.Jj [.pointer (some ⟨b,0,none⟩),.agg #[iV x.1,iV x.2]] w false Vl k:=by
 refine Jj.ok (f0:=x.1) (f1:=x.2) ?_
 have h: ∀r,V4 me lev par x=r→ ∀w',Ar w' b (lvC me r.1.1 r.1.2)→Ap (λz=>z=b) w w'→k ((r.2,()),()) w':=λr e=>by subst e;exact h
 have lb:=hB.lt
 refine Ae λp1 w2 e1 k1 u1=>?_
 rw[Aq]
 have k3:=k1.drew
 have g3:=u1.trans (Ah.drew w2)
 refine Le rfl (k3.cA (cs:=[KI,KI]) (x.1,x.2,()) rfl (uK (x:=x) λw6 u6=>⟨⟨k3.hold u6 (λx=>x) 0 (by simp),k3.hold u6 (λx=>x) 1 (by simp),trivial⟩,?_⟩))
 have g6:=g3.trans u6
 have B6:=hB.Ai g6
 have k6:=k3.Ai u6
 have U6:Ap (λz=>z=b) w w6:=Ap.Ed g6
 refine En (λc=>h ((lev,par),false) (by unfold V4;rw[if_pos (.inl c)]) w6 B6 U6) λc=>?_
 have c:okF (flD x)=true:=c
 obtain⟨c1,c2⟩:=Ao0.1 c
 refine k6.c0 (c:=KI) (x:=x.1) rfl ?_
 rw[Ac]
 refine B6.c0 (c:=KI) (x:=me) rfl (Vh (λe=>h ((lev,par),false) (by unfold V4;rw[if_pos (.inr e)]) w6 B6 U6) λhme=>?_)
 have hme:x.1≠me:=hme
 have n0: ¬(okF (flD x)=false∨x.1=me):=by rw[c];rintro(h|h);cases h;exact hme h
 refine k6.c1 1 (c:=KI) (x:=x.2) rfl ?_
 have ew:wrap .i64 (x.2+1)=x.2+1:=Af (by unfold I64;omega)
 dsimp only
 rw[ew]
 refine Bh.by (λ_ W=>Ah w6 W∧ ¬(x.1=par∧x.2+1>63)∧ ¬(x.2+1>63∨(x.1≠par∧lev≥0∧x.2+1≥lev)∨(x.1=par∧x.2+1=lev))) ?_ ?_
 ·refine Bh.by (λz W=>Ah w6 W∧z=(decide (x.1=par∧x.2+1>63),())) ?_ ?_
  ·rw[Aq]
   refine k6.drew.c0 (c:=KI) (x:=x.1) rfl ?_
   rw[Ac]
   refine B6.drew.c1 2 (c:=KI) (x:=par) rfl (Vh (λe=>⟨Ah.drew _,?_⟩) λe=>⟨Ah.drew _,?_⟩)
   ·have e:x.1=par:=e
    simp[e]
   ·have e: ¬x.1=par:=e
    simp[e]
  ·rintro z W ⟨gW,rfl⟩ _
   have BW:=B6.Ai gW
   have kW:=k6.Ai gW
   refine Cf (λc3=>?_) λc3=>?_
   ·refine Ey.cl BW λw22 k22 u22=>h ((-1,-1),true) (by unfold V4;rw[if_neg n0,if_pos c3]) w22 k22 (Ap.trans (U6.Ai gW) u22 λ_ _ x=>x)
   ·rw[Aq]
    have Bd:=BW.drew
    have kd:=kW.drew
    have Ud:Ap (λz=>z=b) w W.drew:=(U6.Ai gW).Ai (Ah.drew W)
    have gd:Ah w6 W.drew:=gW.trans (Ah.drew W)
    have no:(x.2+1>63∨(x.1≠par∧lev≥0∧x.2+1≥lev)∨(x.1=par∧x.2+1=lev))→k ((false,()),()) W.drew:=λc=>h ((lev,par),false) (by unfold V4;rw[if_neg n0,if_neg c3,if_pos c]) W.drew Bd Ud
    refine Cf (λc4=>no (.inl c4)) λc4=>?_
    have c4: ¬x.2+1>63:=c4
    refine kd.c0 (c:=KI) (x:=x.1) rfl ?_
    rw[Ac]
    refine Bd.c1 2 (c:=KI) (x:=par) rfl (dS (λc5=>?_) λc5=>?_)
    ·have c5:x.1≠par:=c5
     rw[Ac]
     have last: ¬(lev≥0∧x.2+1≥lev)→Ah w6 W.drew∧ ¬(x.1=par∧x.2+1>63)∧ ¬(x.2+1>63∨(x.1≠par∧lev≥0∧x.2+1≥lev)∨(x.1=par∧x.2+1=lev)):=λh=>⟨gd,c3,by omega⟩
     refine Bd.c1 1 (c:=KI) (x:=lev) rfl (Cf (λc6=>?_) λc6=>?_)
     ·have c6:lev≥0:=c6
      rw[Ac]
      refine Bd.c1 1 (c:=KI) (x:=lev) rfl (Cf (λc7=>no (.inr (.inl ⟨c5,c6,c7⟩))) λc7=>?_)
      have c7: ¬x.2+1≥lev:=c7
      refine kd.c0 (c:=KI) (x:=x.1) rfl ?_
      rw[Ac]
      exact Bd.c1 2 (c:=KI) (x:=par) rfl (Vh (λe=>absurd e c5) λ_=>last (by omega))
     ·have c6: ¬lev≥0:=c6
      refine kd.c0 (c:=KI) (x:=x.1) rfl ?_
      rw[Ac]
      exact Bd.c1 2 (c:=KI) (x:=par) rfl (Vh (λe=>absurd e c5) λ_=>last (by omega))
    ·have c5:x.1=par:=c5
     refine kd.c0 (c:=KI) (x:=x.1) rfl ?_
     rw[Ac]
     refine Bd.c1 2 (c:=KI) (x:=par) rfl (Vh (λ_=>?_) λe=>absurd c5 e)
     rw[Ac]
     refine Bd.c1 1 (c:=KI) (x:=lev) rfl (Vh (λc6=>no (.inr (.inr ⟨c5,c6⟩))) λc6=>⟨gd,c3,?_⟩)
     have c6:x.2+1≠lev:=c6
     omega
 ·rintro _ W ⟨gW,n1,n2⟩ _
  rw[Aq]
  have Bd:=(B6.Ai gW).drew
  have kd:=(k6.Ai gW).drew
  refine kd.c0 (c:=KI) (x:=x.1) rfl ?_
  rw[Ac]
  have hne:p1≠b:=by omega
  refine Bd.sN 1 [_] (by simp) rfl λw49 k49 u49=>⟨⟨kd.hold u49 hne 0 (by simp),trivial⟩,?_⟩
  rw[Ac]
  refine k49.sN 2 [_] (by simp[splice]) rfl λw51 k51 u51=>⟨trivial,?_⟩
  exact h ((x.2+1,x.1),true) (by unfold V4;rw[if_neg n0,if_neg n1,if_neg n2]) w51 k51 (Ap.trans (Ap.trans ((U6.Ai gW).Ai (Ah.drew W)) u49 λ_ _ x=>x) u51 λ_ _ x=>x)
abbrev RFB:List (Bool×List CK):=[(true,[KI,KI]),(false,[.b])]
theorem Js.cl{b:Nat}{me lev par:Int}{its:Bool}{w:World}(hB:Ar w b (lvC me lev par)){k:TR RFB→WP}
  (h: ∀w',Ah w w'→k (if its=true then((me,0,()),(true,()),()) else if lev<0 then((0,0,()),(false,()),()) else((me,lev,()),(true,()),())) w'):Ad prog F.Js [.pointer (some ⟨b,0,none⟩),.bool its] w true RFB k:=by
 refine Js.ok ?_
 refine Ae λp1 w2 e1 k1 u1=>Le rfl (bQ (λc=>?_) λc=>?_)
 ·rw[if_pos c] at h
  rw[Ac]
  exact(hB.Ai u1).c0 (c:=KI) (x:=me) rfl (k1.E5 [_,_] rfl rfl λw7 k7 u7=>k7.ld2 (h w7 (Ah.fresh (Ah.refl _) u1 u7 e1)))
 ·rw[if_neg (by rw[c];decide)] at h
  rw[Ac]
  refine(hB.Ai u1).c1 1 (c:=KI) (x:=lev) rfl (Cf (λc=>?_) λc=>?_)
  ·have c:lev<0:=c
   rw[if_pos c] at h
   exact k1.E5 [_,_] rfl rfl λw7 k7 u7=>k7.ld2 (h w7 (Ah.fresh (Ah.refl _) u1 u7 e1))
  ·have c: ¬lev<0:=c
   rw[if_neg c] at h
   rw[Aq,Ac]
   have Bd:=(hB.Ai u1).drew
   refine Bd.c0 (c:=KI) (x:=me) rfl ?_
   rw[Ac]
   exact Bd.c1 1 (c:=KI) (x:=lev) rfl (k1.drew.E5 [_,_] rfl rfl λw7 k7 u7=>⟨trivial,k7.ld2 (h w7 (Ah.fresh (Ah.refl _) (u1.trans (Ah.drew w2)) u7 e1))⟩)
abbrev Aof:List (Bool×List CK):=[(true,[KI,KI,KI]),(false,[.b])]
theorem P5.cl{b:Nat}{p:Pr}{to loc:Int}{w:World}(hB:Ar w b (prC p)){k:TR Aof→WP}
  (h0:Yu p to loc=false→ ∀w',Ah w w'→k ((0,0,0,()),(false,()),()) w')
  (h1:Yu p to loc=true→ ∀w',Ar w' b (prC {p with waits:=true,waited:=0,to:=to,sent:=loc})→Ap (λz=>z=b) w w'→k ((p.me,to,loc,()),(true,()),()) w'):Ad prog F.P5 [.pointer (some ⟨b,0,none⟩),iV to,iV loc] w true Aof k:=by
 refine P5.ok ?_
 have lb:=hB.lt
 refine Ae λp1 w2 e1 k1 u1=>Le rfl ?_
 rw[Ac]
 refine(hB.Ai u1).c0 (c:=KI) (x:=p.me) rfl (Ae λp7 w8 e7 k7 u8=>k7.E5 [_,_,_] rfl rfl λw9 k9 u9=>?_)
 have l1:=k1.lt
 have f9:Ah w2 w9:=Ah.fresh (Ah.refl _) u8 u9 e7
 have g9:=u1.trans f9
 have B9:=hB.Ai g9
 have q9:=k1.Ai f9
 have no:Yu p to loc=false→ ∀w',Ah w9 w'→Au [iV 0,iV 0,iV 0] ⟨p1,0,none⟩ 0 w' λw12=>Bc [KI,KI,KI] ⟨p1,0,none⟩ 0 w12 λx13=>k ((x13.1,x13.2.1,x13.2.2.1,()),(false,()),()) w12:=λhf w' g=>
  (q9.Ai g).E5 [_,_,_] rfl rfl λw12 k12 u12=>k12.Xd (h0 hf w12 (Ah.fresh (Ah.refl _) (u1.trans (f9.trans g)) u12 e1))
 rw[Ac]
 refine B9.c1 3 (c:=.b) (x:=p.waits) rfl (bQ (λc=>no (by unfold Yu;have c:p.waits=true:=c;rw[c];rfl) w9 (Ah.refl _)) λcw=>?_)
 have cw:p.waits=false:=cw
 rw[Ac]
 refine B9.c1 6 (c:=KI) (x:=p.rest) rfl (Cf (λc=>no (by unfold Yu;have c:p.rest>0:=c;rw[decide_eq_true c];simp) w9 (Ah.refl _)) λcr=>?_)
 have cr: ¬p.rest>0:=cr
 rw[Ac]
 refine B9.c0 (c:=KI) (x:=p.me) rfl (Vh (λc=>no (by unfold Yu;have c:to=p.me:=c;rw[c];simp) w9 (Ah.refl _)) λcm=>?_)
 have cm:to≠p.me:=cm
 refine k9.Xd (nC (x:=(p.me,to,loc)) λw24 u24=>En (λc=>no (by unfold Yu;have c:okF (flU (p.me,to,loc))=false:=c;rw[c];simp) w24 u24) λcf=>?_)
 have cf:okF (flU (p.me,to,loc))=true:=cf
 have h1:=h1 (by unfold Yu;rw[cw,cf,decide_eq_false cr,beq_eq_false_iff_ne.2 cm];rfl)
 have B24:=B9.Ai u24
 have k24:=k9.Ai u24
 have n7:p7≠b:=by omega
 have n1:p1≠b:=by omega
 rw[Ac]
 refine B24.sN 3 [_] (by simp) rfl λw28 k28 u28=>?_
 rw[Ac]
 refine k28.sN 4 [_] (by simp[splice]) rfl λw30 k30 u30=>?_
 rw[Ac]
 refine k30.sN 1 [_] (by simp[splice]) rfl λw32 k32 u32=>?_
 rw[Ac]
 refine k32.sN 2 [_] (by simp[splice]) rfl λw34 k34 u34=>?_
 have U34:Ap (λz=>z=b) w24 w34:=Ap.trans (Ap.trans (Ap.trans u28 u30 λ_ _ x=>x) u32 λ_ _ x=>x) u34 λ_ _ x=>x
 refine(k24.upd U34 n7).Xd (((q9.Ai u24).upd U34 n1).E5 [_,_,_] rfl rfl λw36 k36 u36=>k36.Xd (h1 w36 ?_ ?_))
 ·exact k34.upd u36 (λe=>n1 e.symm)
 ·exact Ap.new (Ap.trans (Ap.Ed (g9.trans u24)) U34 λ_ _ x=>x) u36 λh=>by omega
theorem Ar3{l:List Int}{n i:Nat}{ix v:Int}(hi:ix=i)(hn:i<n)(hv:l[i]? =some v){k:Int→Prop}(hk:k v):aiK l n ix k:=by
 subst hi
 unfold aiK
 rw[if_pos (by omega),Int.toNat_natCast,hv]
 exact hk
theorem H5.cl{a b c d:Int}{w:World}{k:TR Vl→WP}(h: ∀w',Ah w w'→k ((tsG a b c d,()),()) w'):Ad prog F.H5 [.agg #[iV a,iV b,iV c,iV d]] w false Vl k:=by
 refine H5.ok ?_
 refine Ae λp1 w2 e1 k1 u1=>?_
 have h:=h w2 u1
 refine k1.c0 (c:=KI) (x:=a) rfl (k1.c1 1 (c:=KI) (x:=b) rfl (k1.c1 2 (c:=KI) (x:=c) rfl (k1.c1 3 (c:=KI) (x:=d) rfl ?_)))
 refine Aw.by (λz W=>W=w2∧ ∃i:Nat,z=((i:Int),())∧i≤4∧ ∀j v,j<i→[a,b,c,d][j]? =some v→inT v=true) (λz=>(10-z.1).toNat) ⟨rfl,0,rfl,by omega,λj v hj=>by omega⟩ ?_
 rintro z W ⟨rfl,i,rfl,hi,hg⟩ _
 refine Cf (λq=>?_) λq=>?_
 ·have q:(i:Int)<4:=q
  have hil:i<[a,b,c,d].length:=by show i<4;omega
  obtain⟨v,hv⟩: ∃v,[a,b,c,d][i]? =some v:=⟨_,List.getElem?_eq_getElem hil⟩
  refine Ar3 (i:=i) rfl (by omega) hv ?_
  have out:inT v=false→k ((false,()),()) W:=λhf=>by
   have e:tsG a b c d=false:=by
    unfold tsG
    have:i=0∨i=1∨i=2∨i=3:=by omega
    rcases this with rfl|rfl|rfl|rfl<;>simp at hv<;>subst hv<;>rw[hf]<;>simp
   rw[e] at h;exact h
  refine Cf (λc1=>out (fK (.inl c1))) λc1=>Cf (λc2=>out (fK (.inr c2))) λc2=>⟨⟨rfl,i+1,?_,by omega,?_⟩,?_⟩
  ·show(wrap .i64 ((i:Int)+1),())=_
   rw[Af (by unfold I64;omega)];rfl
  ·intro j u hj hu
   by_cases hji:j=i
   ·subst hji
    rw[hv] at hu
    injection hu with hu
    subst hu
    have c1: ¬v<0:=c1
    have c2: ¬v>1125899906842624:=c2
    exact kX.2 ⟨by omega,by omega⟩
   ·exact hg j u (by omega) hu
  ·show(10-wrap .i64 ((i:Int)+1)).toNat<(10-(i:Int)).toNat
   rw[Af (by unfold I64;omega)];omega
 ·have q: ¬(i:Int)<4:=q
  have:i=4:=by omega
  subst this
  refine k1.c1 3 (c:=KI) (x:=d) rfl (k1.c0 (c:=KI) (x:=a) rfl ?_)
  have e:tsG a b c d=decide (d≥a):=by
   unfold tsG
   rw[hg 0 a (by omega) rfl,hg 1 b (by omega) rfl,hg 2 c (by omega) rfl,hg 3 d (by omega) rfl];rfl
  rw[e] at h;exact h
theorem Apy{a b c d:Int}:tsG a b c d=true↔(0≤a∧a≤1125899906842624)∧(0≤b∧b≤1125899906842624)∧(0≤c∧c≤1125899906842624)∧(0≤d∧d≤1125899906842624)∧d≥a:=by
 unfold tsG inT;simp[and_assoc]
def Ai9(a b c d:Int):Int:=if tsG a b c d=true then(b-a+c-d)/2 else 0
theorem Gg.cl{a b c d:Int}{w:World}{k:TR Kt→WP}(h: ∀w',Ah w w'→k ((Ai9 a b c d,()),()) w'):Ad prog F.Gg [.agg #[iV a,iV b,iV c,iV d]] w false Kt k:=by
 refine Gg.ok ?_
 refine Ae λp1 w2 e1 k1 u1=>k1.cA (cs:=[KI,KI,KI,KI]) (a,b,c,d,()) rfl (H5.cl λw5 u5=>?_)
 have g5:=u1.trans u5
 have k5:=k1.Ai u5
 refine En (λq=>?_) λq=>?_
 ·have q:tsG a b c d=false:=q
  have:=h w5 g5
  unfold Ai9 at this
  rw[if_neg (by rw[q];decide)] at this
  exact this
 ·have q:tsG a b c d=true:=q
  obtain⟨q1,q2,q3,q4,q5⟩:=Apy.1 q
  refine k5.c1 1 (c:=KI) (x:=b) rfl (k5.c0 (c:=KI) (x:=a) rfl (k5.c1 2 (c:=KI) (x:=c) rfl (k5.c1 3 (c:=KI) (x:=d) rfl ?_)))
  rw[Af (n:=b-a) (by unfold I64;omega),Af (n:=b-a+c) (by unfold I64;omega),Af (n:=b-a+c-d) (by unfold I64;omega)]
  refine Jm.cl (by unfold I64;omega) (by decide) λw11 u11=>?_
  have:=h w11 (g5.trans u11)
  unfold Ai9 at this
  rw[if_pos q] at this
  have e:fD (b-a+c-d) 2=(b-a+c-d)/2:=by unfold fD;rw[if_neg (by decide)]
  rw[e];exact this
theorem Oe.cl{b:Nat}{p:Pr}{w:World}(hB:Ar w b (prC p))(hg:PrG p){k:TR Vl→WP}
  (h: ∀w',Ar w' b (prC (Xh p))→Ap (λz=>z=b) w w'→k ((Wh p,()),()) w'):Ad prog F.Oe [.pointer (some ⟨b,0,none⟩)] w false Vl k:=by
 refine Oe.ok ?_
 obtain⟨g1,g2,g3,g4⟩:=hg
 have h: ∀q v,Xh p=q→Wh p=v→ ∀w',Ar w' b (prC q)→Ap (λz=>z=b) w w'→k ((v,()),()) w':=λq v e1 e2=>by subst e1 e2;exact h
 refine Le rfl ?_
 rw[Ac]
 refine hB.c1 3 (c:=.b) (x:=p.waits) rfl (En (λcw=>?_) λcw=>?_)
 ·have cw:p.waits=false:=cw
  rw[Ac]
  refine hB.c1 6 (c:=KI) (x:=p.rest) rfl ?_
  dsimp only
  rw[Af (n:=p.rest-1) (by unfold I64;omega),Ac]
  refine hB.sN 6 [_] (by simp) rfl λw6 k6 u6=>h {p with rest:=max (p.rest-1) 0} false (by unfold Xh;rw[if_pos cw]) (by unfold Wh;rw[cw];rfl) w6 ?_ u6
  have e:(if(0:Int)>p.rest-1 then 0 else p.rest-1)=max (p.rest-1) 0:=by omega
  rw[e] at k6;exact k6
 ·have cw:p.waits=true:=cw
  have nw: ¬p.waits=false:=by rw[cw];decide
  have hw1:=g4 cw
  rw[Ac]
  refine hB.c1 4 (c:=KI) (x:=p.waited) rfl ?_
  dsimp only
  rw[Af (n:=p.waited+1) (by unfold I64;omega),Ac]
  refine hB.sN 4 [_] (by simp) rfl λw10 k10 u10=>?_
  change Ar w10 b (prC {p with waited:=p.waited+1}) at k10
  rw[Ac]
  refine k10.c1 4 (c:=KI) (x:=p.waited+1) rfl (Cf (λc=>?_) λc=>?_)
  ·have c:p.waited+1<2:=c
   exact h _ false (by unfold Xh;rw[if_neg nw,if_pos c]) (by unfold Wh;rw[cw,decide_eq_false (show¬p.waited+1≥2 by omega)];rfl) w10 k10 u10
  ·have c: ¬p.waited+1<2:=c
   rw[Ac]
   refine k10.sN 3 [_] (by simp) rfl λw14 k14 u14=>?_
   change Ar w14 b (prC {p with waited:=p.waited+1,waits:=false}) at k14
   rw[Ac]
   refine k14.c1 5 (c:=KI) (x:=p.tries) rfl ?_
   rw[Af (n:=p.tries+1) (by unfold I64;omega),Ac]
   refine k14.sN 5 [_] (by simp) rfl λw18 k18 u18=>?_
   change Ar w18 b (prC {p with waited:=p.waited+1,waits:=false,tries:=p.tries+1}) at k18
   rw[Ac]
   refine k18.c1 5 (c:=KI) (x:=p.tries+1) rfl ?_
   rw[Nj (show(0:Int)≤p.tries+1 by omega),Ac]
   have hs:wrap .i64 (Ib .i64 1 (p.tries+1)-1)=if p.tries+1=1 then 1 else if p.tries+1=2 then 3 else 7:=by
    have:p.tries=0∨p.tries=1∨p.tries=2:=by omega
    rcases this with e|e|e<;>rw[e]<;>decide+kernel
   rw[hs]
   refine k18.sN 6 [_] (by simp) rfl λw22 k22 u22=>?_
   have U22:Ap (λz=>z=b) w w22:=Ap.trans (Ap.trans (Ap.trans u10 u14 λ_ _ x=>x) u18 λ_ _ x=>x) u22 λ_ _ x=>x
   change Ar w22 b (prC {p with waited:=p.waited+1,waits:=false,tries:=p.tries+1,rest:=if p.tries+1=1 then 1 else if p.tries+1=2 then 3 else 7}) at k22
   rw[Ac]
   refine k22.c1 5 (c:=KI) (x:=p.tries+1) rfl (Cf (λc3=>?_) λc3=>?_)
   ·have c3:p.tries+1<3:=c3
    refine h {p with waited:=p.waited+1,waits:=false,tries:=p.tries+1,rest:=if p.tries+1=1 then 1 else 3} false (by unfold Xh;rw[if_neg nw,if_neg c,if_pos c3]) (by unfold Wh;rw[cw,decide_eq_false (show¬p.tries+1≥3 by omega)];simp) w22 ?_ U22
    have e:(if p.tries+1=1 then(1:Int) else if p.tries+1=2 then 3 else 7)=if p.tries+1=1 then 1 else 3:=by
     split
     ·rfl
     ·rw[if_pos (by omega)]
    rw[e] at k22;exact k22
   ·have c3: ¬p.tries+1<3:=c3
    rw[Ac]
    refine k22.sN 5 [_] (by simp) rfl λw26 k26 u26=>?_
    change Ar w26 b (prC {p with waited:=p.waited+1,waits:=false,tries:=0,rest:=if p.tries+1=1 then 1 else if p.tries+1=2 then 3 else 7}) at k26
    rw[Ac]
    refine k26.sN 6 [_] (by simp) rfl λw28 k28 u28=>?_
    exact h {p with waited:=p.waited+1,waits:=false,tries:=0,rest:=0} true (by unfold Xh;rw[if_neg nw,if_neg c,if_neg c3]) (by unfold Wh;rw[cw,decide_eq_true (show p.waited+1≥2 by omega),decide_eq_true (show p.tries+1≥3 by omega)];rfl) w28 k28 (Ap.trans (Ap.trans U22 u26 λ_ _ x=>x) u28 λ_ _ x=>x)
theorem Apj{r:R8}:okF (flR r)=true↔(0≤r.1∧r.1≤63)∧(0≤r.2.1∧r.2.1≤63)∧(0≤r.2.2.1∧r.2.2.1≤1125899906842624)∧(0≤r.2.2.2.1∧r.2.2.2.1≤1125899906842624)∧(0≤r.2.2.2.2.1∧r.2.2.2.2.1≤1125899906842624)∧(0≤r.2.2.2.2.2.1∧r.2.2.2.2.2.1≤63)∧(0≤wrap .i64 r.2.2.2.2.2.2.1∧wrap .i64 r.2.2.2.2.2.2.1≤65535)∧0≤r.2.2.2.2.2.2.2∧r.2.2.2.2.2.2.2≤63:=by simp[okF,flR,aI]
def Amd(r:R8)(loc:Int):E3:=(loc,Ai9 r.2.2.1 r.2.2.2.1 r.2.2.2.2.1 loc,r.2.2.2.2.2.2.2+1)
theorem Ij.cl{b:Nat}{p:Pr}{r:R8}{loc:Int}{w:World}(hB:Ar w b (prC p))(hr:okF (flR r)=true){k:TR Aof→WP}
  (h0:Qv p r loc=false→ ∀w',Ah w w'→k ((0,0,0,()),(false,()),()) w')
  (h1:Qv p r loc=true→ ∀w',Ar w' b (prC {p with waits:=false,tries:=0})→Ap (λz=>z=b) w w'→k (((Vp r loc).1,(Vp r loc).2.1,(Vp r loc).2.2,()),(true,()),()) w'):
  Ad prog F.Ij [.pointer (some ⟨b,0,none⟩),.agg #[iV r.1,iV r.2.1,iV r.2.2.1,iV r.2.2.2.1,iV r.2.2.2.2.1,iV r.2.2.2.2.2.1,uV r.2.2.2.2.2.2.1,iV r.2.2.2.2.2.2.2],iV loc] w true Aof k:=by
 refine Ij.ok (r0:=r.1) (r1:=r.2.1) (r2:=r.2.2.1) (r3:=r.2.2.2.1) (r4:=r.2.2.2.2.1) (r5:=r.2.2.2.2.2.1) (r6:=r.2.2.2.2.2.2.1) (r7:=r.2.2.2.2.2.2.2) ?_
 have hr:=Apj.1 hr
 have lb:=hB.lt
 refine Ae λp1 w2 e1 k1 u1=>Ae λp3 w4 e3 k3 u3=>?_
 have l1:=k1.lt
 rw[Aq]
 have g5:=(u1.trans u3).trans (Ah.drew w4)
 have B5:=hB.Ai g5
 have q5:=(k1.Ai u3).drew
 have z5:=k3.drew
 have s5:w4.drew.heap.size=w4.heap.size:=rfl
 have l3:=z5.lt
 generalize w4.drew=w5 at*
 have no:Qv p r loc=false→ ∀w',Ah w5 w'→Au [iV 0,iV 0,iV 0] ⟨p3,0,none⟩ 0 w' λw12=>Bc [KI,KI,KI] ⟨p3,0,none⟩ 0 w12 λx13=>k ((x13.1,x13.2.1,x13.2.2.1,()),(false,()),()) w12:=λhf w' g=>
  (z5.Ai g).E5 [_,_,_] rfl rfl λw12 k12 u12=>k12.Xd (h0 hf w12 (Ap.new (Ap.Ed (g5.trans g)) u12 λh=>by have:=u1.size;omega))
 refine Le rfl ?_
 rw[Ac]
 refine B5.c1 3 (c:=.b) (x:=p.waits) rfl (En (λc=>no (by unfold Qv;have c:p.waits=false:=c;rw[c];rfl) w5 (Ah.refl _)) λcw=>?_)
 have cw:p.waits=true:=cw
 refine q5.c1 1 (c:=KI) (x:=r.2.1) rfl ?_
 rw[Ac]
 refine B5.c0 (c:=KI) (x:=p.me) rfl (dS (λc=>no (by unfold Qv;have c:r.2.1≠p.me:=c;rw[beq_eq_false_iff_ne.2 c];simp) w5 (Ah.refl _)) λcm=>?_)
 have cm:r.2.1=p.me:=cm
 refine q5.c0 (c:=KI) (x:=r.1) rfl ?_
 rw[Ac]
 refine B5.c1 1 (c:=KI) (x:=p.to) rfl (dS (λc=>no (by unfold Qv;have c:r.1≠p.to:=c;rw[beq_eq_false_iff_ne.2 c];simp) w5 (Ah.refl _)) λct=>?_)
 have ct:r.1=p.to:=ct
 refine q5.c1 2 (c:=KI) (x:=r.2.2.1) rfl ?_
 rw[Ac]
 refine B5.c1 2 (c:=KI) (x:=p.sent) rfl (dS (λc=>no (by unfold Qv;have c:r.2.2.1≠p.sent:=c;rw[beq_eq_false_iff_ne.2 c];simp) w5 (Ah.refl _)) λcs=>?_)
 have cs:r.2.2.1=p.sent:=cs
 have hp:Qv p r loc=(tsG r.2.2.1 r.2.2.2.1 r.2.2.2.2.1 loc&&J8 (Vp r loc)):=by
  unfold Qv
  rw[cw,beq_iff_eq.2 cm,beq_iff_eq.2 ct,beq_iff_eq.2 cs];rfl
 refine q5.c1 2 (c:=KI) (x:=r.2.2.1) rfl (q5.c1 3 (c:=KI) (x:=r.2.2.2.1) rfl (q5.c1 4 (c:=KI) (x:=r.2.2.2.2.1) rfl (Ae λp30 w31 e30 k30 u31=>k30.E5 [_,_,_,_] rfl rfl λw32 k32 u32=>?_)))
 have f32:Ah w5 w32:=Ah.fresh (Ah.refl _) u31 u32 e30
 have q32:=q5.Ai f32
 have l32:=q32.lt
 have l30:=k32.lt
 have n1:p1≠b:=by omega
 have n3:p3≠b:=by have:=u1.size;omega
 have n30:p30≠b:=by omega
 have lw:w.heap.size≤w5.heap.size:=g5.size
 have l532:=f32.size
 refine Bh.by (λz W=>Ah w32 W∧ ∃q,z=(⟨q,0,none⟩,())∧w32.heap.size≤q∧Ar W q [iV (Amd r loc).1,iV (Amd r loc).2.1,iV (Amd r loc).2.2]) ?_ ?_
 ·rw[Aq]
  have kd:=k32.drew
  have qd:=q32.drew
  have sd:w32.drew.heap.size=w32.heap.size:=rfl
  have gd:=Ah.drew w32
  generalize w32.drew=w36 at*
  refine kd.cA (cs:=[KI,KI,KI,KI]) (r.2.2.1,r.2.2.2.1,r.2.2.2.2.1,loc,()) rfl (qd.c1 7 (c:=KI) (x:=r.2.2.2.2.2.2.2) rfl ?_)
  have H: ∀{w':World},Ah w36 w'→ ∀j,j<4→w'.cell? (Addr.add ⟨p30,0,none⟩ j)=some ((w36.cell? (Addr.add ⟨p30,0,none⟩ j)).getD undef):=λu j hj=>kd.hold u (λx=>x) j (by simpa using hj)
  have H1: ∀{w':World},Ah w36 w'→w'.cell? (Addr.add ⟨p1,0,none⟩ 7)=some ((w36.cell? (Addr.add ⟨p1,0,none⟩ 7)).getD undef):=λu=>qd.hold u (λx=>x) 7 (by simp)
  have ew:wrap .i64 (r.2.2.2.2.2.2.2+1)=r.2.2.2.2.2.2.2+1:=Af (by unfold I64;omega)
  dsimp only
  rw[ew]
  refine⟨?_,?_⟩
  ·refine Gg.cl λw40 u40=>⟨⟨H1 u40,H u40 0 (by decide),H u40 1 (by decide),H u40 2 (by decide),H u40 3 (by decide),trivial⟩,Ae λp41 w42 e41 k41 u42=>⟨⟨H1 (u40.trans u42),H (u40.trans u42) 0 (by decide),H (u40.trans u42) 1 (by decide),H (u40.trans u42) 2 (by decide),H (u40.trans u42) 3 (by decide),trivial⟩,k41.E5 [_,_,_] rfl rfl λw43 k43 u43=>⟨trivial,?_,p41,rfl,?_,k43⟩⟩⟩
   ·exact gd.trans (Ah.fresh u40 u42 u43 e41)
   ·have:=u40.size;omega
  ·refine Ae λp44 w45 e44 k44 u45=>⟨⟨H1 u45,H u45 0 (by decide),H u45 1 (by decide),H u45 2 (by decide),H u45 3 (by decide),trivial⟩,Gg.cl λw47 u47=>⟨⟨H1 (u45.trans u47),trivial⟩,(k44.Ai u47).E5 [_,_,_] rfl rfl λw48 k48 u48=>⟨trivial,?_,p44,rfl,by omega,k48⟩⟩⟩
   exact gd.trans (Ah.fresh (Ah.refl _) (u45.trans u47) u48 e44)
 ·rintro z W ⟨gW,q,rfl,hq,kq⟩ _
  have g5W:=f32.trans gW
  refine(k32.Ai gW).cA (cs:=[KI,KI,KI,KI]) (r.2.2.1,r.2.2.2.1,r.2.2.2.2.1,loc,()) rfl (H5.cl λw51 u51=>En (λc=>?_) λc=>?_)
  ·have c:tsG r.2.2.1 r.2.2.2.1 r.2.2.2.2.1 loc=false:=c
   exact no (by rw[hp,c];rfl) w51 (g5W.trans u51)
  ·have c:tsG r.2.2.1 r.2.2.2.1 r.2.2.2.2.1 loc=true:=c
   have ee:Amd r loc=Vp r loc:=by unfold Amd Vp Ai9;rw[if_pos c]
   rw[ee] at kq
   refine(kq.Ai u51).Xd (Cj.cl λw56 u56=>En (λc2=>?_) λc2=>?_)
   ·have c2:J8 (Vp r loc)=false:=c2
    exact no (by rw[hp,c,c2];rfl) w56 ((g5W.trans u51).trans u56)
   ·have c2:J8 (Vp r loc)=true:=c2
    have h1:=h1 (by rw[hp,c,c2];rfl)
    have g56:=(g5W.trans u51).trans u56
    have B56:=B5.Ai g56
    have kq56:=(kq.Ai u51).Ai u56
    have nq:q≠b:=by omega
    have nq3:p3≠q:=by omega
    rw[Ac]
    refine B56.sN 3 [_] (by simp) rfl λw60 k60 u60=>?_
    rw[Ac]
    refine k60.sN 5 [_] (by simp[splice]) rfl λw62 k62 u62=>?_
    have U62:Ap (λz=>z=b) w56 w62:=Ap.trans u60 u62 λ_ _ x=>x
    refine(kq56.upd U62 nq).Xd ((((z5.Ai g56).upd U62 n3)).E5 [_,_,_] rfl rfl λwR k64 u64=>k64.Xd (h1 wR (k62.upd u64 λe=>n3 e.symm) ?_))
    exact Ap.new (Ap.trans (Ap.Ed (g5.trans g56)) U62 λ_ _ x=>x) u64 λh=>by have:=u1.size;omega
theorem tH: ∀(vs cs:List Value) (n j:Nat),n+vs.length≤cs.length→(splice cs n vs)[j]? =if n≤j∧j<n+vs.length then vs[j-n]? else cs[j]?
 |[],cs,n,j,h=>by
  rw[splice,if_neg (by simp)]
 |v::vs,cs,n,j,h=>by
  simp only[List.length_cons] at h⊢
  rw[splice,tH vs (cs.set n v) (n+1) j (by rw[List.length_set];omega)]
  by_cases h1:n+1≤j∧j<n+1+vs.length
  ·rw[if_pos h1,if_pos (by omega),show j-n=(j-(n+1))+1 by omega,List.getElem?_cons_succ]
  ·rw[if_neg h1]
   by_cases h2:j=n
   ·subst h2
    rw[if_pos (by omega),Nat.sub_self,List.getElem?_set_self (by omega)];rfl
   ·rw[if_neg (by omega),List.getElem?_set_ne (λe=>h2 e.symm)]
theorem rE{cs vs:List Value}{a b cap size:Nat}(hl:cs.length=cap*size)(hv:vs.length=size)(ha:a<cap)(hb:b<cap):
  ((splice cs (b*size) vs).drop (a*size)).take size=if a=b then vs else(cs.drop (a*size)).take size:=by
 have hb':b*size+size≤cap*size:=by rw[←Nat.succ_mul];exact Nat.mul_le_mul_right _ hb
 have ha':a*size+size≤cap*size:=by rw[←Nat.succ_mul];exact Nat.mul_le_mul_right _ ha
 apply List.ext_getElem?
 intro j
 by_cases hj:j<size
 ·rw[List.getElem?_take_of_lt hj,List.getElem?_drop,tH vs cs _ _ (by omega)]
  by_cases e:a=b
  ·subst e
   rw[if_pos rfl,if_pos (by omega),Nat.add_sub_cancel_left]
  ·rw[if_neg e,List.getElem?_take_of_lt hj,List.getElem?_drop,if_neg]
   intro ⟨h1,h2⟩
   rcases Nat.lt_or_ge a b with h|h
   ·have:a*size+size≤b*size:=by rw[←Nat.succ_mul];exact Nat.mul_le_mul_right _ h
    omega
   ·have:b*size+size≤a*size:=by rw[←Nat.succ_mul];exact Nat.mul_le_mul_right _ (by omega)
    omega
 ·rw[List.getElem?_take,if_neg hj]
  split
  ·rw[List.getElem?_eq_none (by omega)]
  ·rw[List.getElem?_take,if_neg hj]
theorem Ai5{f i j cap:Nat}(hij:i<j)(hj:j<cap+i):(f+i)%cap≠(f+j)%cap:=by
 intro h
 have hc:0<cap:=by omega
 have h1:=Nat.div_add_mod (f+i) cap
 have h2:=Nat.div_add_mod (f+j) cap
 rw[h] at h1
 have h3:cap*((f+j)/cap)-cap*((f+i)/cap)=j-i:=by omega
 rw[←Nat.mul_sub] at h3
 rcases Nat.eq_zero_or_pos ((f+j)/cap-(f+i)/cap) with h4|h4
 ·rw[h4] at h3;omega
 ·have:=Nat.mul_le_mul_left cap h4
  omega
structure bJ(w:World)(b c size cap:Nat)(L:List (List Value)):Prop where
 ex: ∃(rows:List Value) (f:Nat),Ar w b [.slice (some ⟨c,0,none⟩) cap cap,iV (f:Int),iV (L.length:Int)]∧Ar w c rows∧rows.length=cap*size∧f<cap∧ ∀i r,L[i]? =some r→(rows.drop ((f+i)%cap*size)).take size=r
 len:L.length≤cap
 row: ∀r∈L,r.length=size
theorem bJ.upd{S:NP}{w w':World}{b c size cap:Nat}{L:List (List Value)}(h:bJ w b c size cap L)(u:Ap S w w')(h1: ¬S b)(h2: ¬S c):bJ w' b c size cap L:=by
 obtain⟨rows,f,k1,k2,r⟩:=h.ex
 exact⟨⟨rows,f,k1.upd u h1,k2.upd u h2,r⟩,h.len,h.row⟩
theorem bJ.Ai{w w':World}{b c size cap:Nat}{L:List (List Value)}(h:bJ w b c size cap L)(u:Ah w w'):bJ w' b c size cap L:=h.upd u (λx=>x) λx=>x
theorem bJ.lt{w:World}{b c size cap:Nat}{L:List (List Value)}(h:bJ w b c size cap L):b<w.heap.size∧c<w.heap.size:=by
 obtain⟨rows,f,k1,k2,_⟩:=h.ex
 exact⟨k1.lt,k2.lt⟩
theorem bJ.empty{w:World}{b c size cap f:Nat}{rows:List Value}(k1:Ar w b [.slice (some ⟨c,0,none⟩) cap cap,iV (f:Int),iV 0])(k2:Ar w c rows)(hl:rows.length=cap*size)(hf:f<cap):bJ w b c size cap []:=
 ⟨⟨rows,f,k1,k2,hl,hf,λi r h=>by simp at h⟩,by simp,λr h=>by simp at h⟩
@[reducible] noncomputable def tJob:TypeId:=match prog.underlying T.Wu with|some (.slice e)=>e|_=>0
def oL:Jb→Value
 | .find=>.iface T.nI (.agg #[])
 | .tie=>.iface T.Vd (.agg #[])
 | .reply to sent g=>.iface T.jR (.agg #[iV to,iV sent,iV g.1,iV g.2.1,iV g.2.2.1,uV g.2.2.2.1,iV g.2.2.2.2])
abbrev jbL(js:List Jb):List (List Value):=js.map λj=>[oL j]
theorem Aqa(j:Jb):okc (oL j)=true:=by cases j<;>rfl
theorem I5.cL{w:World}{k:TR RPI→WP}(h: ∀b c w',w.heap.size≤c→c<b→bJ w' b c 1 8 []→Ah w w'→k ((some ⟨b,0,none⟩,()),(0,()),()) w'):Ad prog F.I5 [iV 8] w true RPI k:=by
 refine I5.ok ?_
 refine Le rfl (Le rfl ?_)
 refine bD (t:=T.Wu) (e:=tJob) (size:=1) (bytes:=16) (z:=.nilIface) (l:=8) (c:=8) (by kernel_rfl) (by kernel_rfl) rfl (by decide) rfl rfl (by decide) (by decide) λc w2 e2 k2 _ g2=>?_
 refine Ae λb w4 e4 k4 g4=>h b c w4 (Nat.le_of_eq e2) (by have:=k2.lt;omega) (bJ.empty (f:=0) k4 (k2.Ai g4) (by rw[Yy]) (by decide)) (g2.trans g4)
theorem Es.cL{b c:Nat}{L:List (List Value)}(hbc:b≠c){w:World}(hR:bJ w b c 1 8 L){k:TR []→WP}(h: ∀w',bJ w' b c 1 8 []→Ap (λz=>z=b∨z=c) w w'→k () w'):Ad prog F.Es [.pointer (some ⟨b,0,none⟩)] w true [] k:=by
 refine Es.ok ?_
 obtain⟨rows,f,k1,k2,hl,_⟩:=hR.ex
 refine We rfl ?_
 rw[Ac]
 refine k1.c0 (c:=.sl) (x:=(some ⟨c,0,none⟩,8,8)) rfl ?_
 refine Amf (t:=T.Wu) (e:=tJob) (size:=1) (bytes:=16) (z:=.nilIface) (n:=7) (by kernel_rfl) (by kernel_rfl) rfl k2 hl rfl λw3 k3 u3=>?_
 rw[Ac]
 refine(k1.upd u3 hbc).sN 1 [_] (by simp) rfl λw5 k5 u5=>?_
 rw[Ac]
 refine k5.sN 2 [_] (by simp[splice]) rfl λw7 k7 u7=>h w7 (bJ.empty (f:=0) k7 ((k3.upd u5 (λe=>hbc e.symm)).upd u7 (λe=>hbc e.symm)) (by rw[Yy]) (by decide)) ?_
 exact Ap.trans (Ap.trans (u3.mono λz hz=>.inr hz) u5 λz _ hz=>.inl hz) u7 λz _ hz=>.inl hz
theorem Dj.cL{b c:Nat}{L:List (List Value)}{w:World}(hR:bJ w b c 1 8 L){k:TR Kt→WP}(h:k (((L.length:Int),()),()) w):Ad prog F.Dj [.pointer (some ⟨b,0,none⟩)] w false Kt k:=by
 refine Dj.ok ?_
 obtain⟨rows,f,k1,_⟩:=hR.ex
 refine Le rfl ?_
 rw[Ac]
 exact k1.c1 2 rfl h
theorem qP(a b:Nat):Int.tmod (a:Int) (b:Int)=((a%b:Nat):Int):=by
 rw[Int.tmod_eq_emod_of_nonneg (by omega)];norm_cast
theorem yL{w w16 w20:World}{b c size cap f:Nat}{L:List (List Value)}{rows:List Value}{r:List Value}(hbc:b≠c)(hl:rows.length=cap*size)(hf:f<cap)(hL:L.length<cap)(hr:r.length=size)
  (hg: ∀i r,L[i]? =some r→(rows.drop ((f+i)%cap*size)).take size=r) (hrow: ∀r∈L,r.length=size)
  (k1:Ar w20 b [.slice (some ⟨c,0,none⟩) cap cap,iV (f:Int),iV ((L.length+1:Nat):Int)]) (k2:Ar w20 c (splice rows ((f+L.length)%cap*size) r)):bJ w20 b c size cap (L++[r]):=by
 have hm: ∀i,(f+i)%cap<cap:=λi=>Nat.mod_lt _ (by omega)
 refine⟨⟨_,f,by rw[List.length_append];exact k1,k2,by rw[aB];exact hl,hf,λi q hq=>?_⟩,by rw[List.length_append];exact hL,λq hq=>?_⟩
 ·rw[rE hl hr (hm i) (hm _)]
  by_cases hi:i<L.length
  ·rw[List.getElem?_append_left hi] at hq
   rw[if_neg (Ai5 hi (by omega))]
   exact hg i q hq
  ·rw[List.getElem?_append_right (by omega)] at hq
   have hi0:i=L.length:=by
    have:=(List.getElem?_eq_some_iff.1 hq).1
    simp at this;omega
   subst hi0
   rw[Nat.sub_self] at hq
   rw[if_pos rfl];simpa using hq
 ·rcases List.mem_append.1 hq with hq|hq
  ·exact hrow q hq
  ·simp at hq;subst hq;exact hr
theorem Adc{w:World}{b c size cap f:Nat}{L:List (List Value)}{rows z r:List Value}(hl:rows.length=cap*size)(hf:f<cap)(hL:(r::L).length≤cap)(hz:z.length=size)
  (hg: ∀i q,(r::L)[i]? =some q→(rows.drop ((f+i)%cap*size)).take size=q) (hrow: ∀q∈r::L,q.length=size)
  (k1:Ar w b [.slice (some ⟨c,0,none⟩) cap cap,iV (((f+1)%cap:Nat):Int),iV (L.length:Int)]) (k2:Ar w c (splice rows (f*size) z)):bJ w b c size cap L:=by
 simp only[List.length_cons] at hL
 have hm: ∀i,(f+i)%cap<cap:=λi=>Nat.mod_lt _ (by omega)
 refine⟨⟨_,(f+1)%cap,k1,k2,by rw[aB];exact hl,hm 1,λi q hq=>?_⟩,by omega,λq hq=>hrow q (by simp[hq])⟩
 have e:((f+1)%cap+i)%cap=(f+(i+1))%cap:=by
  rw[Nat.add_mod,Nat.mod_mod,←Nat.add_mod,show f+1+i=f+(i+1) by omega]
 rw[e,rE hl hz (hm _) hf]
 have hi:=(List.getElem?_eq_some_iff.1 hq).1
 have hne:(f+(i+1))%cap≠f:=by
  have:=Ai5 (f:=f) (i:=0) (j:=i+1) (cap:=cap) (by omega) (by omega)
  rw[Nat.add_zero,Nat.mod_eq_of_lt hf] at this
  exact λe=>this e.symm
 rw[if_neg hne]
 exact hg (i+1) q (by simpa using hq)
theorem Cm.cL{b c:Nat}{js:List Jb}{j:Jb}(hbc:b≠c){w:World}(hR:bJ w b c 1 8 (jbL js)){k:TR Kt→WP}
  (h0:js.length≥8→ ∀w',Ah w w'→k ((6,()),()) w') (h1:js.length<8→ ∀w',bJ w' b c 1 8 (jbL (js++[j]))→Ap (λz=>z=b∨z=c) w w'→k ((0,()),()) w'):Ad prog F.Cm [.pointer (some ⟨b,0,none⟩),oL j] w false Kt k:=by
 refine Cm.ok (x:=oL j) ?_
 have hlen:=hR.len
 obtain⟨rows,f,k1,k2,hl,hf,hg⟩:=hR.ex
 rw[List.length_map] at hlen k1
 refine Le rfl ?_
 rw[Aq,Ac]
 refine k1.drew.c1 2 (c:=KI) (x:=(js.length:Int)) rfl ?_
 rw[Ac]
 refine k1.drew.c0 (c:=.sl) (x:=(some ⟨c,0,none⟩,8,8)) rfl (Vh (λe=>h0 (by have e:(js.length:Int)=((8:Nat):Int):=e;omega) _ (Ah.drew w)) λe=>?_)
 have e:(js.length:Int)≠((8:Nat):Int):=e
 have hj:js.length<8:=by omega
 have K1:=k1.drew.drew
 have K2:=k2.drew.drew
 have G6:Ah w w.drew.drew:=(Ah.drew w).trans (Ah.drew _)
 rw[Aq,Ac]
 refine K1.c0 (c:=.sl) (x:=(some ⟨c,0,none⟩,8,8)) rfl ?_
 rw[Ac]
 refine K1.c1 1 (c:=KI) (x:=(f:Int)) rfl ?_
 rw[Ac]
 refine K1.c1 2 (c:=KI) (x:=(js.length:Int)) rfl ?_
 rw[Ac]
 refine K1.c0 (c:=.sl) (x:=(some ⟨c,0,none⟩,8,8)) rfl ?_
 have ew:Int.tmod (wrap .i64 ((f:Int)+(js.length:Int))) ((8:Nat):Int)=(((f+js.length)%8:Nat):Int):=by
  rw[Af (by unfold I64;omega),show(f:Int)+(js.length:Int)=((f+js.length:Nat):Int) by omega,qP]
 rw[Gm (show(((8:Nat):Nat):Int)≠0 by decide)]
 have hm:(f+js.length)%8<8:=Nat.mod_lt _ (by decide)
 show Hf (some ⟨c,0,none⟩) 8 (Int.tmod (wrap .i64 ((f:Int)+(js.length:Int))) ((8:Nat):Int)) _
 rw[ew,Ip (by omega),Int.toNat_natCast]
 refine K2.sN ((f+js.length)%8*1) [_] (by rw[hl,List.length_singleton];omega) (by simp[Aqa]) λw16 k16 u16=>⟨trivial,?_⟩
 have K16:=K1.upd u16 hbc
 rw[Ac]
 refine K16.c1 2 (c:=KI) (x:=(js.length:Int)) rfl ?_
 rw[Ac]
 refine K16.sN 2 [_] (by simp) rfl λw20 k20 u20=>h1 hj w20 ?_ ?_
 ·have el:wrap .i64 ((js.length:Int)+1)=((js.length+1:Nat):Int):=by rw[Af (by unfold I64;omega)];omega
  change Ar w20 b [.slice (some ⟨c,0,none⟩) 8 8,iV (f:Int),iV (wrap .i64 ((js.length:Int)+1))] at k20
  rw[el] at k20
  have:=yL (w:=w) (w16:=w16) (L:=jbL js) (r:=[oL j]) hbc hl hf (by rw[List.length_map];exact hj) rfl hg hR.row (by rw[List.length_map];exact k20) (by rw[List.length_map];exact k16.upd u20 λe=>hbc e.symm)
  rw[show jbL (js++[j])=jbL js++[[oL j]] by simp[jbL]]
  exact this
 ·exact Ap.trans (Ap.trans (Ap.Ed G6) (u16.mono λz hz=>.inr hz) λ_ _ x=>x) u20 λz _ hz=>.inl hz
abbrev RAB:List (Bool×List CK):=[(false,[.any]),(false,[.b])]
theorem Fg.cL{b c:Nat}{js:List Jb}(hbc:b≠c){w:World}(hR:bJ w b c 1 8 (jbL js)){k:TR RAB→WP}
  (h0:js=[]→k ((.nilIface,()),(false,()),()) w) (h1: ∀j t,js=j::t→ ∀w',bJ w' b c 1 8 (jbL t)→Ap (λz=>z=b∨z=c) w w'→k ((oL j,()),(true,()),()) w'):Ad prog F.Fg [.pointer (some ⟨b,0,none⟩)] w true RAB k:=by
 refine Fg.ok ?_
 refine Dj.cL hR ?_
 cases js with
 |nil=>exact We rfl (h0 rfl)
 |cons j t=>
  have h1:=h1 j t rfl
  have hlen:=hR.len
  have hrow:=hR.row
  obtain⟨rows,f,k1,k2,hl,hf,hg⟩:=hR.ex
  simp only[jbL,List.map_cons,List.length_cons,List.length_map] at hlen k1
  refine Vh (λe=>absurd (show(((jbL (j::t)).length:Nat):Int)=0 from e) (by simp only[jbL,List.map_cons,List.length_cons,List.length_map];omega)) λ_=>?_
  rw[Aq,Ac]
  refine k1.drew.c0 (c:=.sl) (x:=(some ⟨c,0,none⟩,8,8)) rfl ?_
  rw[Ac]
  refine k1.drew.c1 1 (c:=KI) (x:=(f:Int)) rfl ?_
  show Hf (some ⟨c,0,none⟩) 8 (f:Int) _
  rw[Ip (by omega),Int.toNat_natCast]
  have hv:=hg 0 [oL j] rfl
  rw[Nat.add_zero,Nat.mod_eq_of_lt hf] at hv
  have hv0:rows[f*1]? =some (oL j):=by
   have:=congrArg (·[0]?) hv
   simp only[List.getElem?_take_of_lt (show 0<1 by decide),List.getElem?_drop,Nat.add_zero] at this
   exact this
  refine k2.drew.c1 (f*1) (c:=.any) (x:=oL j) hv0 ?_
  rw[Aq,Ac]
  have K1:=k1.drew.drew
  have K2:=k2.drew.drew
  have G10:Ah w w.drew.drew:=(Ah.drew w).trans (Ah.drew _)
  refine K1.c0 (c:=.sl) (x:=(some ⟨c,0,none⟩,8,8)) rfl ?_
  rw[Ac]
  refine K1.c1 1 (c:=KI) (x:=(f:Int)) rfl ?_
  show Hf (some ⟨c,0,none⟩) 8 (f:Int) _
  rw[Ip (by omega),Int.toNat_natCast]
  refine K2.sN (f*1) [_] (by rw[hl,List.length_singleton];omega) rfl λw16 k16 u16=>⟨trivial,?_⟩
  have K16:=(K1.upd u16 hbc).drew
  have ks16:=k16.drew
  rw[Aq,Ac]
  refine K16.c1 1 (c:=KI) (x:=(f:Int)) rfl ?_
  rw[Ac]
  refine K16.c0 (c:=.sl) (x:=(some ⟨c,0,none⟩,8,8)) rfl ?_
  rw[Gm (show(((8:Nat):Nat):Int)≠0 by decide),Ac]
  have ew:Int.tmod (wrap .i64 ((f:Int)+1)) ((8:Nat):Int)=(((f+1)%8:Nat):Int):=by
   rw[Af (by unfold I64;omega),show(f:Int)+1=((f+1:Nat):Int) by omega,qP]
  refine K16.sN 1 [_] (by simp) rfl λw23 k23 u23=>⟨trivial,?_⟩
  change Ar w23 b [.slice (some ⟨c,0,none⟩) 8 8,iV (Int.tmod (wrap .i64 ((f:Int)+1)) ((8:Nat):Int)),iV ((t.length+1:Nat):Int)] at k23
  rw[ew] at k23
  rw[Ac]
  refine k23.c1 2 (c:=KI) (x:=((t.length+1:Nat):Int)) rfl ?_
  rw[Ac]
  have el:wrap .i64 (((t.length+1:Nat):Int)-1)=(t.length:Int):=by rw[Af (by unfold I64;omega)];omega
  refine k23.sN 2 [_] (by simp) rfl λw27 k27 u27=>h1 w27 ?_ ?_
  ·change Ar w27 b [.slice (some ⟨c,0,none⟩) 8 8,iV (((f+1)%8:Nat):Int),iV (wrap .i64 (((t.length+1:Nat):Int)-1))] at k27
   rw[el] at k27
   exact Adc (L:=jbL t) (r:=[oL j]) (z:=[.nilIface]) hl hf (by simp only[List.length_cons,List.length_map];exact hlen) rfl hg hrow (by rw[List.length_map];exact k27) ((ks16.upd u23 λe=>hbc e.symm).upd u27 λe=>hbc e.symm)
  ·refine Ap.trans (Ap.trans (Ap.trans (Ap.Ed G10) (u16.mono λz hz=>.inr hz) λ_ _ x=>x) ?_ λz _ hz=>hz) u27 λz _ hz=>.inl hz
   exact Ap.trans (Ap.Ed (Ah.drew w16)) (u23.mono λz hz=>.inl hz) λ_ _ x=>x
abbrev KEv:List CK:=[KI,.s,KI,KI,KI,KI,KU,KI]
def evT(e:Ev):Ky KEv:=(e.id,e.lab,e.loc,e.a.1,e.a.2.1,e.a.2.2.1,e.a.2.2.2.1,e.a.2.2.2.2,())
abbrev evL(es:List Ev):List (List Value):=es.map λe=>encs KEv (evT e)
abbrev NB:=Nat→Nat
abbrev pB(b:Nat):Value:=.pointer (some ⟨b,0,none⟩)
def ndC(N:NB)(bf:Nat)(d:Nd):List Value:=stC d.s++[.pointer d.lp,.bool d.on,uV d.boot,pB (N 1),pB bf,pB (N 2),pB (N 3),pB (N 4)]++bk d.bh d.ba++[pB (N 5),pB (N 8)]
structure NW(w:World)(O:NP)(N:NB)(bf be:Nat)(d:Nd):Prop where
 nb:Ar w (N 0) (ndC N bf d)
 cb:Ar w (N 1) (ckC d.s.drift d.now)
 fw:FW w O bf be d.f d.e d.l d.es
 lb:Ar w (N 2) (lvC d.s.me d.lev d.par)
 pb:Ar w (N 3) (prC d.pr)
 sb:Ar w (N 4) (soC d.so)
 gb:Ar w (N 5) [pB (N 6),iV d.last]
 ge:bJ w (N 6) (N 7) 8 16 (evL d.evs)
 je:bJ w (N 8) (N 9) 1 8 (jbL d.jobs)
 inj: ∀i j,i<10→j<10→N i=N j→i=j
 fo: ∀i,i<10→ ¬O (N i)
theorem NW.ne{w:World}{O:NP}{N:NB}{bf be:Nat}{d:Nd}(h:NW w O N bf be d)(i j:Nat)(hi:i<10:=by decide)(hj:j<10:=by decide)(hij:i≠j:=by decide):N i≠N j:=λe=>hij (h.inj i j hi hj e)
def NO(N:NB)(O:NP)(z:Nat):Prop:=(∃i,i<10∧N i=z)∨O z
theorem NW.upd{S O:NP}{w w':World}{N:NB}{bf be:Nat}{d:Nd}(h:NW w O N bf be d)(u:Ap S w w')(hS: ∀z,NO N O z→ ¬S z):NW w' O N bf be d:=by
 have hi: ∀i,i<10→ ¬S (N i):=λi hi=>hS _ (.inl ⟨i,hi,rfl⟩)
 exact⟨h.nb.upd u (hi 0 (by decide)),h.cb.upd u (hi 1 (by decide)),h.fw.upd u λz hz=>hS z (.inr hz),h.lb.upd u (hi 2 (by decide)),h.pb.upd u (hi 3 (by decide)),h.sb.upd u (hi 4 (by decide)),h.gb.upd u (hi 5 (by decide)),h.ge.upd u (hi 6 (by decide)) (hi 7 (by decide)),h.je.upd u (hi 8 (by decide)) (hi 9 (by decide)),h.inj,h.fo⟩
theorem NW.Ai{O:NP}{w w':World}{N:NB}{bf be:Nat}{d:Nd}(h:NW w O N bf be d)(u:Ah w w'):NW w' O N bf be d:=h.upd u λ_ _ x=>x
theorem NW.drew{O:NP}{w:World}{N:NB}{bf be:Nat}{d:Nd}(h:NW w O N bf be d):NW w.drew O N bf be d:=h.Ai (Ah.drew w)
theorem NW.keep{w w':World}{O:NP}{N:NB}{bf be:Nat}{d:Nd}(h:NW w O N bf be d)(i:Nat)(hi:i<10)(u:Ap (λz=>z=N i) w w'):FW w' O bf be d.f d.e d.l d.es∧ ∀j,j<10→j≠i→ ∀cs,Ar w (N j) cs→Ar w' (N j) cs:=
 ⟨h.fw.upd u λz hz e=>h.fo i hi (e▸hz),λj hj hij cs k=>k.upd u λe=>hij (h.inj j i hj hi e)⟩
theorem NW.rg{w w':World}{O:NP}{N:NB}{bf be:Nat}{d:Nd}(h:NW w O N bf be d)(i:Nat)(hi:i<6)(u:Ap (λz=>z=N i) w w'):bJ w' (N 6) (N 7) 8 16 (evL d.evs)∧bJ w' (N 8) (N 9) 1 8 (jbL d.jobs):=
 ⟨h.ge.upd u (h.ne 6 i (by decide) (by omega) (by omega)) (h.ne 7 i (by decide) (by omega) (by omega)),h.je.upd u (h.ne 8 i (by decide) (by omega) (by omega)) (h.ne 9 i (by decide) (by omega) (by omega))⟩
theorem NW.set0{w w':World}{O:NP}{N:NB}{bf be:Nat}{d:Nd}(h:NW w O N bf be d){on:Bool}{boot:Int}{bh:Bool}{ba:A6}(k:Ar w' (N 0) (ndC N bf {d with on:=on,boot:=boot,bh:=bh,ba:=ba}))(u:Ap (λz=>z=N 0) w w'):NW w' O N bf be {d with on:=on,boot:=boot,bh:=bh,ba:=ba}:=by
 have K:=h.keep 0 (by decide) u
 have R:=h.rg 0 (by decide) u
 exact⟨k,K.2 1 (by decide) (by decide) _ h.cb,K.1,K.2 2 (by decide) (by decide) _ h.lb,K.2 3 (by decide) (by decide) _ h.pb,K.2 4 (by decide) (by decide) _ h.sb,K.2 5 (by decide) (by decide) _ h.gb,R.1,R.2,h.inj,h.fo⟩
theorem NW.set1{w w':World}{O:NP}{N:NB}{bf be:Nat}{d:Nd}(h:NW w O N bf be d){now:Int}(k:Ar w' (N 1) (ckC d.s.drift now))(u:Ap (λz=>z=N 1) w w'):NW w' O N bf be {d with now:=now}:=by
 have K:=h.keep 1 (by decide) u
 have R:=h.rg 1 (by decide) u
 exact⟨K.2 0 (by decide) (by decide) _ h.nb,k,K.1,K.2 2 (by decide) (by decide) _ h.lb,K.2 3 (by decide) (by decide) _ h.pb,K.2 4 (by decide) (by decide) _ h.sb,K.2 5 (by decide) (by decide) _ h.gb,R.1,R.2,h.inj,h.fo⟩
theorem NW.set2{w w':World}{O:NP}{N:NB}{bf be:Nat}{d:Nd}(h:NW w O N bf be d){lev par:Int}(k:Ar w' (N 2) (lvC d.s.me lev par))(u:Ap (λz=>z=N 2) w w'):NW w' O N bf be {d with lev:=lev,par:=par}:=by
 have K:=h.keep 2 (by decide) u
 have R:=h.rg 2 (by decide) u
 exact⟨K.2 0 (by decide) (by decide) _ h.nb,K.2 1 (by decide) (by decide) _ h.cb,K.1,k,K.2 3 (by decide) (by decide) _ h.pb,K.2 4 (by decide) (by decide) _ h.sb,K.2 5 (by decide) (by decide) _ h.gb,R.1,R.2,h.inj,h.fo⟩
theorem NW.Amj{w w':World}{O:NP}{N:NB}{bf be:Nat}{d:Nd}(h:NW w O N bf be d){pr:Pr}(k:Ar w' (N 3) (prC pr))(u:Ap (λz=>z=N 3) w w'):NW w' O N bf be {d with pr:=pr}:=by
 have K:=h.keep 3 (by decide) u
 have R:=h.rg 3 (by decide) u
 exact⟨K.2 0 (by decide) (by decide) _ h.nb,K.2 1 (by decide) (by decide) _ h.cb,K.1,K.2 2 (by decide) (by decide) _ h.lb,k,K.2 4 (by decide) (by decide) _ h.sb,K.2 5 (by decide) (by decide) _ h.gb,R.1,R.2,h.inj,h.fo⟩
theorem NW.Asl{w w':World}{O:NP}{N:NB}{bf be:Nat}{d:Nd}(h:NW w O N bf be d){so:So}(k:Ar w' (N 4) (soC so))(u:Ap (λz=>z=N 4) w w'):NW w' O N bf be {d with so:=so}:=by
 have K:=h.keep 4 (by decide) u
 have R:=h.rg 4 (by decide) u
 exact⟨K.2 0 (by decide) (by decide) _ h.nb,K.2 1 (by decide) (by decide) _ h.cb,K.1,K.2 2 (by decide) (by decide) _ h.lb,K.2 3 (by decide) (by decide) _ h.pb,k,K.2 5 (by decide) (by decide) _ h.gb,R.1,R.2,h.inj,h.fo⟩
theorem NW.Asg{w w':World}{O O':NP}{N:NB}{bf be:Nat}{d:Nd}(h:NW w O N bf be d){f:Fl}{e:El}{l:Tz}{es:List E3}(k:FW w' O' bf be f e l es)(x:Nx O w O' w'):NW w' O' N bf be {d with f:=f,e:=e,l:=l,es:=es}:=by
 have K: ∀j,j<10→ ∀cs,Ar w (N j) cs→Ar w' (N j) cs:=λj hj cs k=>k.upd x.u (h.fo j hj)
 have lt: ∀j,j<10→N j<w.heap.size:=by
  intro j hj
  have a6:=h.ge.lt
  have a8:=h.je.lt
  have:j=0∨j=1∨j=2∨j=3∨j=4∨j=5∨j=6∨j=7∨j=8∨j=9:=by omega
  rcases this with rfl|rfl|rfl|rfl|rfl|rfl|rfl|rfl|rfl|rfl
  ·exact h.nb.lt
  ·exact h.cb.lt
  ·exact h.lb.lt
  ·exact h.pb.lt
  ·exact h.sb.lt
  ·exact h.gb.lt
  ·exact a6.1
  ·exact a6.2
  ·exact a8.1
  ·exact a8.2
 exact⟨K 0 (by decide) _ h.nb,K 1 (by decide) _ h.cb,k,K 2 (by decide) _ h.lb,K 3 (by decide) _ h.pb,K 4 (by decide) _ h.sb,K 5 (by decide) _ h.gb,h.ge.upd x.u (h.fo 6 (by decide)) (h.fo 7 (by decide)),h.je.upd x.u (h.fo 8 (by decide)) (h.fo 9 (by decide)),h.inj,λi hi ho=>by
  rcases x.sub _ ho with y|y
  ·exact h.fo i hi y
  ·have:=lt i hi;omega⟩
theorem NW.lt{w:World}{O:NP}{N:NB}{bf be:Nat}{d:Nd}(h:NW w O N bf be d): ∀z,NO N O z→z<w.heap.size:=by
 rintro z (⟨j,hj,rfl⟩|hz)
 ·have a6:=h.ge.lt
  have a8:=h.je.lt
  have:j=0∨j=1∨j=2∨j=3∨j=4∨j=5∨j=6∨j=7∨j=8∨j=9:=by omega
  rcases this with rfl|rfl|rfl|rfl|rfl|rfl|rfl|rfl|rfl|rfl
  ·exact h.nb.lt
  ·exact h.cb.lt
  ·exact h.lb.lt
  ·exact h.pb.lt
  ·exact h.sb.lt
  ·exact h.gb.lt
  ·exact a6.1
  ·exact a6.2
  ·exact a8.1
  ·exact a8.2
 ·exact h.fw.lt z hz
theorem NW.Awy{w w':World}{O:NP}{N:NB}{bf be:Nat}{d:Nd}(h:NW w O N bf be d){evs:List Ev}{last:Int}(k:Ar w' (N 5) [pB (N 6),iV last])(R:bJ w' (N 6) (N 7) 8 16 (evL evs))(u:Ap (λz=>z=N 5∨z=N 6∨z=N 7) w w'):NW w' O N bf be {d with evs:=evs,last:=last}:=by
 have no: ∀i,i<10→i≠5→i≠6→i≠7→ ¬(N i=N 5∨N i=N 6∨N i=N 7):=λi hi a b c=>by
  rintro(e|e|e)
  ·exact a (h.inj _ _ hi (by decide) e)
  ·exact b (h.inj _ _ hi (by decide) e)
  ·exact c (h.inj _ _ hi (by decide) e)
 exact⟨h.nb.upd u (no 0 (by decide) (by decide) (by decide) (by decide)),h.cb.upd u (no 1 (by decide) (by decide) (by decide) (by decide)),h.fw.upd u (λz hz e=>by
  rcases e with e|e|e
  ·exact h.fo 5 (by decide) (e▸hz)
  ·exact h.fo 6 (by decide) (e▸hz)
  ·exact h.fo 7 (by decide) (e▸hz)),h.lb.upd u (no 2 (by decide) (by decide) (by decide) (by decide)),h.pb.upd u (no 3 (by decide) (by decide) (by decide) (by decide)),h.sb.upd u (no 4 (by decide) (by decide) (by decide) (by decide)),k,R,h.je.upd u (no 8 (by decide) (by decide) (by decide) (by decide)) (no 9 (by decide) (by decide) (by decide) (by decide)),h.inj,h.fo⟩
theorem NW.Apz{w w':World}{O:NP}{N:NB}{bf be:Nat}{d:Nd}(h:NW w O N bf be d){jobs:List Jb}(R:bJ w' (N 8) (N 9) 1 8 (jbL jobs))(u:Ap (λz=>z=N 8∨z=N 9) w w'):NW w' O N bf be {d with jobs:=jobs}:=by
 have no: ∀i,i<10→i≠8→i≠9→ ¬(N i=N 8∨N i=N 9):=λi hi a b=>by
  rintro(e|e)
  ·exact a (h.inj _ _ hi (by decide) e)
  ·exact b (h.inj _ _ hi (by decide) e)
 exact⟨h.nb.upd u (no 0 (by decide) (by decide) (by decide)),h.cb.upd u (no 1 (by decide) (by decide) (by decide)),h.fw.upd u (λz hz e=>by
  rcases e with e|e
  ·exact h.fo 8 (by decide) (e▸hz)
  ·exact h.fo 9 (by decide) (e▸hz)),h.lb.upd u (no 2 (by decide) (by decide) (by decide)),h.pb.upd u (no 3 (by decide) (by decide) (by decide)),h.sb.upd u (no 4 (by decide) (by decide) (by decide)),h.gb.upd u (no 5 (by decide) (by decide) (by decide)),h.ge.upd u (no 6 (by decide) (by decide) (by decide)) (no 7 (by decide) (by decide) (by decide)),R,h.inj,h.fo⟩
theorem NW.nx5{w w':World}{O:NP}{N:NB}(u:Ap (λz=>z=N 5∨z=N 6∨z=N 7) w w'):Nx (NO N O) w (NO N O) w':=⟨u.mono λz hz=>.inl (by
  rcases hz with e|e|e
  ·exact⟨5,by decide,e.symm⟩
  ·exact⟨6,by decide,e.symm⟩
  ·exact⟨7,by decide,e.symm⟩),λz hz=>.inl hz⟩
theorem NW.nx8{w w':World}{O:NP}{N:NB}(u:Ap (λz=>z=N 8∨z=N 9) w w'):Nx (NO N O) w (NO N O) w':=⟨u.mono λz hz=>.inl (by
  rcases hz with e|e
  ·exact⟨8,by decide,e.symm⟩
  ·exact⟨9,by decide,e.symm⟩),λz hz=>.inl hz⟩
end Go.Proofs.YtppeepkmnijdpaaGreatDoor
