import Derived.Test.YtppeepkmnijdpaaGreatDoorCflo
namespace Go.Proofs.YtppeepkmnijdpaaGreatDoor
open Go.Eng Go Tryz
open Go.IntKind (wrap)
set_option linter.unusedSimpArgs false
set_option linter.unusedVariables false
set_option maxRecDepth 100000
set_option maxHeartbeats 8000000
def mine(e:El):Bool:=e.root==e.me
def vX(e:El)(root:Int):Bool:=
 if root<0∨root≥e.me then false else if mine e=true then e.quiet==0 else if e.root<0 then true else decide (root≤e.root)
def Ajz(m o:Ky MK):Bool:=if nwr m.1 o.1=true then true else if m.1=o.1 then nwr m.2.1 o.2.1 else false
def frE(l:Tz)(root:Int)(m:Ky MK):Bool:=match U5 l root with|some o=>Ajz m o|none=>true
def hrN(e:El)(l:Tz)(root:Int)(m:Ky MK):Int:=
 if vX e root=false then 0 else if frE l root m=false then 0 else if e.root≠root then 2 else if((U5 l root).getD (0,0,())).1≠m.1 then 2 else 1
def hrE(e:El)(root:Int):El:={e with root:=root,beats:=0,quiet:=0}
def btB(e:El):Bool:=if mine e=true then false else if wrap .i64 (e.beats+1)<e.tmo then false else true
def lU(e:El):El:=
 if mine e=true then{e with quiet:=if 0>wrap .i64 (e.quiet-1) then 0 else wrap .i64 (e.quiet-1)}
 else if wrap .i64 (e.beats+1)<e.tmo then{e with beats:=wrap .i64 (e.beats+1)}
 else{e with root:=e.me,beats:=0,quiet:=e.ign}
def isE(e:El):El:=if mine e=true then{e with seq:=wrap .u16 (e.seq+1)} else e
def isM(e:El):Ky MK:=if mine e=true then(e.boot,wrap .u16 (e.seq+1),()) else(0,0,())
def mkM(e:El)(l:Tz):Ky MK:=if e.root<0 then(0,0,()) else if mine e=true then(e.boot,e.seq,()) else(U5 l e.root).getD (0,0,())
def mkB(e:El):Bool:=if e.root<0 then false else if mine e=true then decide (e.seq>0) else true
theorem Bz.cl{b r:Nat}{e:El}{l:Tz}{w:World}(hB:pJ w b r e l){k:TR [(false,[KI])]→WP}
  (h:k ((e.root,()),()) w):Ad prog F.Bz [.pointer (some ⟨b,0,none⟩)] w false [(false,[KI])] k:=by
 refine Bz.ok ?_
 refine Le rfl ?_
 rw[Ac]
 exact hB.blk.i1 5 rfl h
theorem Nk.cl{b r:Nat}{e:El}{l:Tz}{root:Int}{w:World}(hB:pJ w b r e l){k:TR [(false,[.b])]→WP}
  (h: ∀w',Ah w w'→k ((vX e root,()),()) w'):Ad prog F.Nk [.pointer (some ⟨b,0,none⟩),iV root] w false [(false,[.b])] k:=by
 refine Nk.ok ?_
 refine Bh.by (λz w'=>w'=w∧(z.1=true↔root<0∨root≥e.me)) ?_ ?_
 ·refine Cf (λc=>⟨rfl,by have c:root<0:=c;simp[c]⟩) λc=>?_
  have c: ¬root<0:=c
  rw[Ac]
  exact hB.blk.i0 rfl ⟨rfl,by simp[c]⟩
 ·rintro⟨z,_⟩ _ ⟨rfl,hz⟩ _
  dsimp only at hz
  unfold vX at h
  refine bQ (λc=>?_) λc=>?_
  ·have c:z=true:=c
   have:=h _ (Ah.refl _)
   rw[if_pos (hz.1 c)] at this;exact this
  ·have c:z=false:=c
   have hn: ¬(root<0∨root≥e.me):=λx=>by rw[hz.2 x] at c;cases c
   rw[if_neg hn] at h
   refine A8.cl hB λw7 u7=>?_
   have hB:=hB.Ai u7
   refine bQ (λc=>?_) λc=>?_
   ·have c:mine e=true:=c
    rw[if_pos c] at h
    rw[Ac]
    exact hB.blk.i1 7 rfl (h _ u7)
   ·have c:mine e=false:=c
    rw[if_neg (by rw[c];simp)] at h
    rw[Ac]
    refine hB.blk.i1 5 rfl (Cf (λc=>?_) λc=>?_)
    ·have c:e.root<0:=c
     rw[if_pos c] at h;exact h _ u7
    ·have c: ¬e.root<0:=c
     rw[if_neg c] at h
     rw[Ac]
     exact hB.blk.i1 5 rfl (h _ u7)
theorem Jf.cl{m o:Ky MK}{w:World}{k:TR [(false,[.b])]→WP}(h: ∀w',Ah w w'→k ((Ajz m o,()),()) w'):
  Ad prog F.Jf [.agg #[uV m.1,uV m.2.1],.agg #[uV o.1,uV o.2.1]] w false [(false,[.b])] k:=by
 refine Jf.ok ?_
 refine Ae λp1 w2 e1 k1 u1=>Ae λp3 w4 e3 k3 u3=>?_
 have q:=k1.Ai u3
 have g:=u1.trans u3
 unfold Ajz at h
 refine q.c0 rfl (k3.c0 rfl (Oa.cl (bQ (λc=>?_) λc=>q.c0 rfl (k3.c0 rfl (Vh (λc2=>q.c1 1 rfl (k3.c1 1 rfl (Oa.cl ?_))) λc2=>?_)))))
 ·have c:nwr m.1 o.1=true:=c
  have:=h _ g
  rw[if_pos c] at this;exact this
 ·have c:nwr m.1 o.1=false:=c
  have c2:m.1=o.1:=c2
  have:=h _ g
  rw[if_neg (by rw[c];simp),if_pos c2] at this;exact this
 ·have c:nwr m.1 o.1=false:=c
  have c2:m.1≠o.1:=c2
  have:=h _ g
  rw[if_neg (by rw[c];simp),if_neg c2] at this;exact this
def elS(b r:Nat):NP:=λz=>z=b∨z=r
theorem Jp.cl{b r:Nat}{e:El}{l:Tz}{root:Int}{m:Ky MK}{w:World}(hB:pJ w b r e l){k:TR [(false,[KI])]→WP}
  (h0:hrN e l root m=0→ ∀w',Ah w w'→k ((0,()),()) w')
  (h1: ∀c,hrN e l root m=c→c≠0→ ∀w',pJ w' b r (hrE e root) (bM l root m)→Ap (elS b r) w w'→k ((c,()),()) w'):
  Ad prog F.Jp [.pointer (some ⟨b,0,none⟩),iV root,.agg #[uV m.1,uV m.2.1]] w false [(false,[KI])] k:=by
 refine Jp.ok ?_
 refine Ae λp1 w2 e1 k1 u1=>Le rfl ?_
 have lb:=hB.blk.lt
 have lr:=hB.map.lt
 refine Nk.cl (hB.Ai u1) λw4 u4=>En (λc=>?_) λc=>?_
 ·have c:vX e root=false:=c
  exact h0 (by unfold hrN;rw[if_pos c]) w4 (u1.trans u4)
 have cm: ¬vX e root=false:=by have c:vX e root=true:=c;rw[c];simp
 have g4:=u1.trans u4
 have B4:=hB.Ai g4
 rw[Ac]
 refine B4.blk.c1 8 (c:=.m) (x:=some r) rfl ?_
 refine Arj B4.map (z:=((0:Int),(0:Int),())) (kt:=T.int) (et:=T.Nc) (by kernel_rfl) (by kernel_rfl) (λw=>by kernel_rfl) ?_
 generalize hx:(U5 l root).getD (0,0,())=x
 refine Ae λp9 w10 e9 k9 u9=>k9.E5 _ rfl rfl λw11 k11 u11=>?_
 have g11:Ah w4 w11:=Ah.fresh (Ah.refl _) u9 u11 e9
 have q1:=k1.Ai (u4.trans g11)
 have l1:=k1.lt
 have s4:=u4.size
 refine Bh.by (λ_ w'=>Ah w11 w'∧frE l root m=true) ?_ ?_
 ·cases hm:U5 l root with
  |none=>exact Le rfl ⟨Ah.refl _,by unfold frE;rw[hm]⟩
  |some o=>
   have ho:x=o:=by rw[←hx,hm];rfl
   refine We rfl (q1.cA (cs:=MK) m rfl (k11.cA (cs:=MK) x rfl (Jf.cl λw18 u18=>En (λc=>?_) λc=>?_)))
   ·have c:Ajz m x=false:=c
    refine h0 ?_ w18 ((g4.trans g11).trans u18)
    unfold hrN frE
    rw[if_neg cm,hm]
    dsimp only
    rw[←ho,if_pos c]
   ·have c:Ajz m x=true:=c
    exact⟨u18,by unfold frE;rw[hm,←ho];exact c⟩
 rintro _ w14 ⟨u14,hf⟩ _
 have B14:=(B4.Ai g11).Ai u14
 have q14:=q1.Ai u14
 have x14:=k11.Ai u14
 have hN:hrN e l root m=if e.root≠root then 2 else if x.1≠m.1 then 2 else 1:=by
  unfold hrN;rw[if_neg cm,if_neg (by rw[hf];simp),hx]
 refine Bh.by (λz w'=>w'=w14∧hrN e l root m=if z.1=true then 2 else 1) ?_ ?_
 ·rw[Ac]
  refine B14.blk.i1 5 rfl (dS (λc=>⟨rfl,?_⟩) λc=>x14.c0 rfl (q14.c0 rfl ⟨rfl,?_⟩))
  ·have c:e.root≠root:=c
   rw[hN,if_pos c];rfl
  ·have c:e.root=root:=c
   rw[hN,if_neg (λh=>h c)]
   show _=if(x.1 !=m.1)=true then(2:Int) else 1
   by_cases hxm:x.1=m.1
   ·rw[if_neg (λh=>h hxm),if_neg (by simp[hxm])]
   ·rw[if_pos hxm,if_pos (by simp[hxm])]
 rintro⟨z,_⟩ _ ⟨rfl,hz⟩ _
 dsimp only at hz
 rw[Aq,Ac]
 have B:=B14.Ai (Ah.drew _)
 refine B.blk.c1 8 (c:=.m) (x:=some r) rfl (q14.drew.cA (cs:=MK) m rfl ?_)
 refine Arh (v:=m) B.map (kt:=T.int) (et:=T.Nc) (by kernel_rfl) (by kernel_rfl) λw30 M30 u30=>⟨trivial,?_⟩
 have ne:=Zb.ne hB.map hB.blk
 have b30:=B.blk.upd u30 ne
 rw[Ac]
 refine b30.sN 5 _ (by simp[elC]) rfl λw32 k32 u32=>?_
 rw[Ac]
 refine k32.sN 6 _ (by simp[elC,splice]) rfl λw34 k34 u34=>?_
 rw[Ac]
 refine k34.sN 7 _ (by simp[elC,splice]) rfl λw36 k36 u36=>?_
 have M36:=((M30.upd u32 (λh=>ne h.symm)).upd u34 (λh=>ne h.symm)).upd u36 (λh=>ne h.symm)
 have G14:=((g4.trans g11).trans u14).trans (Ah.drew _)
 have U:Ap (elS b r) w w36:=Ap.trans (Ap.trans (Ap.trans (Ap.trans (Ap.Ed G14) u30 λi _ h=>.inr h) u32 λi _ h=>.inl h) u34 λi _ h=>.inl h) u36 λi _ h=>.inl h
 have fin: ∀c,hrN e l root m=c→c≠0→k ((c,()),()) w36:=λc hc h=>h1 c hc h w36 ⟨k36,M36⟩ U
 refine bQ (λc=>?_) λc=>?_
 ·have c:z=true:=c
  rw[if_pos c] at hz
  exact fin 2 hz (by decide)
 ·have c:z=false:=c
  rw[if_neg (by rw[c];simp)] at hz
  exact fin 1 hz (by decide)
theorem Jr.cl{b r:Nat}{e:El}{l:Tz}{w:World}(hB:pJ w b r e l){k:TR [(false,[.b])]→WP}
  (h: ∀w',pJ w' b r (lU e) l→Ap (λz=>z=b) w w'→k ((btB e,()),()) w'):
  Ad prog F.Jr [.pointer (some ⟨b,0,none⟩)] w false [(false,[.b])] k:=by
 refine Jr.ok ?_
 have ne:=Zb.ne hB.map hB.blk
 refine Le rfl (A8.cl hB λw2 u2=>?_)
 have B2:=hB.Ai u2
 refine bQ (λc=>?_) λc=>?_
 ·have c:mine e=true:=c
  rw[Ac]
  refine B2.blk.i1 7 rfl ?_
  rw[Ac]
  refine B2.blk.sN 7 _ (by simp[elC]) rfl λw6 k6 u6=>?_
  have:=h w6 ⟨by unfold lU;rw[if_pos c];exact k6,(B2.map.upd u6 (λh=>ne h.symm))⟩ (Ap.trans (Ap.Ed u2) u6 λ_ _ h=>h)
  unfold btB at this;rw[if_pos c] at this;exact this
 ·have c: ¬mine e=true:=by have c:mine e=false:=c;rw[c];simp
  rw[Ac]
  refine B2.blk.i1 6 rfl ?_
  rw[Ac]
  refine B2.blk.sN 6 _ (by simp[elC]) rfl λw10 k10 u10=>?_
  have U10:Ap (λz=>z=b) w w10:=Ap.trans (Ap.Ed u2) u10 λ_ _ h=>h
  have M10:=B2.map.upd u10 (λh=>ne h.symm)
  change Ar w10 b (elC {e with beats:=wrap .i64 (e.beats+1)} (some r)) at k10
  rw[Aq,Ac]
  refine k10.drew.i1 6 rfl ?_
  rw[Ac]
  refine k10.drew.i1 1 rfl (Cf (λc2=>?_) λc2=>?_)
  ·have c2:wrap .i64 (e.beats+1)<e.tmo:=c2
   have:=h _ ⟨by unfold lU;rw[if_neg c,if_pos c2];exact k10.drew,M10.drew⟩ U10.drew
   unfold btB at this;rw[if_neg c,if_pos c2] at this;exact this
  ·have c2: ¬wrap .i64 (e.beats+1)<e.tmo:=c2
   rw[Aq,Ac]
   have k11:=k10.drew.drew
   refine k11.i0 rfl ?_
   rw[Ac]
   refine k11.c2 1 1 (x:=e.ign) rfl ?_
   rw[Ac]
   refine k11.sN 5 _ (by simp[elC]) rfl λw22 k22 u22=>⟨trivial,?_⟩
   rw[Ac]
   refine k22.sN 6 _ (by simp[elC,splice]) rfl λw24 k24 u24=>⟨trivial,?_⟩
   rw[Ac]
   refine k24.sN 7 _ (by simp[elC,splice]) rfl λw26 k26 u26=>⟨trivial,?_⟩
   have M26:=(((M10.drew.drew.upd u22 (λh=>ne h.symm)).upd u24 (λh=>ne h.symm)).upd u26 (λh=>ne h.symm))
   have:=h w26 ⟨by unfold lU;rw[if_neg c,if_neg c2];exact k26,M26⟩ (Ap.trans (Ap.trans (Ap.trans U10.drew.drew u22 λ_ _ h=>h) u24 λ_ _ h=>h) u26 λ_ _ h=>h)
   unfold btB at this;rw[if_neg c,if_neg c2] at this;exact this
theorem Iu.cl{b r:Nat}{e:El}{l:Tz}{w:World}(hB:pJ w b r e l){k:TR [(true,MK),(false,[.b])]→WP}
  (h: ∀w',pJ w' b r (isE e) l→Ap (λz=>z=b) w w'→k (isM e,(mine e,()),()) w'):
  Ad prog F.Iu [.pointer (some ⟨b,0,none⟩)] w true [(true,MK),(false,[.b])] k:=by
 refine Iu.ok ?_
 have ne:=Zb.ne hB.map hB.blk
 have lb:=hB.blk.lt
 refine Ae λp1 w2 e1 k1 u1=>A8.cl (hB.Ai u1) λw4 u4=>?_
 have B4:=(hB.Ai u1).Ai u4
 have k4:=k1.Ai u4
 unfold isE isM at h
 refine En (λc=>?_) λc=>?_
 ·have c:mine e=false:=c
  refine k4.E5 _ rfl rfl λw5 k5 u5=>k5.cA (cs:=MK) (0,0,()) rfl ?_
  have g5:Ah w w5:=Ap.trans (u1.trans u4) u5 λi hi h=>by omega
  rw[c,if_neg (by simp),if_neg (by simp)] at h
  exact h w5 (hB.Ai g5) (Ap.Ed g5)
 ·have c:mine e=true:=c
  rw[c,if_pos rfl,if_pos rfl] at h
  rw[Ac]
  refine B4.blk.c1 4 rfl (V6.cl ?_)
  rw[Ac]
  refine B4.blk.sN 4 _ (by simp[elC]) rfl λw12 k12 u12=>?_
  change Ar w12 b (elC {e with seq:=wrap .u16 (e.seq+1)} (some r)) at k12
  rw[Aq,Ac]
  refine k12.drew.c1 3 rfl ?_
  rw[Ac]
  refine k12.drew.c1 4 rfl ?_
  have n1:p1≠b:=by omega
  refine(k4.upd u12 n1).drew.E5 _ rfl rfl λw18 k18 u18=>⟨trivial,k18.cA (cs:=MK) (e.boot,wrap .u16 (e.seq+1),()) rfl ?_⟩
  have lr:=hB.map.lt
  refine h w18 ⟨k12.drew.upd u18 (λh=>n1 h.symm),((B4.map.upd u12 (λh=>ne h.symm)).drew).upd u18 (by omega)⟩ ?_
  exact Ap.trans (Ap.trans (Ap.Ed (u1.trans u4)) u12 λ_ _ h=>h).drew u18 λi hi h=>by omega
theorem Gx.cl{b r:Nat}{e:El}{l:Tz}{w:World}(hB:pJ w b r e l){k:TR [(true,MK),(false,[.b])]→WP}
  (h: ∀w',Ah w w'→k (mkM e l,(mkB e,()),()) w'):
  Ad prog F.Gx [.pointer (some ⟨b,0,none⟩)] w true [(true,MK),(false,[.b])] k:=by
 refine Gx.ok ?_
 have lb:=hB.blk.lt
 refine Ae λp1 w2 e1 k1 u1=>?_
 have B2:=hB.Ai u1
 unfold mkM mkB at h
 refine Bh.by (λz w'=>w'=w2∧(z.1=true↔e.root<0)) ?_ ?_
 ·refine Le rfl ?_
  rw[Ac]
  exact B2.blk.i1 5 rfl ⟨rfl,by simp⟩
 rintro⟨z,_⟩ _ ⟨rfl,hz⟩ _
 dsimp only at hz
 refine bQ (λc=>?_) λc=>?_
 ·have c:z=true:=c
  rw[if_pos (hz.1 c),if_pos (hz.1 c)] at h
  refine k1.E5 _ rfl rfl λw8 k8 u8=>k8.cA (cs:=MK) (0,0,()) rfl (h w8 (Ah.fresh (Ah.refl _) u1 u8 e1))
 have c:z=false:=c
 have hn: ¬e.root<0:=λx=>by rw[hz.2 x] at c;cases c
 rw[if_neg hn,if_neg hn] at h
 refine A8.cl B2 λw11 u11=>?_
 have B:=(B2.Ai u11).Ai (Ah.drew _)
 have k11:=(k1.Ai u11).drew
 have g:Ah w w11.drew:=(u1.trans u11).trans (Ah.drew _)
 refine bQ (λc=>?_) λc=>?_
 ·have c:mine e=true:=c
  rw[if_pos c,if_pos c] at h
  rw[Aq,Ac]
  refine B.blk.c1 3 rfl ?_
  rw[Ac]
  refine B.blk.c1 4 rfl ?_
  rw[Ac]
  refine B.blk.c1 4 rfl ?_
  refine k11.E5 _ rfl rfl λw19 k19 u19=>⟨⟨?_,trivial⟩,k19.cA (cs:=MK) (e.boot,e.seq,()) rfl (h w19 (Ap.trans g u19 λi hi h=>by omega))⟩
  exact B.blk.hold u19 (by omega) 4 (by simp[elC])
 ·have c: ¬mine e=true:=by have c:mine e=false:=c;rw[c];simp
  rw[if_neg c,if_neg c] at h
  rw[Aq,Ac]
  refine B.blk.c1 8 (c:=.m) (x:=some r) rfl ?_
  rw[Ac]
  refine B.blk.i1 5 rfl ?_
  refine Atm B.map (z:=((0:Int),(0:Int),())) (kt:=T.int) (et:=T.Nc) (by kernel_rfl) (by kernel_rfl) (λw=>by kernel_rfl) ⟨trivial,?_⟩
  refine k11.E5 _ rfl rfl λw27 k27 u27=>⟨trivial,k27.cA (cs:=MK) ((U5 l e.root).getD (0,0,())) rfl (h w27 (Ap.trans g u27 λi hi h=>by omega))⟩
end Go.Proofs.YtppeepkmnijdpaaGreatDoor
