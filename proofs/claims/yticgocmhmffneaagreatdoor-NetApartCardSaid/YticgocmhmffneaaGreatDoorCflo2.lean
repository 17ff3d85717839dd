import Derived.Test.YticgocmhmffneaaGreatDoorCflo
namespace Go.Proofs.YticgocmhmffneaaGreatDoor
open Go.Eng Go Tryz
open Go.IntKind (wrap)
set_option linter.unusedSimpArgs false
set_option linter.unusedVariables false
set_option maxRecDepth 100000
set_option maxHeartbeats 8000000
def mine(e:El):Bool:=e.root==e.me
def jA(e:El)(root:Int):Bool:=
  if root<0∨root≥e.me then false else if mine e=true then e.quiet==0 else if e.root<0 then true else decide (root≤e.root)
def wW(m o:Jf MK):Bool:=if tC m.1 o.1=true then true else if m.1=o.1 then tC m.2.1 o.2.1 else false
def frE(l:Um)(root:Int)(m:Jf MK):Bool:=match Vu l root with|some o=>wW m o|none=>true
def tX(e:El)(l:Um)(root:Int)(m:Jf MK):Int:=
  if jA e root=false then 0 else if frE l root m=false then 0 else if e.root≠root then 2 else if((Vu l root).getD (0,0,())).1≠m.1 then 2 else 1
def xU(e:El)(root:Int):El:={e with root:=root,beats:=0,quiet:=0}
def rE(e:El):Bool:=if mine e=true then false else if wrap .i64 (e.beats+1)<e.tmo then false else true
def eG(e:El):El:=
  if mine e=true then{e with quiet:=if 0>wrap .i64 (e.quiet-1) then 0 else wrap .i64 (e.quiet-1)}
  else if wrap .i64 (e.beats+1)<e.tmo then{e with beats:=wrap .i64 (e.beats+1)}
  else{e with root:=e.me,beats:=0,quiet:=e.ign}
def Uw(e:El):El:=if mine e=true then{e with seq:=wrap .u16 (e.seq+1)} else e
def isM(e:El):Jf MK:=if mine e=true then(e.boot,wrap .u16 (e.seq+1),()) else(0,0,())
def oN(e:El)(l:Um):Jf MK:=if e.root<0 then(0,0,()) else if mine e=true then(e.boot,e.seq,()) else(Vu l e.root).getD (0,0,())
def mkB(e:El):Bool:=if e.root<0 then false else if mine e=true then decide (e.seq>0) else true
theorem Dc.cl{b r:Nat}{e:El}{l:Um}{w:World}(hB:oJ w b r e l){k:TR [(false,[KI])]→WP}
    (h:k ((e.root,()),()) w):Ae prog F.Dc [.pointer (some ⟨b,0,none⟩)] w false [(false,[KI])] k:=by
  refine Dc.ok ?_
  unfold Dc.wp
  refine Jl rfl ?_
  rw[Ac]
  exact hB.blk.i1 5 rfl h
theorem Ns.cl{b r:Nat}{e:El}{l:Um}{root:Int}{w:World}(hB:oJ w b r e l){k:TR [(false,[.b])]→WP}
    (h: ∀w',Af w w'→k ((jA e root,()),()) w'):Ae prog F.Ns [.pointer (some ⟨b,0,none⟩),iV root] w false [(false,[.b])] k:=by
  refine Ns.ok ?_
  unfold Ns.wp
  refine Cc.by (fun z w'=>w'=w∧(z.1=true↔root<0∨root≥e.me)) ?_ ?_
  · refine Dx (fun c=>⟨rfl,by have c:root<0:=c;simp[c]⟩) fun c=>?_
    have c: ¬root<0:=c
    rw[Ac]
    exact hB.blk.i0 rfl ⟨rfl,by simp[c]⟩
  · rintro⟨z,_⟩ _ ⟨rfl,hz⟩ _
    dsimp only at hz
    unfold jA at h
    refine bM (fun c=>?_) fun c=>?_
    · have c:z=true:=c
      have:=h _ (Af.refl _)
      rw[if_pos (hz.1 c)] at this;exact this
    · have c:z=false:=c
      have hn: ¬(root<0∨root≥e.me):=fun x=>by rw[hz.2 x] at c;cases c
      rw[if_neg hn] at h
      refine Bc.cl hB fun w7 u7=>?_
      have hB:=hB.Ai u7
      refine bM (fun c=>?_) fun c=>?_
      · have c:mine e=true:=c
        rw[if_pos c] at h
        rw[Ac]
        exact hB.blk.i1 7 rfl (h _ u7)
      · have c:mine e=false:=c
        rw[if_neg (by rw[c];simp)] at h
        rw[Ac]
        refine hB.blk.i1 5 rfl (Dx (fun c=>?_) fun c=>?_)
        · have c:e.root<0:=c
          rw[if_pos c] at h;exact h _ u7
        · have c: ¬e.root<0:=c
          rw[if_neg c] at h
          rw[Ac]
          exact hB.blk.i1 5 rfl (h _ u7)
theorem Kw.cl{m o:Jf MK}{w:World}{k:TR [(false,[.b])]→WP}(h: ∀w',Af w w'→k ((wW m o,()),()) w'):
    Ae prog F.Kw [.agg #[uV m.1,uV m.2.1],.agg #[uV o.1,uV o.2.1]] w false [(false,[.b])] k:=by
  refine Kw.ok ?_
  unfold Kw.wp
  refine Ad fun p1 w2 e1 k1 u1=>Ad fun p3 w4 e3 k3 u3=>?_
  have q:=k1.Ai u3
  have g:=u1.trans u3
  unfold wW at h
  refine q.c0 rfl (k3.c0 rfl (Pz.cl (bM (fun c=>?_) fun c=>q.c0 rfl (k3.c0 rfl (Yl (fun c2=>q.c1 1 rfl (k3.c1 1 rfl (Pz.cl ?_))) fun c2=>?_)))))
  · have c:tC m.1 o.1=true:=c
    have:=h _ g
    rw[if_pos c] at this;exact this
  · have c:tC m.1 o.1=false:=c
    have c2:m.1=o.1:=c2
    have:=h _ g
    rw[if_neg (by rw[c];simp),if_pos c2] at this;exact this
  · have c:tC m.1 o.1=false:=c
    have c2:m.1≠o.1:=c2
    have:=h _ g
    rw[if_neg (by rw[c];simp),if_neg c2] at this;exact this
def elS(b r:Nat):NP:=fun z=>z=b∨z=r
theorem Lc.cl{b r:Nat}{e:El}{l:Um}{root:Int}{m:Jf MK}{w:World}(hB:oJ w b r e l){k:TR [(false,[KI])]→WP}
    (h0:tX e l root m=0→ ∀w',Af w w'→k ((0,()),()) w')
    (h1: ∀c,tX e l root m=c→c≠0→ ∀w',oJ w' b r (xU e root) (Xd l root m)→Am (elS b r) w w'→k ((c,()),()) w'):
    Ae prog F.Lc [.pointer (some ⟨b,0,none⟩),iV root,.agg #[uV m.1,uV m.2.1]] w false [(false,[KI])] k:=by
  refine Lc.ok ?_
  unfold Lc.wp
  refine Ad fun p1 w2 e1 k1 u1=>Jl rfl ?_
  have lb:=hB.blk.lt
  have lr:=hB.map.lt
  refine Ns.cl (hB.Ai u1) fun w4 u4=>Ee (fun c=>?_) fun c=>?_
  · have c:jA e root=false:=c
    exact h0 (by unfold tX;rw[if_pos c]) w4 (u1.trans u4)
  have cm: ¬jA e root=false:=by have c:jA e root=true:=c;rw[c];simp
  have g4:=u1.trans u4
  have B4:=hB.Ai g4
  rw[Ac]
  refine B4.blk.c1 8 (c:=.m) (x:=some r) rfl ?_
  refine Anh B4.map (z:=((0:Int),(0:Int),())) (kt:=T.int) (et:=T.Ti) (by kernel_rfl) (by kernel_rfl) (fun w=>by kernel_rfl) ?_
  generalize hx:(Vu l root).getD (0,0,())=x
  refine Ad fun p9 w10 e9 k9 u9=>k9.Fg _ rfl rfl fun w11 k11 u11=>?_
  have g11:Af w4 w11:=Af.fresh (Af.refl _) u9 u11 e9
  have q1:=k1.Ai (u4.trans g11)
  have l1:=k1.lt
  have s4:=u4.size
  refine Cc.by (fun _ w'=>Af w11 w'∧frE l root m=true) ?_ ?_
  · cases hm:Vu l root with
    |none=>exact Jl rfl ⟨Af.refl _,by unfold frE;rw[hm]⟩
    |some o=>
      have ho:x=o:=by rw[←hx,hm];rfl
      refine Vt rfl (q1.cA (cs:=MK) m rfl (k11.cA (cs:=MK) x rfl (Kw.cl fun w18 u18=>Ee (fun c=>?_) fun c=>?_)))
      · have c:wW m x=false:=c
        refine h0 ?_ w18 ((g4.trans g11).trans u18)
        unfold tX frE
        rw[if_neg cm,hm]
        dsimp only
        rw[←ho,if_pos c]
      · have c:wW m x=true:=c
        exact⟨u18,by unfold frE;rw[hm,←ho];exact c⟩
  rintro _ w14 ⟨u14,hf⟩ _
  have B14:=(B4.Ai g11).Ai u14
  have q14:=q1.Ai u14
  have x14:=k11.Ai u14
  have hN:tX e l root m=if e.root≠root then 2 else if x.1≠m.1 then 2 else 1:=by
    unfold tX;rw[if_neg cm,if_neg (by rw[hf];simp),hx]
  refine Cc.by (fun z w'=>w'=w14∧tX e l root m=if z.1=true then 2 else 1) ?_ ?_
  · rw[Ac]
    refine B14.blk.i1 5 rfl (bK (fun c=>⟨rfl,?_⟩) fun c=>x14.c0 rfl (q14.c0 rfl ⟨rfl,?_⟩))
    · have c:e.root≠root:=c
      rw[hN,if_pos c];rfl
    · have c:e.root=root:=c
      rw[hN,if_neg (fun h=>h c)]
      show _=if(x.1 !=m.1)=true then(2:Int) else 1
      by_cases hxm:x.1=m.1
      · rw[if_neg (fun h=>h hxm),if_neg (by simp[hxm])]
      · rw[if_pos hxm,if_pos (by simp[hxm])]
  rintro⟨z,_⟩ _ ⟨rfl,hz⟩ _
  dsimp only at hz
  rw[Be,Ac]
  have B:=B14.Ai (Af.drew _)
  refine B.blk.c1 8 (c:=.m) (x:=some r) rfl (q14.drew.cA (cs:=MK) m rfl ?_)
  refine An0 (v:=m) B.map (kt:=T.int) (et:=T.Ti) (by kernel_rfl) (by kernel_rfl) fun w30 M30 u30=>⟨trivial,?_⟩
  have ne:=Zr.ne hB.map hB.blk
  have b30:=B.blk.upd u30 ne
  rw[Ac]
  refine b30.sN 5 _ (by simp[lI]) rfl fun w32 k32 u32=>?_
  rw[Ac]
  refine k32.sN 6 _ (by simp[lI,splice]) rfl fun w34 k34 u34=>?_
  rw[Ac]
  refine k34.sN 7 _ (by simp[lI,splice]) rfl fun w36 k36 u36=>?_
  have M36:=((M30.upd u32 (fun h=>ne h.symm)).upd u34 (fun h=>ne h.symm)).upd u36 (fun h=>ne h.symm)
  have G14:=((g4.trans g11).trans u14).trans (Af.drew _)
  have U:Am (elS b r) w w36:=Am.trans (Am.trans (Am.trans (Am.trans (Am.Bj G14) u30 fun i _ h=>.inr h) u32 fun i _ h=>.inl h) u34 fun i _ h=>.inl h) u36 fun i _ h=>.inl h
  have fin: ∀c,tX e l root m=c→c≠0→k ((c,()),()) w36:=fun c hc h=>h1 c hc h w36 ⟨k36,M36⟩ U
  refine bM (fun c=>?_) fun c=>?_
  · have c:z=true:=c
    rw[if_pos c] at hz
    exact fin 2 hz (by decide)
  · have c:z=false:=c
    rw[if_neg (by rw[c];simp)] at hz
    exact fin 1 hz (by decide)
theorem Jt.cl{b r:Nat}{e:El}{l:Um}{w:World}(hB:oJ w b r e l){k:TR [(false,[.b])]→WP}
    (h: ∀w',oJ w' b r (eG e) l→Am (fun z=>z=b) w w'→k ((rE e,()),()) w'):
    Ae prog F.Jt [.pointer (some ⟨b,0,none⟩)] w false [(false,[.b])] k:=by
  refine Jt.ok ?_
  unfold Jt.wp
  have ne:=Zr.ne hB.map hB.blk
  refine Jl rfl (Bc.cl hB fun w2 u2=>?_)
  have B2:=hB.Ai u2
  refine bM (fun c=>?_) fun c=>?_
  · have c:mine e=true:=c
    rw[Ac]
    refine B2.blk.i1 7 rfl ?_
    rw[Ac]
    refine B2.blk.sN 7 _ (by simp[lI]) rfl fun w6 k6 u6=>?_
    have:=h w6 ⟨by unfold eG;rw[if_pos c];exact k6,(B2.map.upd u6 (fun h=>ne h.symm))⟩ (Am.trans (Am.Bj u2) u6 fun _ _ h=>h)
    unfold rE at this;rw[if_pos c] at this;exact this
  · have c: ¬mine e=true:=by have c:mine e=false:=c;rw[c];simp
    rw[Ac]
    refine B2.blk.i1 6 rfl ?_
    rw[Ac]
    refine B2.blk.sN 6 _ (by simp[lI]) rfl fun w10 k10 u10=>?_
    have U10:Am (fun z=>z=b) w w10:=Am.trans (Am.Bj u2) u10 fun _ _ h=>h
    have M10:=B2.map.upd u10 (fun h=>ne h.symm)
    change Az w10 b (lI {e with beats:=wrap .i64 (e.beats+1)} (some r)) at k10
    rw[Be,Ac]
    refine k10.drew.i1 6 rfl ?_
    rw[Ac]
    refine k10.drew.i1 1 rfl (Dx (fun c2=>?_) fun c2=>?_)
    · have c2:wrap .i64 (e.beats+1)<e.tmo:=c2
      have:=h _ ⟨by unfold eG;rw[if_neg c,if_pos c2];exact k10.drew,M10.drew⟩ U10.drew
      unfold rE at this;rw[if_neg c,if_pos c2] at this;exact this
    · have c2: ¬wrap .i64 (e.beats+1)<e.tmo:=c2
      rw[Be,Ac]
      have k11:=k10.drew.drew
      refine k11.i0 rfl ?_
      rw[Ac]
      refine k11.c2 1 1 (x:=e.ign) rfl ?_
      rw[Ac]
      refine k11.sN 5 _ (by simp[lI]) rfl fun w22 k22 u22=>⟨trivial,?_⟩
      rw[Ac]
      refine k22.sN 6 _ (by simp[lI,splice]) rfl fun w24 k24 u24=>⟨trivial,?_⟩
      rw[Ac]
      refine k24.sN 7 _ (by simp[lI,splice]) rfl fun w26 k26 u26=>⟨trivial,?_⟩
      have M26:=(((M10.drew.drew.upd u22 (fun h=>ne h.symm)).upd u24 (fun h=>ne h.symm)).upd u26 (fun h=>ne h.symm))
      have:=h w26 ⟨by unfold eG;rw[if_neg c,if_neg c2];exact k26,M26⟩ (Am.trans (Am.trans (Am.trans U10.drew.drew u22 fun _ _ h=>h) u24 fun _ _ h=>h) u26 fun _ _ h=>h)
      unfold rE at this;rw[if_neg c,if_neg c2] at this;exact this
theorem I5.cl{b r:Nat}{e:El}{l:Um}{w:World}(hB:oJ w b r e l){k:TR [(true,MK),(false,[.b])]→WP}
    (h: ∀w',oJ w' b r (Uw e) l→Am (fun z=>z=b) w w'→k (isM e,(mine e,()),()) w'):
    Ae prog F.I5 [.pointer (some ⟨b,0,none⟩)] w true [(true,MK),(false,[.b])] k:=by
  refine I5.ok ?_
  unfold I5.wp
  have ne:=Zr.ne hB.map hB.blk
  have lb:=hB.blk.lt
  refine Ad fun p1 w2 e1 k1 u1=>Bc.cl (hB.Ai u1) fun w4 u4=>?_
  have B4:=(hB.Ai u1).Ai u4
  have k4:=k1.Ai u4
  unfold Uw isM at h
  refine Ee (fun c=>?_) fun c=>?_
  · have c:mine e=false:=c
    refine k4.Fg _ rfl rfl fun w5 k5 u5=>k5.cA (cs:=MK) (0,0,()) rfl ?_
    have g5:Af w w5:=Am.trans (u1.trans u4) u5 fun i hi h=>by omega
    rw[c,if_neg (by simp),if_neg (by simp)] at h
    exact h w5 (hB.Ai g5) (Am.Bj g5)
  · have c:mine e=true:=c
    rw[c,if_pos rfl,if_pos rfl] at h
    rw[Ac]
    refine B4.blk.c1 4 rfl (Qu.cl ?_)
    rw[Ac]
    refine B4.blk.sN 4 _ (by simp[lI]) rfl fun w12 k12 u12=>?_
    change Az w12 b (lI {e with seq:=wrap .u16 (e.seq+1)} (some r)) at k12
    rw[Be,Ac]
    refine k12.drew.c1 3 rfl ?_
    rw[Ac]
    refine k12.drew.c1 4 rfl ?_
    have n1:p1≠b:=by omega
    refine(k4.upd u12 n1).drew.Fg _ rfl rfl fun w18 k18 u18=>⟨trivial,k18.cA (cs:=MK) (e.boot,wrap .u16 (e.seq+1),()) rfl ?_⟩
    have lr:=hB.map.lt
    refine h w18 ⟨k12.drew.upd u18 (fun h=>n1 h.symm),((B4.map.upd u12 (fun h=>ne h.symm)).drew).upd u18 (by omega)⟩ ?_
    exact Am.trans (Am.trans (Am.Bj (u1.trans u4)) u12 fun _ _ h=>h).drew u18 fun i hi h=>by omega
theorem Hl.cl{b r:Nat}{e:El}{l:Um}{w:World}(hB:oJ w b r e l){k:TR [(true,MK),(false,[.b])]→WP}
    (h: ∀w',Af w w'→k (oN e l,(mkB e,()),()) w'):
    Ae prog F.Hl [.pointer (some ⟨b,0,none⟩)] w true [(true,MK),(false,[.b])] k:=by
  refine Hl.ok ?_
  unfold Hl.wp
  have lb:=hB.blk.lt
  refine Ad fun p1 w2 e1 k1 u1=>?_
  have B2:=hB.Ai u1
  unfold oN mkB at h
  refine Cc.by (fun z w'=>w'=w2∧(z.1=true↔e.root<0)) ?_ ?_
  · refine Jl rfl ?_
    rw[Ac]
    exact B2.blk.i1 5 rfl ⟨rfl,by simp⟩
  rintro⟨z,_⟩ _ ⟨rfl,hz⟩ _
  dsimp only at hz
  refine bM (fun c=>?_) fun c=>?_
  · have c:z=true:=c
    rw[if_pos (hz.1 c),if_pos (hz.1 c)] at h
    refine k1.Fg _ rfl rfl fun w8 k8 u8=>k8.cA (cs:=MK) (0,0,()) rfl (h w8 (Af.fresh (Af.refl _) u1 u8 e1))
  have c:z=false:=c
  have hn: ¬e.root<0:=fun x=>by rw[hz.2 x] at c;cases c
  rw[if_neg hn,if_neg hn] at h
  refine Bc.cl B2 fun w11 u11=>?_
  have B:=(B2.Ai u11).Ai (Af.drew _)
  have k11:=(k1.Ai u11).drew
  have g:Af w w11.drew:=(u1.trans u11).trans (Af.drew _)
  refine bM (fun c=>?_) fun c=>?_
  · have c:mine e=true:=c
    rw[if_pos c,if_pos c] at h
    rw[Be,Ac]
    refine B.blk.c1 3 rfl ?_
    rw[Ac]
    refine B.blk.c1 4 rfl ?_
    rw[Ac]
    refine B.blk.c1 4 rfl ?_
    refine k11.Fg _ rfl rfl fun w19 k19 u19=>⟨⟨?_,trivial⟩,k19.cA (cs:=MK) (e.boot,e.seq,()) rfl (h w19 (Am.trans g u19 fun i hi h=>by omega))⟩
    exact B.blk.hold u19 (by omega) 4 (by simp[lI])
  · have c: ¬mine e=true:=by have c:mine e=false:=c;rw[c];simp
    rw[if_neg c,if_neg c] at h
    rw[Be,Ac]
    refine B.blk.c1 8 (c:=.m) (x:=some r) rfl ?_
    rw[Ac]
    refine B.blk.i1 5 rfl ?_
    refine Amx B.map (z:=((0:Int),(0:Int),())) (kt:=T.int) (et:=T.Ti) (by kernel_rfl) (by kernel_rfl) (fun w=>by kernel_rfl) ⟨trivial,?_⟩
    refine k11.Fg _ rfl rfl fun w27 k27 u27=>⟨trivial,k27.cA (cs:=MK) ((Vu l e.root).getD (0,0,())) rfl (h w27 (Am.trans g u27 fun i hi h=>by omega))⟩
end Go.Proofs.YticgocmhmffneaaGreatDoor
