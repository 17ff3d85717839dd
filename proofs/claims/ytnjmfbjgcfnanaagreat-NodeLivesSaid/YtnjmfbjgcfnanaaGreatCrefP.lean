import Derived.Test.YtnjmfbjgcfnanaaGreatCfloS
namespace Go.Proofs.YtnjmfbjgcfnanaaGreat
open Go.Eng Go Tryz
open Go.IntKind (wrap)
set_option linter.unusedSimpArgs false
set_option linter.unusedVariables false
set_option maxRecDepth 100000
set_option maxHeartbeats 8000000
theorem Aho(a:Int):tC a a=false:=by
  unfold tC;rw[Int.sub_self];decide
theorem Uf.cl{m o:Jf MK}(hm:Xe m.1∧Xe m.2.1)(ho:Xe o.1∧Xe o.2.1){w:World}{k:TR [(false,[.b])]→WP}(h:k ((wW m o,()),()) w):
    Ae prog F.Uf [uV m.1,uV m.2.1,uV o.1,uV o.2.1] w false [(false,[.b])] k:=by
  refine Uf.ok ?_
  unfold Uf.wp
  unfold wW at h
  refine Yl (fun c=>?_) fun c=>?_
  · have c:m.1=o.1:=c
    rw[if_neg (by rw[c,Aho];simp),if_pos c] at h
    exact Oc.cl hm.2 ho.2 h
  · have c:m.1≠o.1:=c
    rw[if_neg c] at h
    refine Oc.cl hm.1 ho.1 ?_
    cases hn:tC m.1 o.1
    · rw[if_neg (by rw[hn];simp)] at h;exact h
    · rw[if_pos hn] at h;exact h
structure EI(e:El)(l:Um):Prop where
  me0:0≤e.me
  me1:e.me<64
  tmo:1≤e.tmo∧e.tmo≤1000
  ign:0≤e.ign∧e.ign≤1000
  beats:0≤e.beats∧e.beats≤1000
  quiet:0≤e.quiet∧e.quiet≤1000
  root: -1≤e.root∧e.root≤e.me
  known:0≤e.root→e.root≠e.me→(Vu l e.root).isSome=true
  boot:Xe e.boot
  seq:Xe e.seq
  marks: ∀(k:Int) (m:Jf MK),Vu l k=some m→Xe m.1∧Xe m.2.1
def kn(l:Um)(i:Nat):Bool:=(Vu l (i:Int)).isSome
def mk(l:Um)(i:Nat):Jf MK:=(Vu l (i:Int)).getD (0,0,())
def rc(e:El)(l:Um):Nat→Value
  |0=>iV e.me
  |1=>iV e.tmo
  |2=>iV e.ign
  |3=>uV e.boot
  |4=>uV e.seq
  |5=>iV e.root
  |6=>iV e.beats
  |7=>iV e.quiet
  |j+8=>if j<64 then .bool (kn l j) else if j<128 then uV (mk l (j-64)).1 else uV (mk l (j-128)).2.1
theorem rc8(e:El)(l:Um)(j:Nat):rc e l (j+8)=if j<64 then .bool (kn l j) else if j<128 then uV (mk l (j-64)).1 else uV (mk l (j-128)).2.1:=rfl
def Zb(e:El)(l:Um):List Value:=(List.range 200).map (rc e l)
theorem Ls(e:El)(l:Um):(Zb e l).length=200:=by unfold Zb;rw[List.length_map,List.length_range]
theorem Ep{e:El}{l:Um}{j:Nat}(h:j<200):(Zb e l)[j]? =some (rc e l j):=by
  unfold Zb;rw[List.getElem?_map,List.getElem?_range h];rfl
theorem Abs{e:El}{l:Um}{k:Nat}(h:k<64):(Zb e l)[8+k]? =some (.bool (kn l k)):=by
  rw[Ep (by omega),show 8+k=k+8 by omega]
  rw[rc8,if_pos h]
theorem yA{e:El}{l:Um}{k:Nat}(h:k<64):(Zb e l)[72+k]? =some (uV (mk l k).1):=by
  rw[Ep (by omega),show 72+k=(k+64)+8 by omega]
  rw[rc8,if_neg (by omega),if_pos (by omega),Nat.add_sub_cancel]
theorem Acd{e:El}{l:Um}{k:Nat}(h:k<64):(Zb e l)[136+k]? =some (uV (mk l k).2.1):=by
  rw[Ep (by omega),show 136+k=(k+128)+8 by omega]
  rw[rc8,if_neg (by omega),if_neg (by omega),Nat.add_sub_cancel]
theorem yB{cs:List Value}{e:El}{l:Um}(hl:cs.length=200)(h: ∀i,i<200→cs[i]? =some (rc e l i)):cs=Zb e l:=by
  apply List.ext_getElem?
  intro i
  by_cases hi:i<200
  · rw[h i hi,Ep hi]
  · rw[List.getElem?_eq_none (by omega),List.getElem?_eq_none (by rw[Ls];omega)]
theorem Zu{cs:List Value}{j i:Nat}{v u:Value}(hj:j<cs.length)(h:i≠j→cs[i]? =some u)(h2:i=j→v=u):(cs.set j v)[i]? =some u:=by
  rw[List.getElem?_set]
  by_cases c:j=i
  · rw[if_pos c,if_pos hj,h2 c.symm]
  · rw[if_neg c];exact h (fun x=>c x.symm)
theorem Az.sN2{b:Nat}{k:WP}(o p:Nat)(vs:List Value){w:World}{cs:List Value}(h:Az w b cs)(hi:o+p+vs.length≤cs.length)(hv:vs.all okc=true)
    (hk: ∀w',Az w' b (splice cs (o+p) vs)→Am (fun x=>x=b) w w'→k w'):Au vs (Addr.add (Addr.add ⟨b,0,none⟩ o) p) 0 w k:=by
  rw[add_add];exact h.sN (o+p) vs hi hv hk
theorem oQ{e e':El}{l l':Um}{j:Nat}{v:Value}(hj:j<8)(hv:v=rc e' l' j)(h: ∀i,i<200→i≠j→rc e' l' i=rc e l i):(Zb e l).set j v=Zb e' l':=by
  refine yB (by rw[List.length_set,Ls]) fun i hi=>Zu (by rw[Ls];omega) (fun c=>?_) fun c=>by rw[c];exact hv
  rw[Ep hi,h i hi c]
theorem Af1{l:Um}{k i:Nat}{m:Jf MK}:kn (Xd l (k:Int) m) i=if i=k then true else kn l i:=by
  unfold kn;rw[bY]
  by_cases c:i=k
  · subst c;simp
  · rw[if_neg (by omega),if_neg c]
theorem xE{l:Um}{k i:Nat}{m:Jf MK}:mk (Xd l (k:Int) m) i=if i=k then m else mk l i:=by
  unfold mk;rw[bY]
  by_cases c:i=k
  · subst c;simp
  · rw[if_neg (by omega),if_neg c]
theorem Ags{e:El}{l:Um}{k:Nat}{m:Jf MK}(hk:k<64):
    ((((((Zb e l).set (8+k) (.bool true)).set (72+k) (uV m.1)).set (136+k) (uV m.2.1)).set 5 (iV (k:Int))).set 6 (iV 0)).set 7 (iV 0)=Zb (xU e k) (Xd l k m):=by
  refine yB (by simp[Ls]) fun i hi=>?_
  refine Zu (by simp[Ls]) (fun c7=>?_) fun c=>by rw[c];rfl
  refine Zu (by simp[Ls]) (fun c6=>?_) fun c=>by rw[c];rfl
  refine Zu (by simp[Ls]) (fun c5=>?_) fun c=>by rw[c];rfl
  refine Zu (by simp[Ls];omega) (fun c3=>?_) fun c=>?_
  · refine Zu (by simp[Ls];omega) (fun c2=>?_) fun c=>?_
    · refine Zu (by simp[Ls];omega) (fun c1=>?_) fun c=>?_
      · rw[Ep hi]
        match i,hi,c1,c2,c3,c5,c6,c7 with
        |0,_,_,_,_,_,_,_=>rfl
        |1,_,_,_,_,_,_,_=>rfl
        |2,_,_,_,_,_,_,_=>rfl
        |3,_,_,_,_,_,_,_=>rfl
        |4,_,_,_,_,_,_,_=>rfl
        |5,_,_,_,_,c,_,_=>exact absurd rfl c
        |6,_,_,_,_,_,c,_=>exact absurd rfl c
        |7,_,_,_,_,_,_,c=>exact absurd rfl c
        |j+8,hj,c1,c2,c3,_,_,_=>
          show some (if j<64 then Value.bool (kn l j) else if j<128 then uV (mk l (j-64)).1 else uV (mk l (j-128)).2.1)=some (if j<64 then Value.bool (kn (Xd l k m) j) else if j<128 then uV (mk (Xd l k m) (j-64)).1 else uV (mk (Xd l k m) (j-128)).2.1)
          rw[Af1,xE,xE]
          by_cases d1:j<64
          · rw[if_pos d1,if_pos d1,if_neg (by omega)]
          · rw[if_neg d1,if_neg d1]
            by_cases d2:j<128
            · rw[if_pos d2,if_pos d2,if_neg (by omega)]
            · rw[if_neg d2,if_neg d2,if_neg (show¬j-128=k by omega)]
      · have h:some (rc (xU e k) (Xd l k m) i)=some (Value.bool (kn (Xd l k m) k)):=(Ep hi).symm.trans (by rw[c];exact Abs hk)
        rw[Af1,if_pos rfl] at h
        injection h with h;exact h.symm
    · have h:some (rc (xU e k) (Xd l k m) i)=some (Value.int .u16 (mk (Xd l k m) k).1):=(Ep hi).symm.trans (by rw[c];exact yA hk)
      rw[xE,if_pos rfl] at h
      injection h with h;exact h.symm
  · have h:some (rc (xU e k) (Xd l k m) i)=some (Value.int .u16 (mk (Xd l k m) k).2.1):=(Ep hi).symm.trans (by rw[c];exact Acd hk)
    rw[xE,if_pos rfl] at h
    injection h with h;exact h.symm
theorem EI.new{me r0 r1 boot:Int}(h0:0≤me)(h1:me<64)(h2:elG r0 r1=true)(hb:Xe boot):EI ⟨me,r0,r1,boot,0,-1,0,0⟩ []:=by
  have h2:=lF.1 h2
  exact⟨h0,h1,by dsimp only;omega,by dsimp only;omega,by dsimp only;omega,by dsimp only;omega,by dsimp only;omega,fun h=>by dsimp only at h;omega,hb,by show Xe 0;unfold Xe;omega,fun k m h=>by cases h⟩
theorem EI.Ri{e:El}{l:Um}(h:EI e l):EI (eG e) l:=by
  obtain⟨a0,a1,a2,a3,a4,a5,a6,a7,a8,a9,a10⟩:=h
  unfold eG
  by_cases c:mine e=true
  · rw[if_pos c]
    have wq:wrap .i64 (e.quiet-1)=e.quiet-1:=Ah (by unfold I64;omega)
    refine⟨a0,a1,a2,a3,a4,?_,a6,a7,a8,a9,a10⟩
    show 0≤(if 0>wrap .i64 (e.quiet-1) then 0 else wrap .i64 (e.quiet-1))∧(if 0>wrap .i64 (e.quiet-1) then 0 else wrap .i64 (e.quiet-1))≤1000
    rw[wq]
    by_cases d:0>e.quiet-1
    · rw[if_pos d];omega
    · rw[if_neg d];omega
  · rw[if_neg c]
    have wb:wrap .i64 (e.beats+1)=e.beats+1:=Ah (by unfold I64;omega)
    rw[wb]
    by_cases d:e.beats+1<e.tmo
    · rw[if_pos d]
      exact⟨a0,a1,a2,a3,by show 0≤e.beats+1∧e.beats+1≤1000;omega,a5,a6,a7,a8,a9,a10⟩
    · rw[if_neg d]
      exact⟨a0,a1,a2,a3,by show(0:Int)≤0∧(0:Int)≤1000;omega,a3,by show-1≤e.me∧e.me≤e.me;omega,fun _ h=>absurd rfl h,a8,a9,a10⟩
theorem EI.rW{e:El}{l:Um}(h:EI e l):EI (rW e) l:=by
  unfold Go.Proofs.YtnjmfbjgcfnanaaGreat.rW
  split
  · exact⟨h.me0,h.me1,h.tmo,h.ign,h.beats,h.quiet,h.root,h.known,h.boot,by show Xe (wrap .u16 _);rw[oL];unfold Xe;omega,h.marks⟩
  · exact h
theorem EI.yL{e:El}{l:Um}(h:EI e l)(loc:Int):EI (yL e loc) l:=by
  unfold Go.Proofs.YtnjmfbjgcfnanaaGreat.yL
  split
  · exact h.Ri.rW
  · exact h.Ri
theorem EI.hear{e:El}{l:Um}(h:EI e l){root:Int}{m:Jf MK}(h0:0≤root)(h1:root<e.me)(hm:Xe m.1∧Xe m.2.1):EI (xU e root) (Xd l root m):=by
  refine⟨h.me0,h.me1,h.tmo,h.ign,by show(0:Int)≤0∧(0:Int)≤1000;omega,by show(0:Int)≤0∧(0:Int)≤1000;omega,by show-1≤root∧root≤e.me;omega,fun _ _=>?_,h.boot,h.seq,fun k x hx=>?_⟩
  · rw[bY];show(if root=root then some m else Vu l root).isSome=true;rw[if_pos rfl];rfl
  · rw[bY] at hx
    by_cases c:k=root
    · rw[if_pos c] at hx;injection hx with hx;rw[←hx];exact hm
    · rw[if_neg c] at hx;exact h.marks k x hx
theorem Ve.cl{me r0 r1:Int}{w:World}{k:TR [(false,[.b])]→WP}(h:k ((decide (0≤me)&&decide (me<64)&&elG r0 r1,()),()) w):Ae prog F.Ve [iV me,iV r0,iV r1] w false [(false,[.b])] k:=by
  refine Ve.ok ?_
  unfold Ve.wp
  have key: ∀b:Bool,(b=true↔0≤me∧me<64∧1≤r0∧r0≤1000∧0≤r1∧r1≤1000)→k ((b,()),()) w:=fun b hb=>by
    have:b=(decide (0≤me)&&decide (me<64)&&elG r0 r1):=by rw[Bool.eq_iff_iff,hb];simp[lF,and_assoc]
    rw[this];exact h
  refine Dx (fun c1=>Dx (fun c2=>Dx (fun c3=>Dx (fun c4=>Dx (fun c5=>key _ ?_) fun c5=>key _ ?_) fun c4=>key _ ?_) fun c3=>key _ ?_) fun c2=>key _ ?_) fun c1=>key _ ?_<;>simp<;>omega
theorem Wj.cl{me r0 r1 boot:Int}{w:World}{k:TR [(false,[.p])]→WP}(h: ∀b w',w.heap.size≤b→Az w' b (Zb ⟨me,r0,r1,boot,0,-1,0,0⟩ [])→Af w w'→k ((some ⟨b,0,none⟩,()),()) w'):
    Ae prog F.Wj [iV me,iV r0,iV r1,uV boot] w false [(false,[.p])] k:=by
  refine Wj.ok ?_
  unfold Wj.wp
  refine Ad fun b w2 e k1 u1=>h b w2 (by omega) ?_ u1
  have e2:Zb ⟨me,r0,r1,boot,0,-1,0,0⟩ []=rc ⟨me,r0,r1,boot,0,-1,0,0⟩ [] 0::rc ⟨me,r0,r1,boot,0,-1,0,0⟩ [] 1::rc ⟨me,r0,r1,boot,0,-1,0,0⟩ [] 2::rc ⟨me,r0,r1,boot,0,-1,0,0⟩ [] 3::rc ⟨me,r0,r1,boot,0,-1,0,0⟩ [] 4::rc ⟨me,r0,r1,boot,0,-1,0,0⟩ [] 5::rc ⟨me,r0,r1,boot,0,-1,0,0⟩ [] 6::rc ⟨me,r0,r1,boot,0,-1,0,0⟩ [] 7::(List.replicate 64 (Value.bool false)++List.replicate 128 (Value.int .u16 0)):=by
    refine(yB (by simp) fun i hi=>?_).symm
    match i,hi with
    |0,_=>rfl
    |1,_=>rfl
    |2,_=>rfl
    |3,_=>rfl
    |4,_=>rfl
    |5,_=>rfl
    |6,_=>rfl
    |7,_=>rfl
    |j+8,hj=>
      rw[rc8]
      show(List.replicate 64 (Value.bool false)++List.replicate 128 (Value.int .u16 0))[j]? =_
      by_cases d1:j<64
      · rw[if_pos d1,List.getElem?_append_left (by simpa using d1),List.getElem?_replicate,if_pos d1];rfl
      · rw[if_neg d1,List.getElem?_append_right (by simp;omega),List.getElem?_replicate,if_pos (by simp;omega)]
        by_cases d2:j<128
        · rw[if_pos d2];rfl
        · rw[if_neg d2];rfl
  rw[e2]
  exact k1
theorem Jv.cl{b:Nat}{e:El}{l:Um}{w:World}(hB:Az w b (Zb e l))(hI:EI e l){k:TR [(false,[.b])]→WP}
    (h: ∀w',Az w' b (Zb (eG e) l)→Am (fun z=>z=b) w w'→k ((btB e,()),()) w'):
    Ae prog F.Jv [.pointer (some ⟨b,0,none⟩)] w false [(false,[.b])] k:=by
  refine Jv.ok ?_
  unfold Jv.wp
  have hq:=hI.quiet
  have hb:=hI.beats
  have wq:wrap .i64 (e.quiet-1)=e.quiet-1:=Ah (by unfold I64;omega)
  have wb:wrap .i64 (e.beats+1)=e.beats+1:=Ah (by unfold I64;omega)
  unfold eG btB at h
  rw[wq,wb] at h
  rw[Ap,Ac]
  have B:=hB.drew
  have U0:Am (fun z=>z=b) w w.drew:=Am.Bj (Af.drew w)
  refine B.c1 5 (x:=e.root) (Ep (by decide)) ?_
  rw[Ac]
  refine B.c0 (x:=e.me) (Ep (by decide)) (Yl (fun c=>?_) fun c=>?_)
  · have c:mine e=true:=aX c
    rw[if_pos c,if_pos c] at h
    rw[Ac]
    refine B.c1 7 (x:=e.quiet) (Ep (by decide)) (Dx (fun d=>?_) fun d=>?_)
    · have d:e.quiet>0:=d
      rw[if_neg (by omega)] at h
      rw[Ac]
      refine B.c1 7 (x:=e.quiet) (Ep (by decide)) ?_
      rw[Ac,wq]
      refine B.sN 7 _ (by simp[Ls]) rfl fun w11 k11 u11=>h w11 ?_ (Am.trans U0 u11 fun _ _ h=>h)
      have:(Zb e l).set 7 (iV (e.quiet-1))=Zb {e with quiet:=e.quiet-1} l:=oQ (by decide) rfl fun i hi hn=>by
        match i,hn with
        |0,_=>rfl
        |1,_=>rfl
        |2,_=>rfl
        |3,_=>rfl
        |4,_=>rfl
        |5,_=>rfl
        |6,_=>rfl
        |7,h=>exact absurd rfl h
        |j+8,_=>rfl
      rw[←this];exact k11
    · have d: ¬e.quiet>0:=d
      have q0:e.quiet=0:=by omega
      refine h _ ?_ U0
      rw[q0,if_pos (by decide)]
      have:({e with quiet:=0}:El)=e:=by rw[←q0]
      rw[this];exact B
  · have c: ¬mine e=true:=fun h=>c (Z8 h)
    rw[if_neg c,if_neg c] at h
    rw[Ac]
    refine B.c1 6 (x:=e.beats) (Ep (by decide)) ?_
    rw[Ac,wb]
    refine B.sN 6 _ (by simp[Ls]) rfl fun w15 k15 u15=>?_
    have k15:Az w15 b (Zb {e with beats:=e.beats+1} l):=by
      have:(Zb e l).set 6 (iV (e.beats+1))=Zb {e with beats:=e.beats+1} l:=oQ (by decide) rfl fun i hi hn=>by
        match i,hn with
        |0,_=>rfl
        |1,_=>rfl
        |2,_=>rfl
        |3,_=>rfl
        |4,_=>rfl
        |5,_=>rfl
        |6,h=>exact absurd rfl h
        |7,_=>rfl
        |j+8,_=>rfl
      rw[←this];exact k15
    have U15:Am (fun z=>z=b) w w15:=Am.trans U0 u15 fun _ _ h=>h
    rw[Ap,Ac]
    refine k15.drew.c1 6 (x:=e.beats+1) (Ep (by decide)) ?_
    rw[Ac]
    refine k15.drew.c1 1 (x:=e.tmo) (Ep (by decide)) (Dx (fun d=>?_) fun d=>?_)
    · have d:e.beats+1<e.tmo:=d
      rw[if_pos d,if_pos d] at h
      exact h _ k15.drew U15.drew
    · have d: ¬e.beats+1<e.tmo:=d
      rw[if_neg d,if_neg d] at h
      rw[Ac]
      refine k15.drew.c0 (x:=e.me) (Ep (by decide)) ?_
      rw[Ac]
      refine k15.drew.sN 5 _ (by simp[Ls]) rfl fun w24 k24 u24=>?_
      rw[Ac]
      refine k24.sN 6 _ (by simp[Ls,splice]) rfl fun w26 k26 u26=>?_
      rw[Ac]
      have eq:(((Zb {e with beats:=e.beats+1} l).set 5 (iV e.me)).set 6 (iV 0))=Zb {e with root:=e.me,beats:=0} l:=by
        refine yB (by simp[Ls]) fun i hi=>Zu (by simp[Ls]) (fun c6=>Zu (by simp[Ls]) (fun c5=>?_) fun c=>by rw[c];rfl) fun c=>by rw[c];rfl
        rw[Ep hi]
        match i,c5,c6 with
        |0,_,_=>rfl
        |1,_,_=>rfl
        |2,_,_=>rfl
        |3,_,_=>rfl
        |4,_,_=>rfl
        |5,h,_=>exact absurd rfl h
        |6,_,h=>exact absurd rfl h
        |7,_,_=>rfl
        |j+8,_,_=>rfl
      have k26:Az w26 b (Zb {e with root:=e.me,beats:=0} l):=by rw[←eq];exact k26
      refine k26.c1 2 (x:=e.ign) (Ep (by decide)) ?_
      rw[Ac]
      refine k26.sN 7 _ (by simp[Ls]) rfl fun w30 k30 u30=>h w30 ?_ ?_
      · have:(Zb {e with root:=e.me,beats:=0} l).set 7 (iV e.ign)=Zb {e with root:=e.me,beats:=0,quiet:=e.ign} l:=oQ (by decide) rfl fun i hi hn=>by
          match i,hn with
          |0,_=>rfl
          |1,_=>rfl
          |2,_=>rfl
          |3,_=>rfl
          |4,_=>rfl
          |5,_=>rfl
          |6,_=>rfl
          |7,h=>exact absurd rfl h
          |j+8,_=>rfl
        rw[←this];exact k30
      · exact Am.trans (Am.trans (Am.trans U15.drew u24 fun _ _ h=>h) u26 fun _ _ h=>h) u30 fun _ _ h=>h
theorem Ho.cl{b:Nat}{e:El}{l:Um}{w:World}(hB:Az w b (Zb e l))(hI:EI e l){k:TR [(false,[KU]),(false,[KU]),(false,[.b])]→WP}
    (h: ∀w',Af w w'→k (((oN e l).1,()),((oN e l).2.1,()),(mkB e,()),()) w'):
    Ae prog F.Ho [.pointer (some ⟨b,0,none⟩)] w true [(false,[KU]),(false,[KU]),(false,[.b])] k:=by
  refine Ho.ok ?_
  unfold Ho.wp
  unfold oN mkB at h
  rw[Ac]
  refine hB.c1 5 (x:=e.root) (Ep (by decide)) (Dx (fun c=>?_) fun c=>?_)
  · have c:e.root<0:=c
    rw[if_pos c,if_pos c] at h
    exact h w (Af.refl w)
  have c: ¬e.root<0:=c
  rw[if_neg c,if_neg c] at h
  rw[Ap,Ac]
  have B:=hB.drew
  refine B.c1 5 (x:=e.root) (Ep (by decide)) ?_
  rw[Ac]
  refine B.c0 (x:=e.me) (Ep (by decide)) (Yl (fun d=>?_) fun d=>?_)
  · have d:mine e=true:=aX d
    rw[if_pos d,if_pos d] at h
    rw[Ap,Ac]
    refine B.drew.c1 3 (x:=e.boot) (Ep (by decide)) ?_
    rw[Ac]
    refine B.drew.c1 4 (x:=e.seq) (Ep (by decide)) ?_
    rw[Ac]
    exact B.drew.c1 4 (x:=e.seq) (Ep (by decide)) (h _ ((Af.drew w).trans (Af.drew _)))
  · have d: ¬mine e=true:=fun h=>d (Z8 h)
    rw[if_neg d,if_neg d] at h
    rw[Ap,Ac]
    refine B.drew.c1 5 (x:=e.root) (Ep (by decide)) ?_
    rw[Ac]
    have hr:=hI.root
    have hm:=hI.me1
    obtain⟨n,hn⟩: ∃n:Nat,e.root=n:=⟨e.root.toNat,by omega⟩
    rw[hn] at h⊢
    have t1:((n:Int)).toNat*1=n:=by simp
    rw[Tq (show 0≤(n:Int)∧(n:Int)<((64:Nat):Int) by omega)]
    refine B.drew.c2 72 _ (c:=KU) (x:=(mk l n).1) (by rw[t1];exact yA (by omega)) ?_
    rw[Ac]
    refine B.drew.c1 5 (x:=e.root) (Ep (by decide)) ?_
    rw[Ac,hn,Tq (show 0≤(n:Int)∧(n:Int)<((64:Nat):Int) by omega)]
    exact B.drew.c2 136 _ (c:=KU) (x:=(mk l n).2.1) (by rw[t1];exact Acd (by omega)) (h _ ((Af.drew w).trans (Af.drew _)))
theorem Ju.cl{b:Nat}{e:El}{l:Um}{root:Int}{m:Jf MK}{w:World}(hB:Az w b (Zb e l))(hI:EI e l)(hm:Xe m.1∧Xe m.2.1){k:TR [(false,[KI])]→WP}
    (h0:tX e l root m=0→ ∀w',Af w w'→k ((0,()),()) w')
    (h1: ∀c,tX e l root m=c→c≠0→ ∀w',Az w' b (Zb (xU e root) (Xd l root m))→Am (fun z=>z=b) w w'→k ((c,()),()) w'):
    Ae prog F.Ju [.pointer (some ⟨b,0,none⟩),iV root,uV m.1,uV m.2.1] w false [(false,[KI])] k:=by
  refine Ju.ok ?_
  unfold Ju.wp
  have no:jA e root=false→tX e l root m=0:=fun h=>by unfold tX;rw[if_pos h]
  refine Dx (fun c=>?_) fun c0=>?_
  · have c:root<0:=c
    exact h0 (no (by unfold jA;rw[if_pos (.inl c)])) w (Af.refl w)
  have c0: ¬root<0:=c0
  rw[Ac]
  refine hB.c0 (x:=e.me) (Ep (by decide)) (Dx (fun c=>?_) fun c1=>?_)
  · have c:root≥e.me:=c
    exact h0 (no (by unfold jA;rw[if_pos (.inr c)])) w (Af.refl w)
  have c1: ¬root≥e.me:=c1
  have hq:=hI.quiet
  have hr:=hI.root
  have hm1:=hI.me1
  refine Cc.by (fun _ w'=>Af w w'∧(mine e=true→e.quiet=0)) ?_ ?_
  · rw[Ap,Ac]
    have B:=hB.drew
    refine B.c1 5 (x:=e.root) (Ep (by decide)) ?_
    rw[Ac]
    refine B.c0 (x:=e.me) (Ep (by decide)) (Yl (fun d=>?_) fun d=>⟨Af.drew w,fun h=>absurd (Z8 h) d⟩)
    rw[Ac]
    refine B.c1 7 (x:=e.quiet) (Ep (by decide)) (Dx (fun q=>?_) fun q=>⟨Af.drew w,fun _=>by have q: ¬e.quiet>0:=q;omega⟩)
    have q:e.quiet>0:=q
    refine h0 (no ?_) _ (Af.drew w)
    unfold jA
    rw[if_neg (by omega),if_pos (aX d)]
    exact beq_eq_false_iff_ne.2 (by omega)
  rintro _ w5 ⟨g5,hc1⟩ _
  have B5:=hB.Ai g5
  refine Cc.by (fun _ w'=>Af w w'∧(0≤e.root→e.root≠e.me→root≤e.root)) ?_ ?_
  · rw[Ap,Ac]
    have B:=B5.drew
    have g6:=g5.trans (Af.drew w5)
    refine B.c1 5 (x:=e.root) (Ep (by decide)) (Dx (fun d=>?_) fun d=>⟨g6,fun h=>absurd h d⟩)
    have d:e.root≥0:=d
    rw[Ac]
    refine B.c1 5 (x:=e.root) (Ep (by decide)) ?_
    rw[Ac]
    refine B.c0 (x:=e.me) (Ep (by decide)) (bK (fun d2=>?_) fun d2=>⟨g6,fun _ h=>absurd d2 h⟩)
    rw[Ac]
    refine B.c1 5 (x:=e.root) (Ep (by decide)) (Dx (fun d3=>?_) fun d3=>⟨g6,fun _ _=>by have d3: ¬root>e.root:=d3;omega⟩)
    have d3:root>e.root:=d3
    have d2:e.root≠e.me:=d2
    refine h0 (no ?_) _ g6
    unfold jA
    rw[if_neg (by omega),if_neg (fun h=>d2 (Z8 h)),if_neg (by omega)]
    exact decide_eq_false (by omega)
  rintro _ w15 ⟨g15,hc2⟩ _
  have B15:=hB.Ai g15
  have cm: ¬jA e root=false:=by
    have:jA e root=true:=by
      unfold jA
      rw[if_neg (by omega)]
      by_cases cmi:mine e=true
      · rw[if_pos cmi,hc1 cmi];rfl
      · rw[if_neg cmi]
        by_cases cr:e.root<0
        · rw[if_pos cr]
        · rw[if_neg cr];exact decide_eq_true (hc2 (by omega) fun h=>cmi (aX h))
    rw[this];simp
  obtain⟨n,hn⟩: ∃n:Nat,root=n:=⟨root.toNat,by omega⟩
  subst hn
  have t1:((n:Int)).toNat*1=n:=by simp
  have hn64:n<64:=by omega
  have ix: ∀{a:Addr} {k:Addr→Prop},k a→Ny (some a) 64 (n:Int) k:=fun hk=>by rw[Tq (show 0≤(n:Int)∧(n:Int)<((64:Nat):Int) by omega)];exact hk
  refine Cc.by (fun _ w'=>Af w w'∧frE l n m=true) ?_ ?_
  · rw[Ap,Ac]
    have B:=B15.drew
    have g28:=g15.trans (Af.drew w15)
    refine ix (B.c2 8 _ (c:=.b) (x:=kn l n) (by rw[t1];exact Abs hn64) (bM (fun d=>?_) fun d=>⟨g28,?_⟩))
    · have d:(Vu l (n:Int)).isSome=true:=d
      obtain⟨o,ho⟩:=Option.isSome_iff_exists.1 d
      have hmk:mk l n=o:=by unfold mk;rw[ho];rfl
      rw[Ac]
      refine ix (B.c2 72 _ (c:=KU) (x:=o.1) (by rw[t1,←hmk];exact yA hn64) ?_)
      rw[Ac]
      refine ix (B.c2 136 _ (c:=KU) (x:=o.2.1) (by rw[t1,←hmk];exact Acd hn64) ?_)
      refine Uf.cl hm (hI.marks _ _ ho) ⟨⟨B.X3 (Af.refl _) (fun x=>x) 8 _ (by rw[t1,Ls];omega),trivial⟩,Ee (fun q=>?_) fun q=>⟨g28,?_⟩⟩
      · have q:wW m o=false:=q
        refine h0 ?_ _ g28
        unfold tX frE
        rw[if_neg cm,ho]
        dsimp only
        rw[if_pos q]
      · have q:wW m o=true:=q
        unfold frE;rw[ho];exact q
    · have d:(Vu l (n:Int)).isSome=false:=d
      unfold frE
      cases ho:Vu l (n:Int) with
      |none=>rfl
      |some o=>rw[ho] at d;cases d
  rintro _ w27 ⟨g27,hf⟩ _
  have B27:=hB.Ai g27
  have hN:tX e l n m=if e.root≠(n:Int) then 2 else if((Vu l (n:Int)).getD (0,0,())).1≠m.1 then 2 else 1:=by
    unfold tX;rw[if_neg cm,if_neg (by rw[hf];simp)]
  refine Cc.by (fun z w'=>w'=w27∧tX e l n m=z.1∧z.1≠0) ?_ ?_
  · rw[Ac]
    refine B27.c1 5 (x:=e.root) (Ep (by decide)) (bK (fun d=>⟨rfl,by rw[hN,if_pos d],by decide⟩) fun d=>?_)
    have d:e.root=(n:Int):=d
    rw[if_neg (fun h=>h d)] at hN
    rw[Ac]
    have hk:kn l n=true:=by unfold kn;rw[←d];exact hI.known (by omega) (by omega)
    refine ix (B27.c2 8 _ (c:=.b) (x:=kn l n) (by rw[t1];exact Abs hn64) (Jl (by rw[hk];rfl) ?_))
    rw[Ac]
    refine ix (B27.c2 72 _ (c:=KU) (x:=(mk l n).1) (by rw[t1];exact yA hn64) (bK (fun d2=>⟨rfl,by rw[hN];exact if_pos d2,by decide⟩) fun d2=>⟨rfl,by rw[hN];exact if_neg (fun h=>h d2),by decide⟩))
  rintro⟨z,_⟩ _ ⟨rfl,hz,hz0⟩ _
  dsimp only at hz hz0
  rw[Ac]
  have rl: ∀p,p≤136→p+((n:Int)).toNat*1+1≤200:=fun p hp=>by rw[t1];omega
  refine ix (Az.sN2 8 _ _ B27 (by rw[Ls];exact rl 8 (by decide)) rfl fun w53 k53 u53=>?_)
  rw[Ac]
  refine ix (Az.sN2 72 _ _ k53 (by rw[I8,Ls];exact rl 72 (by decide)) rfl fun w56 k56 u56=>?_)
  rw[Ac]
  refine ix (Az.sN2 136 _ _ k56 (by rw[I8,I8,Ls];exact rl 136 (by decide)) rfl fun w59 k59 u59=>?_)
  rw[Ac]
  refine k59.sN 5 _ (by simp[I8,Ls]) rfl fun w61 k61 u61=>?_
  rw[Ac]
  refine k61.sN 6 _ (by simp[I8,Ls]) rfl fun w63 k63 u63=>?_
  rw[Ac]
  refine k63.sN 7 _ (by simp[I8,Ls]) rfl fun w65 k65 u65=>?_
  rw[t1] at k65
  refine h1 z hz hz0 w65 ?_ ?_
  · rw[←Ags hn64];exact k65
  · exact Am.trans (Am.trans (Am.trans (Am.trans (Am.trans (Am.trans (Am.Bj g27) u53 fun _ _ h=>h) u56 fun _ _ h=>h) u59 fun _ _ h=>h) u61 fun _ _ h=>h) u63 fun _ _ h=>h) u65 fun _ _ h=>h
def plP(s:S6):kC:=(1,s.1,0,s.2.1,s.2.2.1,s.2.2.2.1,s.2.2.2.2.1,s.2.2.2.2.2,0,0,0,0,0,0,())
def pl0:kC:=(0,0,0,0,0,0,0,0,0,0,0,0,0,0,())
theorem Aj0(s:S6):kH (plP s)=s:=rfl
theorem Dq.Aqq{x:kC}(h1:x.1=1){w:World}{k:TR [(false,[.sl])]→WP}(h: ∀(s:Sl) w',Af w w'→L6 w' s (Z4 (kH x))→(∀a,s.1=some a→w.heap.size≤a.block)→k ((s,()),()) w'):Ae prog F.Dq [vP x] w false [(false,[.sl])] k:=by
  refine Dq.ok ?_
  unfold Dq.wp
  refine Ad fun p1 w2 e1 k1 u1=>?_
  change Az w2 p1 (encs Uo x) at k1
  refine k1.c1 1 rfl (Ad fun p4 w5 e4 k4 u4=>k4.Fg _ rfl rfl fun w6 k6 u6=>?_)
  have l1:=k1.lt
  have q1:=(k1.Ai u4).upd u6 (by omega)
  have g6:=Af.fresh u1 u4 u6 e4
  refine q1.c0 rfl ?_
  rw[h1]
  refine Vt rfl (k6.bC ?_)
  refine q1.c1 3 rfl (q1.c1 4 rfl (q1.c1 5 rfl (q1.c1 6 rfl (q1.c1 7 rfl ?_))))
  exact Ad fun p44 w45 e44 k44 u44=>h (some ⟨p44,0,none⟩,6,6) w45 (g6.trans u44) (Yq k44 rfl rfl) fun a ha=>by cases ha;exact Nat.le_trans g6.size (Nat.le_of_eq e44)
theorem Dq.cl1{x:kC}(h1:x.1=1){w:World}{k:TR [(false,[.sl])]→WP}(h: ∀s w',Af w w'→L6 w' s (Z4 (kH x))→k ((s,()),()) w'):Ae prog F.Dq [vP x] w false [(false,[.sl])] k:=
  Dq.Aqq h1 fun s w' g E _=>h s w' g E
theorem Fb.cl1{x:kC}(h1:x.1=1){w:World}{k:TR [(false,[.b])]→WP}(h: ∀w',Af w w'→k ((okF (Z4 (kH x)),()),()) w'):Ae prog F.Fb [vP x] w false [(false,[.b])] k:=by
  refine Fb.ok ?_
  unfold Fb.wp
  refine Ad fun p1 w2 e1 k1 u1=>?_
  change Az w2 p1 (encs Uo x) at k1
  refine k1.cA x rfl (Dq.cl1 (x:=x) h1 fun s w4 u4 hE=>?_)
  have hl:=hE.len
  have hlen:(Z4 (kH x)).length=6:=rfl
  refine Ci.by (fun z w'=>Af w4 w'∧ ∃i:Nat,z=((i:Int),())∧i≤(Z4 (kH x)).length∧ ∀e∈(Z4 (kH x)).take i,Yy e=true) (fun z=>(1000-z.1).toNat) ⟨Af.refl _,0,rfl,by omega,by simp⟩ ?_
  rintro z w7 ⟨g,i,rfl,hi,hgood⟩ _
  have g4:=u1.trans u4
  have out: ∀w',Af w4 w'→okF (Z4 (kH x))=false→k ((false,()),()) w':=fun w' g h0=>by
    have:=h w' (g4.trans g)
    rw[h0] at this;exact this
  refine Dx (fun c=>?_) fun c=>?_
  · have hi':i<(Z4 (kH x)).length:=by have c:(i:Int)<(s.2.1:Int):=c;omega
    have he:(Z4 (kH x))[i]? =some (Z4 (kH x))[i]:=List.getElem?_eq_getElem hi'
    generalize (Z4 (kH x))[i]=e at he
    have hE7:=hE.Ai g
    refine hE7.ix (z:=(i:Int)) rfl he fun ad ha=>hE7.A8 ha he ?_
    refine Ad fun p10 w11 e10 k10 u11=>k10.Fg _ rfl rfl fun w12 k12 u12=>k12.i1 1 rfl ?_
    have g12:=Af.fresh g u11 u12 e10
    refine Dx (fun c=>out w12 g12 (Zo he ?_)) fun c1=>k12.i1 1 rfl (k12.i1 2 rfl (Dx (fun c=>out w12 g12 (Zo he ?_)) fun c2=>⟨⟨g12,i+1,?_,by omega,?_⟩,?_⟩))
    · have c:e.2.1<0:=c
      cases hb:Yy e
      · rfl
      · have:=Rq.1 hb;omega
    · have c:e.2.1>e.2.2:=c
      cases hb:Yy e
      · rfl
      · have:=Rq.1 hb;omega
    · show(wrap .i64 ((i:Int)+1),())=_
      rw[Ah (by unfold I64;omega)];rfl
    · have c1: ¬e.2.1<0:=c1
      have c2: ¬e.2.1>e.2.2:=c2
      rw[List.take_add_one,he]
      intro y hy
      rcases List.mem_append.1 hy with hy|hy
      · exact hgood y hy
      · have:y=e:=by simpa using hy
        subst this
        exact Rq.2 ⟨by omega,by omega⟩
    · show(1000-wrap .i64 ((i:Int)+1)).toNat<(1000-(i:Int)).toNat
      rw[Ah (by unfold I64;omega)];omega
  · have c: ¬(i:Int)<(s.2.1:Int):=c
    have hi':i=(Z4 (kH x)).length:=by omega
    subst hi'
    rw[List.take_length] at hgood
    have:=h w7 (g4.trans g)
    rw[bV hgood] at this
    have e:decide ((s.2.1:Int)>0)=true:=decide_eq_true (by omega)
    show k ((decide ((s.2.1:Int)>0),()),()) w7
    rw[e];exact this
theorem Aki{es:List E3}{x:E3}(h:es.length≤8):(adF es x).length≤8:=by
  unfold adF;split
  · exact qF h
  · simp
theorem Ahy{es:List E3}{x:E3}(h: ∀y∈es,Jm y=true)(hx:Jm x=true): ∀y∈adF es x,Jm y=true:=by
  unfold adF;split
  · exact vT h hx
  · intro y hy
    have:y=x:=by simpa using hy
    subst this;exact hx
def yK(bE:Nat)(f:Fl)(s:Sl):List Value:=[.pointer (some ⟨bE,0,none⟩),iV f.need,iV f.drift,.slice s.1 s.2.1 s.2.2,iV f.ll,iV f.lg,iV f.lh]
structure RW(w:World)(O:NP)(br bE:Nat)(f:Fl)(e:El)(l:Um)(es:List E3):Prop where
  ex: ∃s,Az w br (yK bE f s)∧L6 w s es∧(∀a,s.1=some a→a.block≠br∧a.block≠bE∧O a.block)
  elb:Az w bE (Zb e l)
  ne:br≠bE
  obr:O br
  obE:O bE
  lt: ∀z,O z→z<w.heap.size
  inv:EI e l
  len:es.length≤8
  good: ∀x∈es,Jm x=true
  need:1≤f.need
  me:f.me=e.me
theorem RW.upd{S O:NP}{w w':World}{br bE:Nat}{f:Fl}{e:El}{l:Um}{es:List E3}(h:RW w O br bE f e l es)(u:Am S w w')(hS: ∀z,O z→ ¬S z):RW w' O br bE f e l es:=by
  obtain⟨⟨s,h1,h2,h3⟩,elb,ne,obr,obE,lt,inv,len,good,need,me⟩:=h
  exact⟨⟨s,h1.upd u (hS _ obr),Row.upd h2 u fun a ha=>hS _ (h3 a ha).2.2,h3⟩,elb.upd u (hS _ obE),ne,obr,obE,fun z hz=>Nat.lt_of_lt_of_le (lt z hz) u.size,inv,len,good,need,me⟩
theorem RW.Ai{O:NP}{w w':World}{br bE:Nat}{f:Fl}{e:El}{l:Um}{es:List E3}(h:RW w O br bE f e l es)(u:Af w w'):RW w' O br bE f e l es:=h.upd u fun _ _ x=>x
theorem RW.hdr{O:NP}{w:World}{br bE:Nat}{f:Fl}{e:El}{l:Um}{es:List E3}(h:RW w O br bE f e l es){k:Option Addr→Prop}(hk:k (some ⟨bE,0,none⟩)):ld1 .p ⟨br,0,none⟩ w k:=by
  obtain⟨s,h1,_⟩:=h.ex
  exact h1.c0 (c:=.p) (x:=some ⟨bE,0,none⟩) rfl hk
theorem Vq.cl{me r0 r1 r2 r3:Int}{w:World}{k:TR [(false,[.b])]→WP}(h:k ((decide (0≤me)&&decide (me<64)&&tV r0 r1 r2 r3,()),()) w):Ae prog F.Vq [iV me,iV r0,iV r1,iV r2,iV r3] w false [(false,[.b])] k:=by
  refine Vq.ok ?_
  unfold Vq.wp
  refine Ve.cl ?_
  have key: ∀b:Bool,(b=true↔(decide (0≤me)&&decide (me<64)&&elG r0 r1)=true∧1≤r2∧r2≤8∧0≤r3∧r3≤10)→k ((b,()),()) w:=fun b hb=>by
    have:b=(decide (0≤me)&&decide (me<64)&&tV r0 r1 r2 r3):=by rw[Bool.eq_iff_iff,hb];simp[Ya,and_assoc]
    rw[this];exact h
  refine bM (fun c0=>Dx (fun c1=>Dx (fun c2=>Dx (fun c3=>key _ ?_) fun c3=>key _ ?_) fun c2=>key _ ?_) fun c1=>key _ ?_) fun c0=>key _ ?_
  all_goals (have c0:(decide (0≤me)&&decide (me<64)&&elG r0 r1)=_:=c0;rw[c0];simp)
  all_goals omega
theorem Wn.cw{me r0 r1 r2 r3 boot:Int}(m0:0≤me)(m1:me<64)(hg:tV r0 r1 r2 r3=true)(hb:Xe boot){w:World}{k:TR [(false,[.p])]→WP}
    (h: ∀O br bE w',RW w' O br bE ⟨me,r0,r1,r2,r3,0,0,0⟩ ⟨me,r0,r1,boot,0,-1,0,0⟩ [] []→(∀z,O z→w.heap.size≤z)→Af w w'→k ((some ⟨br,0,none⟩,()),()) w'):
    Ae prog F.Wn [iV me,iV r0,iV r1,iV r2,iV r3,uV boot] w false [(false,[.p])] k:=by
  refine Wn.ok ?_
  unfold Wn.wp
  refine Wj.cl fun bE w2 lE kE u2=>Ad fun br w4 er kr u4=>?_
  have l1:=kE.lt
  have l2:=kr.lt
  refine h (fun z=>z=br∨z=bE) br bE w4 ⟨⟨(none,0,0),kr,L6.nil _,fun a h=>by cases h⟩,kE.Ai u4,by omega,.inl rfl,.inr rfl,?_,EI.new m0 m1 (Ya.1 hg).1 hb,by simp,by simp,(Ya.1 hg).2.1,rfl⟩ ?_ (u2.trans u4)
  · rintro z (rfl|rfl)
    · exact l2
    · have:=u4.size;omega
  · rintro z (rfl|rfl)
    · have:=u2.size;omega
    · exact lE
theorem Gi.cw{O:NP}{br bE:Nat}{f:Fl}{e:El}{l:Um}{es:List E3}{w:World}(hF:RW w O br bE f e l es){k:TR []→WP}
    (h: ∀w',RW w' O br bE (fgF f) e l []→Am (fun z=>z=br) w w'→k () w'):Ae prog F.Gi [.pointer (some ⟨br,0,none⟩)] w true [] k:=by
  refine Gi.ok ?_
  unfold Gi.wp
  obtain⟨⟨s,h1,h2,h3⟩,elb,ne,obr,obE,lt,inv,len,good,need,me⟩:=hF
  rw[Ac]
  refine h1.sN 3 _ (by simp[yK]) rfl fun w2 k2 u2=>?_
  rw[Ac]
  refine k2.sN 4 _ (by simp[yK,splice]) rfl fun w4 k4 u4=>?_
  rw[Ac]
  refine k4.sN 5 _ (by simp[yK,splice]) rfl fun w6 k6 u6=>?_
  rw[Ac]
  refine k6.sN 6 _ (by simp[yK,splice]) rfl fun w8 k8 u8=>?_
  have U:Am (fun z=>z=br) w w8:=Am.trans (Am.trans (Am.trans u2 u4 fun _ _ h=>h) u6 fun _ _ h=>h) u8 fun _ _ h=>h
  exact h w8 ⟨⟨(none,0,0),k8,L6.nil _,fun a h=>by cases h⟩,elb.upd U (fun h=>ne h.symm),ne,obr,obE,fun z hz=>Nat.lt_of_lt_of_le (lt z hz) U.size,inv,by simp,by simp,need,me⟩ U
theorem Eu.cw{O:NP}{br bE:Nat}{f:Fl}{e:El}{l:Um}{es:List E3}{w:World}(hF:RW w O br bE f e l es){k:TR [(false,[.b])]→WP}
    (h: ∀w',Af w w'→k ((mine e,()),()) w'):Ae prog F.Eu [.pointer (some ⟨br,0,none⟩)] w false [(false,[.b])] k:=by
  refine Eu.ok ?_
  unfold Eu.wp
  rw[Ap,Ac]
  have hD:=hF.Ai (Af.drew w)
  refine hD.hdr ?_
  rw[Ac]
  refine hD.elb.c1 5 (x:=e.root) (Ep (by decide)) ?_
  rw[Ac]
  refine hD.hdr ?_
  rw[Ac]
  exact hD.elb.c0 (x:=e.me) (Ep (by decide)) (h _ (Af.drew w))
theorem Bz.cw{O:NP}{br bE:Nat}{f:Fl}{e:El}{l:Um}{es:List E3}{w:World}(hF:RW w O br bE f e l es){k:TR [(false,[.b])]→WP}
    (h: ∀w',Af w w'→k ((Xb f e es.length,()),()) w'):Ae prog F.Bz [.pointer (some ⟨br,0,none⟩)] w false [(false,[.b])] k:=by
  refine Bz.ok ?_
  unfold Bz.wp
  rw[Ap]
  have hD:=hF.Ai (Af.drew w)
  refine Eu.cw hD fun w3 u3=>⟨trivial,?_⟩
  have g3:=(Af.drew w).trans u3
  unfold Xb at h
  refine bM (fun c=>?_) fun c=>?_
  · have:=h w3 g3
    rw[show(e.root==e.me)=true from c] at this;exact this
  · have h:=h w3 g3
    rw[show(e.root==e.me)=false from c] at h
    obtain⟨s,h1,h2,h3⟩:=(hF.Ai g3).ex
    rw[Ac]
    refine h1.c1 3 (c:=.sl) (x:=s) rfl ?_
    rw[Ac]
    refine h1.c1 1 (x:=f.need) rfl ?_
    dsimp only
    rw[h2.len];exact h
theorem N8.cl{t:Int}{w:World}{k:TR [(false,[.b])]→WP}(h:k ((inT t,()),()) w):Ae prog F.N8 [iV t] w false [(false,[.b])] k:=by
  refine N8.ok ?_
  unfold N8.wp
  unfold inT at h
  refine Dx (fun c=>?_) fun c=>?_
  · have c:t≥0:=c
    rw[decide_eq_true (show 0≤t by omega),Bool.true_and] at h;exact h
  · have c: ¬t≥0:=c
    rw[decide_eq_false (show¬0≤t by omega),Bool.false_and] at h;exact h
theorem Ku.cw{O:NP}{br bE:Nat}{f:Fl}{e:El}{l:Um}{es:List E3}{p:kC}(hp:UP p){loc:Int}{w:World}(hF:RW w O br bE f e l es){k:TR [(false,[KI])]→WP}
    (h0:hrF e l (kH p) loc=0→ ∀w',Af w w'→k ((0,()),()) w')
    (h1: ∀c,hrF e l (kH p) loc=c→c≠0→ ∀w' O',RW w' O' br bE (hfF f (kH p) loc) (xU e (kH p).2.1) (Xd l (kH p).2.1 (yH (kH p))) (esF c es (kH p) loc)→Nx O w O' w'→k ((c,()),()) w'):
    Ae prog F.Ku [.pointer (some ⟨br,0,none⟩),vP p,iV loc] w false [(false,[KI])] k:=by
  refine Ku.ok ?_
  unfold Ku.wp
  refine Ad fun p1 w2 e1 k1 u1=>?_
  change Az w2 p1 (encs Uo p) at k1
  have l1:=k1.lt
  obtain⟨s,hs⟩: ∃s:S6,s=kH p:=⟨_,rfl⟩
  rw[←hs] at h0 h1
  have s4:p.2.2.2.2.2.2.1=s.2.2.2.2.1:=by rw[hs];rfl
  have s5:p.2.2.2.2.2.2.2.1=s.2.2.2.2.2:=by rw[hs];rfl
  have bad: ∀w',Af w w'→ ¬(0≤s.2.2.2.2.1∧s.2.2.2.2.1<63∧0≤loc∧loc≤1125899906842624∧0≤s.2.2.2.2.2∧s.2.2.2.2.2≤1125899906842624)→k ((0,()),()) w':=fun w' g h=>h0 (by
    unfold hrF
    cases ho:okH s loc
    · rfl
    · exact absurd (lC.1 ho) h) w' g
  refine k1.c1 6 (x:=s.2.2.2.2.1) (by rw[←s4];rfl) (Dx (fun c=>bad w2 u1 (by have c:s.2.2.2.2.1<0:=c;omega)) fun c1=>k1.c1 6 (x:=s.2.2.2.2.1) (by rw[←s4];rfl) (Dx (fun c=>bad w2 u1 (by have c:s.2.2.2.2.1>62:=c;omega)) fun c2=>?_))
  have c1: ¬s.2.2.2.2.1<0:=c1
  have c2: ¬s.2.2.2.2.1>62:=c2
  refine N8.cl (Ee (fun c=>bad w2 u1 fun h=>?_) fun c3=>?_)
  · have c:inT loc=false:=c
    rw[Xk.2 ⟨h.2.2.1,h.2.2.2.1⟩] at c;cases c
  have c3:=Xk.1 (show inT loc=true from c3)
  refine k1.c1 7 (x:=s.2.2.2.2.2) (by rw[←s5];rfl) (N8.cl (Ee (fun c=>bad w2 u1 fun h=>?_) fun c4=>?_))
  · have c:inT s.2.2.2.2.2=false:=c
    rw[Xk.2 ⟨h.2.2.2.2.1,h.2.2.2.2.2⟩] at c;cases c
  have c4:=Xk.1 (show inT s.2.2.2.2.2=true from c4)
  have ok:okH s loc=true:=lC.2 ⟨by omega,by omega,c3.1,c3.2,c4.1,c4.2⟩
  have hN:hrF e l s loc=tX e l s.2.1 (yH s):=by unfold hrF;rw[if_pos ok]
  have hx:=vH ok
  have hmu:Xe (yH s).1∧Xe (yH s).2.1:=by rw[hs];exact hp
  rw[Ap,Ac]
  have F10:=(hF.Ai u1).Ai (Af.drew _)
  have g10:Af w w2.drew:=u1.trans (Af.drew _)
  have k10:=k1.drew
  refine F10.hdr (k10.c1 3 (x:=s.2.1) (by rw[hs];rfl) (k10.c1 4 (c:=KU) (x:=(yH s).1) (by rw[hs];rfl) (k10.c1 5 (c:=KU) (x:=(yH s).2.1) (by rw[hs];rfl) ?_)))
  have np1: ¬O p1:=fun h=>by have:=hF.lt p1 h;omega
  obtain⟨⟨sl,f1,f2,f3⟩,elb,fne,obr,obE,flt,inv,flen,fgood,fneed,fme⟩:=F10
  refine Ju.cl elb inv hmu (fun hz w17 u17=>⟨trivial,Vt rfl (h0 (hN.trans hz) w17 (g10.trans u17))⟩) fun c hc hc0 w17 E17 u17=>⟨trivial,Jl (beq_eq_false_iff_ne.2 hc0) ?_⟩
  have hc':hrF e l s loc=c:=hN.trans hc
  have hmay:=Ak3 (by rw[hc];exact hc0)
  have F17:RW w17 O br bE f (xU e s.2.1) (Xd l s.2.1 (yH s)) es:=
    ⟨⟨sl,f1.upd u17 fne,Row.upd f2 u17 fun a ha=>(f3 a ha).2.1,f3⟩,E17,fne,obr,obE,fun z hz=>Nat.lt_of_lt_of_le (flt z hz) u17.size,inv.hear hmay.1 hmay.2 hmu,flen,fgood,fneed,fme⟩
  have X17:Nx O w O w17:=Nx.pre g10 ⟨u17.mono fun z h=>by rw[h];exact obE,fun z hz=>.inl hz⟩
  have k17:=k10.upd u17 (fun h=>by rw[h] at np1;exact np1 obE)
  refine Cc.by (fun _ w'=> ∃f',f'.me=f.me∧f'.tmo=f.tmo∧f'.ign=f.ign∧f'.need=f.need∧f'.drift=f.drift∧RW w' O br bE f' (xU e s.2.1) (Xd l s.2.1 (yH s)) (if c=2 then[] else es)∧Nx O w O w'∧Az w' p1 (encs Uo p)) ?_ ?_
  · refine Yl (fun c2=>?_) fun c2=>?_
    · have c2:c=2:=c2
      refine Gi.cw F17 fun w22 F22 u22=>⟨fgF f,rfl,rfl,rfl,rfl,rfl,by rw[if_pos c2];exact F22,X17.trans ⟨u22.mono fun z h=>by rw[h];exact obr,fun z hz=>.inl hz⟩,k17.upd u22 (fun h=>by rw[h] at np1;exact np1 obr)⟩
    · have c2:c≠2:=c2
      exact⟨f,rfl,rfl,rfl,rfl,rfl,by rw[if_neg c2];exact F17,X17,k17⟩
  rintro _ w20 ⟨f',q1,q2,q3,q4,q5,F20,X20,k20⟩ _
  clear F17 X17 k17 f1 f2 f3
  refine k20.c1 7 (x:=s.2.2.2.2.2) (by rw[←s5];rfl) (k20.c1 6 (x:=s.2.2.2.2.1) (by rw[←s4];rfl) ?_)
  refine Ad fun p25 w26 e25 k25 u26=>k25.Fg _ rfl rfl fun w27 k27 u27=>?_
  have g27:Af w20 w27:=Af.fresh (Af.refl _) u26 u27 e25
  change Az w27 p25 (encs [KI,KI,KI] ((iZ s loc).1,(iZ s loc).2.1,(iZ s loc).2.2,())) at k27
  rw[Ap,Ac]
  have F28:=(F20.Ai g27).Ai (Af.drew _)
  have g28:Af w20 w27.drew:=g27.trans (Af.drew _)
  obtain⟨⟨sl,f1,f2,f3⟩,elb8,_,_,_,flt8,inv8,flen8,fgood8,fneed8,fme8⟩:=F28
  refine f1.c1 3 (c:=.sl) (x:=sl) rfl (k27.drew.bC ?_)
  refine Uw.cl (e:=iZ s loc) f2 flen8 fun s' w33 u33 E33 hs'=>⟨trivial,?_⟩
  have lbr:=f1.lt
  have lbE:=elb8.lt
  have own: ∀a,s'.1=some a→(a.block≠br∧a.block≠bE∧(O a.block∨w20.heap.size≤a.block))∧a.block<w33.heap.size:=fun a ha=>by
    rcases hs' with rfl|h
    · exact⟨⟨(f3 a ha).1,(f3 a ha).2.1,.inl (f3 a ha).2.2⟩,Nat.lt_of_lt_of_le (flt8 _ (f3 a ha).2.2) u33.size⟩
    · have:=h a ha;have:=g28.size;exact⟨⟨by omega,by omega,.inr (by omega)⟩,by omega⟩
  refine Cc.by (fun z w'=>Af w33 w'∧L6 w' z.1 (esF c es s loc)∧(∀a,z.1.1=some a→(a.block≠br∧a.block≠bE∧(O a.block∨w20.heap.size≤a.block))∧a.block<w'.heap.size)) ?_ ?_
  · refine bK (fun cn=>?_) fun cn=>?_
    · have cn:addN (if c=2 then[] else es) (iZ s loc)≠0:=cn
      refine(k27.drew.Ai u33).bC (Uw.cl (s:=(none,0,0)) (es:=[]) (e:=iZ s loc) (L6.nil _) (by simp) fun s2 w39 u39 E39 hs2=>⟨u39,?_,fun a ha=>?_⟩)
      · unfold esF adF;rw[if_neg cn];rw[Acv hx] at E39;exact E39
      · rcases hs2 with h|h
        · have ha:s2.1=some a:=ha
          rw[h] at ha;cases ha
        · have:=h a ha;have:=g28.size;have:=u33.size;exact⟨⟨by omega,by omega,.inr (by omega)⟩,by omega⟩
    · have cn:addN (if c=2 then[] else es) (iZ s loc)=0:=cn
      refine⟨Af.refl _,?_,own⟩
      unfold esF adF;rw[if_pos cn];exact E33
  rintro⟨sz,_⟩ w36 ⟨g36,E36,own36⟩ _
  dsimp only at E36 own36
  have f36:=(g28.trans u33).trans g36
  have b36:=(f1.Ai u33).Ai g36
  have k36:=k20.Ai f36
  have np:p1≠br:=fun h=>by rw[h] at np1;exact np1 obr
  rw[Ac]
  refine b36.sN 3 _ (by simp[yK]) rfl fun w41 k41 u41=>?_
  rw[Ac]
  refine k41.sN 4 _ (by simp[yK,splice]) rfl fun w43 k43 u43=>?_
  refine((k36.upd u41 np).upd u43 np).c1 7 (x:=s.2.2.2.2.2) (by rw[←s5];rfl) ?_
  rw[Ac]
  refine k43.sN 5 _ (by simp[yK,splice]) rfl fun w46 k46 u46=>?_
  refine(((k36.upd u41 np).upd u43 np).upd u46 np).c1 6 (x:=s.2.2.2.2.1) (by rw[←s4];rfl) ?_
  rw[Ac]
  refine k46.sN 6 _ (by simp[yK,splice]) rfl fun w49 k49 u49=>?_
  have U:Am (fun z=>z=br) w36 w49:=Am.trans (Am.trans (Am.trans u41 u43 fun _ _ h=>h) u46 fun _ _ h=>h) u49 fun _ _ h=>h
  have efl:hfF f s loc={f' with ll:=loc,lg:=s.2.2.2.2.2,lh:=wrap .i64 (s.2.2.2.2.1+1)}:=by
    unfold hfF;rw[q1,q2,q3,q4,q5]
  refine h1 c hc' hc0 w49 (fun z=>O z∨ ∃a,sz.1=some a∧a.block=z) ⟨⟨sz,?_,Row.upd E36 U fun a ha=>(own36 a ha).1.1,fun a ha=>⟨(own36 a ha).1.1,(own36 a ha).1.2.1,.inr ⟨a,ha,rfl⟩⟩⟩,(F20.elb.Ai f36).upd U (fun h=>fne h.symm),fne,.inl obr,.inl obE,?_,F20.inv,?_,?_,?_,?_⟩ ⟨?_,?_⟩
  · rw[efl];exact k49
  · rintro z (hz|⟨a,ha,rfl⟩)
    · exact Nat.lt_of_lt_of_le (F20.lt z hz) (Nat.le_trans f36.size U.size)
    · exact Nat.lt_of_lt_of_le (own36 a ha).2 U.size
  · exact Aki F20.len
  · exact Ahy F20.good hx
  · rw[efl];exact F20.need
  · exact fme
  · refine Am.trans (X20.u.Ai f36) U fun i hi h=>by rw[h];exact obr
  · rintro z (hz|⟨a,ha,rfl⟩)
    · exact .inl hz
    · rcases(own36 a ha).1.2.2 with h|h
      · exact .inl h
      · exact .inr (Nat.le_trans X20.u.size h)
theorem RW.Ac8{O:NP}{br bE:Nat}{f:Fl}{e:El}{l:Um}{es:List E3}{w:World}(hF:RW w O br bE f e l es){w':World}{e':El}(hE:Az w' bE (Zb e' l))(u:Am (fun z=>z=bE) w w')(hI:EI e' l)(hm:e'.me=e.me):
    RW w' O br bE f e' l es∧Nx O w O w':=by
  obtain⟨⟨s,h1,h2,h3⟩,elb,ne,obr,obE,lt,inv,len,good,need,me⟩:=hF
  exact⟨⟨⟨s,h1.upd u ne,Row.upd h2 u fun a ha=>(h3 a ha).2.1,h3⟩,hE,ne,obr,obE,fun z hz=>Nat.lt_of_lt_of_le (lt z hz) u.size,hI,len,good,need,me.trans hm.symm⟩,u.mono fun z h=>by rw[h];exact obE,fun z hz=>.inl hz⟩
theorem Jz.cw{O:NP}{br bE:Nat}{f:Fl}{e:El}{l:Um}{es:List E3}{loc:Int}{w:World}(hF:RW w O br bE f e l es){k:TR [(true,Uo)]→WP}
    (h: ∀w' O',RW w' O' br bE (nD f e) (yL e loc) l (b1l e es)→Nx O w O' w'→k (if(sH f e l es loc).2=true then plP (sH f e l es loc).1 else pl0,()) w'):
    Ae prog F.Jz [.pointer (some ⟨br,0,none⟩),iV loc] w false [(true,Uo)] k:=by
  refine Jz.ok ?_
  unfold Jz.wp
  refine Ad fun p1 w2 e1 k1 u1=>?_
  change Az w2 p1 (encs Uo pl0) at k1
  have np1: ¬O p1:=fun h=>by have:=hF.lt p1 h;omega
  have F2:=hF.Ai u1
  have l1:=k1.lt
  have hk:=rM e
  unfold sH yL at h
  refine Cc.by (fun _ w'=> ∃O',RW w' O' br bE (nD f e) (eG e) l (b1l e es)∧Nx O w O' w'∧Az w' p1 (encs Uo pl0)∧ ¬O' p1) ?_ ?_
  · rw[Ac]
    refine F2.hdr (Jv.cl F2.elb F2.inv fun w11 E11 u11=>?_)
    obtain⟨F11,X11⟩:=F2.Ac8 E11 u11 hF.inv.Ri hk.1
    have k11:=X11.blk k1 np1
    have X11':=Nx.pre u1 X11
    refine bM (fun c=>?_) fun c=>?_
    · have c:btB e=true:=c
      refine Gi.cw F11 fun w13 F13 u13=>⟨O,?_,X11'.trans ⟨u13.mono fun z h=>by rw[h];exact hF.obr,fun z hz=>.inl hz⟩,k11.1.upd u13 (fun h=>by rw[h] at np1;exact np1 hF.obr),np1⟩
      unfold nD b1l;rw[if_pos c,if_pos c];exact F13
    · have c: ¬btB e=true:=by have c:btB e=false:=c;rw[c];simp
      refine⟨O,?_,X11',k11⟩
      unfold nD b1l;rw[if_neg c,if_neg c];exact F11
  rintro _ w7 ⟨O',F7,X7,k7,n7⟩ _
  have l7:=k7.lt
  have fin: ∀{O'':NP} {w' w'':World} {f' e' l' es'},RW w' O'' br bE f' e' l' es'→Nx O w O'' w'→ ¬O'' p1→Am (fun x=>x=p1) w' w''→RW w'' O'' br bE f' e' l' es'∧Nx O w O'' w'':=fun hf X n u=>
    ⟨hf.upd u fun z hz h=>by rw[h] at hz;exact n hz,Am.trans X.u u fun i hi h=>by omega,X.sub⟩
  refine N8.cl (Ee (fun c=>?_) fun c=>?_)
  · have c: ¬inT loc=true:=by have c:inT loc=false:=c;rw[c];simp
    rw[if_neg c,if_neg c] at h
    refine k7.Fg _ rfl rfl fun w14 k14 u14=>k14.cA (cs:=Uo) pl0 rfl ?_
    obtain⟨F14,X14⟩:=fin F7 X7 n7 u14
    exact h w14 O' F14 X14
  have hin:inT loc=true:=c
  rw[if_pos hin,if_pos hin] at h
  unfold btW wdF at h
  generalize nD f e=f1 at*
  generalize b1l e es=es1 at*
  generalize eG e=e1 at*
  refine Eu.cw F7 fun w17 u17=>?_
  have F17:=F7.Ai u17
  have X17:=X7.Ai u17
  have k17:=k7.Ai u17
  refine bM (fun c=>?_) fun c=>?_
  · have c:mine e1=true:=c
    rw[if_pos c,if_pos rfl,if_pos rfl] at h
    rw[Ap,Ac]
    have F18:=F17.Ai (Af.drew _)
    refine F18.hdr ?_
    rw[Ac]
    refine F18.hdr ?_
    rw[Ac]
    refine F18.elb.c1 4 (c:=KU) (x:=e1.seq) (Ep (by decide)) (Tj.cl F18.inv.seq ?_)
    obtain⟨s8,b8,_⟩:=F18.ex
    refine⟨⟨b8.hold (Af.refl _) (fun x=>x) 0 (by simp[yK]),b8.hold (Af.refl _) (fun x=>x) 0 (by simp[yK]),trivial⟩,?_⟩
    rw[Ac]
    refine F18.elb.sN 4 _ (by simp[Ls]) rfl fun w28 k28 u28=>⟨trivial,?_⟩
    have he:rW e1={e1 with seq:=wrap .u16 (e1.seq+1)}:=by unfold rW;rw[if_pos c]
    have k28:Az w28 bE (Zb (rW e1) l):=by
      rw[he]
      have:(Zb e1 l).set 4 (uV (wrap .u16 (e1.seq+1)))=Zb {e1 with seq:=wrap .u16 (e1.seq+1)} l:=oQ (by decide) rfl fun i hi hn=>by
        match i,hn with
        |0,_=>rfl
        |1,_=>rfl
        |2,_=>rfl
        |3,_=>rfl
        |4,h=>exact absurd rfl h
        |5,_=>rfl
        |6,_=>rfl
        |7,_=>rfl
        |j+8,_=>rfl
      rw[←this];exact k28
    obtain⟨F28,X28⟩:=F18.Ac8 k28 u28 F18.inv.rW (by rw[he])
    have X28:=(X17.Ai (Af.drew _)).trans X28
    have kp28:=(k17.Ai (Af.drew _)).upd u28 (fun h=>by rw[h] at n7;exact n7 F7.obE)
    rw[Ap,Ac]
    have F29:=F28.Ai (Af.drew _)
    have hm2:(rW e1).me=e1.me:=by rw[he]
    refine F29.hdr ?_
    rw[Ac]
    refine F29.elb.c0 (x:=e1.me) ((Ep (by decide)).trans (by rw[←hm2];rfl)) ?_
    rw[Ac]
    refine F29.hdr ?_
    rw[Ac]
    refine F29.elb.c0 (x:=e1.me) ((Ep (by decide)).trans (by rw[←hm2];rfl)) ?_
    rw[Ac]
    refine F29.hdr ?_
    rw[Ac]
    refine F29.elb.c1 3 (c:=KU) (x:=e1.boot) ((Ep (by decide)).trans (by rw[he];rfl)) ?_
    rw[Ac]
    refine F29.hdr ?_
    rw[Ac]
    refine F29.elb.c1 4 (c:=KU) (x:=wrap .u16 (e1.seq+1)) ((Ep (by decide)).trans (by rw[he];rfl)) ?_
    have hf1:f1.me=e1.me:=F7.me
    refine kp28.drew.Fg _ rfl rfl fun w46 k46 u46=>⟨trivial,?_⟩
    refine k46.cA (cs:=Uo) (plP (e1.me,e1.me,e1.boot,wrap .u16 (e1.seq+1),0,loc)) rfl ?_
    obtain⟨F46,X46⟩:=fin F29 (X28.Ai (Af.drew _)) n7 u46
    have:=h w46 O' F46 X46
    unfold isM at this
    rw[if_pos c,hf1] at this
    exact this
  · have c: ¬mine e1=true:=by have c:mine e1=false:=c;rw[c];simp
    rw[if_neg c,Afd c] at h
    refine Bz.cw F17 fun w49 u49=>?_
    have F49:=F17.Ai u49
    have X49:=X17.Ai u49
    have k49:=k17.Ai u49
    refine Ee (fun c2=>?_) fun c2=>?_
    · have c2:Xb f1 e1 es1.length=false:=c2
      rw[if_pos c2] at h
      refine k49.Fg _ rfl rfl fun w50 k50 u50=>k50.cA (cs:=Uo) pl0 rfl ?_
      obtain⟨F50,X50⟩:=fin F49 X49 n7 u50
      exact h w50 O' F50 X50
    · have c2: ¬Xb f1 e1 es1.length=false:=by have c2:Xb f1 e1 es1.length=true:=c2;rw[c2];simp
      rw[if_neg c2] at h
      rw[Ac]
      refine F49.hdr (Ho.cl F49.elb F49.inv fun w55 u55=>?_)
      rw[Ap,Ac]
      have g56:Af w49 w55.drew:=u55.trans (Af.drew _)
      have F56:=F49.Ai g56
      have X56:=X49.Ai g56
      have k56:=k49.Ai g56
      obtain⟨s6,b6,_⟩:=F56.ex
      refine F56.hdr ?_
      rw[Ac]
      refine F56.elb.c0 (x:=e1.me) (Ep (by decide)) ?_
      rw[Ac]
      refine F56.hdr ?_
      rw[Ac]
      refine F56.elb.c1 5 (x:=e1.root) (Ep (by decide)) ?_
      rw[Ac]
      refine b6.c1 6 (x:=f1.lh) rfl ?_
      rw[Ac]
      refine b6.c1 5 (x:=f1.lg) rfl ?_
      rw[Ac]
      refine b6.c1 4 (x:=f1.ll) rfl ?_
      refine Ad fun p71 w72 e71 k71 u72=>⟨⟨b6.hold u72 (fun x=>x) 4 (by simp[yK]),b6.hold u72 (fun x=>x) 5 (by simp[yK]),b6.hold u72 (fun x=>x) 6 (by simp[yK]),F56.elb.hold u72 (fun x=>x) 5 (by rw[Ls];decide),b6.hold u72 (fun x=>x) 0 (by simp[yK]),F56.elb.hold u72 (fun x=>x) 0 (by rw[Ls];decide),b6.hold u72 (fun x=>x) 0 (by simp[yK]),trivial⟩,?_⟩
      refine k71.Fg _ rfl rfl fun w73 k73 u73=>⟨trivial,?_⟩
      have g73:Af w55.drew w73:=Af.fresh (Af.refl _) u72 u73 e71
      have hfw:fwS f1 e1 l loc=(e1.me,e1.root,(oN e1 l).1,(oN e1 l).2.1,f1.lh,wrap .i64 (wrap .i64 (f1.lg+loc)-f1.ll)):=by unfold fwS;rw[F7.me]
      change Az w73 p71 (encs Uo (plP (e1.me,e1.root,(oN e1 l).1,(oN e1 l).2.1,f1.lh,wrap .i64 (wrap .i64 (f1.lg+loc)-f1.ll)))) at k73
      rw[←hfw] at k73
      have n71:p71≠p1:=by have:=k56.lt;omega
      refine k73.cA (cs:=Uo) (plP (fwS f1 e1 l loc)) rfl (Fb.cl1 (x:=plP (fwS f1 e1 l loc)) rfl fun w76 u76=>?_)
      rw[Aj0]
      have F76:=(F56.Ai g73).Ai u76
      have X76:=(X56.Ai g73).Ai u76
      have k76:=(k56.Ai g73).Ai u76
      refine Ee (fun c3=>?_) fun c3=>?_
      · have c3: ¬okF (Z4 (fwS f1 e1 l loc))=true:=by have c3:okF (Z4 (fwS f1 e1 l loc))=false:=c3;rw[c3];simp
        rw[if_neg c3] at h
        refine k76.Fg _ rfl rfl fun w77 k77 u77=>k77.cA (cs:=Uo) pl0 rfl ?_
        obtain⟨F77,X77⟩:=fin F76 X76 n7 u77
        exact h w77 O' F77 X77
      · have c3:okF (Z4 (fwS f1 e1 l loc))=true:=c3
        rw[if_pos c3,if_pos rfl] at h
        refine(k73.Ai u76).cA (cs:=Uo) (plP (fwS f1 e1 l loc)) rfl (k76.Fg _ rfl rfl fun w80 k80 u80=>k80.cA (cs:=Uo) (plP (fwS f1 e1 l loc)) rfl ?_)
        obtain⟨F80,X80⟩:=fin F76 X76 n7 u80
        exact h w80 O' F80 X80
theorem Lj.cw{O:NP}{br bE:Nat}{f:Fl}{e:El}{l:Um}{es:List E3}{loc:Int}{w:World}(hF:RW w O br bE f e l es){k:TR [(false,[KI]),(false,[KI]),(false,[KI])]→WP}
    (h: ∀w',Af w w'→k (((oH f e es loc).1,()),((oH f e es loc).2.1,()),((oH f e es loc).2.2,()),()) w'):
    Ae prog F.Lj [.pointer (some ⟨br,0,none⟩),iV loc] w true [(false,[KI]),(false,[KI]),(false,[KI])] k:=by
  refine Lj.ok ?_
  unfold Lj.wp
  unfold oH at h
  refine Bz.cw hF fun w2 u2=>Ee (fun c=>?_) fun c=>?_
  · have c:Xb f e es.length=false:=c
    rw[if_pos c] at h;exact h w2 u2
  have cs: ¬Xb f e es.length=false:=by have c:Xb f e es.length=true:=c;rw[c];simp
  rw[if_neg cs] at h
  have F2:=hF.Ai u2
  refine N8.cl (Ee (fun c=>?_) fun c=>?_)
  · have c:inT loc=false:=c
    rw[if_pos c] at h;exact h _ u2
  have ct: ¬inT loc=false:=by have c:inT loc=true:=c;rw[c];simp
  rw[if_neg ct] at h
  refine Eu.cw F2 fun w6 u6=>?_
  have F6:=F2.Ai u6
  have g6:=u2.trans u6
  refine bM (fun c=>?_) fun c=>?_
  · have c:mine e=true:=c
    rw[if_pos c] at h;exact h _ g6
  have cm':mine e=false:=c
  have cm: ¬mine e=true:=by rw[cm'];simp
  rw[if_neg cm] at h
  have hne:es≠[]:=by
    intro h0;subst h0
    refine cs ?_
    unfold Xb
    have:(e.root==e.me)=false:=cm'
    rw[this]
    have:=hF.need
    simp;omega
  have hMB:MB f.drift (rF f.drift es):=Acs hne hF.good
  generalize hm:rF f.drift es=m at*
  have hm5:m.2.2.2.2=kS es:=by rw[←hm];rfl
  refine Cc.by (fun z w'=>Af w w'∧ ∃p,z.1=⟨p,0,none⟩∧Az w' p (m5 m)) ?_ ?_
  · rw[Ap]
    have gd:Af w w6.drew:=g6.trans (Af.drew _)
    obtain⟨s,b1,E1,_⟩:=(hF.Ai gd).ex
    rw[Ac]
    refine b1.c1 2 (x:=f.drift) rfl ?_
    rw[Ac]
    refine b1.c1 3 (c:=.sl) (x:=s) rfl ?_
    have hd: ∀{w':World},Af w6.drew w'→Hold [(7,(Addr.add ⟨br,0,none⟩ 3),(w6.drew.cell? (Addr.add ⟨br,0,none⟩ 3)).getD undef),(3,(Addr.add ⟨br,0,none⟩ 2),(w6.drew.cell? (Addr.add ⟨br,0,none⟩ 2)).getD undef)] w':=fun u=>⟨b1.hold u (fun x=>x) 3 (by simp[yK]),b1.hold u (fun x=>x) 2 (by simp[yK]),trivial⟩
    refine⟨?_,?_⟩
    · refine V9.cl E1 hF.len hF.good (fun h=>absurd h hne) fun _ w16 u16=>⟨hd u16,?_⟩
      rw[hm]
      refine Ad fun p17 w18 e17 k17 u18=>⟨hd (u16.trans u18),k17.Fg _ rfl rfl fun w19 k19 u19=>⟨trivial,?_⟩⟩
      exact⟨gd.trans (Af.fresh u16 u18 u19 e17),p17,rfl,k19⟩
    · refine Ad fun p20 w21 e20 k20 u21=>⟨hd u21,?_⟩
      refine V9.cl (E1.Ai u21) hF.len hF.good (fun h=>absurd h hne) fun _ w23 u23=>⟨trivial,?_⟩
      rw[hm]
      refine(k20.Ai u23).Fg _ rfl rfl fun w24 k24 u24=>⟨trivial,?_⟩
      refine⟨gd.trans (Am.trans (u21.trans u23) u24 fun i hi h=>?_),p20,rfl,k24⟩
      omega
  · rintro⟨z,_⟩ w9 ⟨g9,p,hz,kp⟩ _
    dsimp only at hz
    subst hz
    refine kp.cA (cs:=[KI,KI,KI,KI,KI]) (t5 m) rfl ?_
    refine Rl.cl (m:=m) hMB fun w27 u27=>Ee (fun c=>?_) fun c=>?_
    · have c:pF m loc=false:=c
      rw[if_neg (by rw[c];simp)] at h
      exact h _ (g9.trans u27)
    · have c:pF m loc=true:=c
      rw[if_pos c] at h
      rw[Ap]
      refine(kp.Ai u27).drew.c1 4 (x:=m.2.2.2.2) rfl ?_
      rw[hm5]
      exact h _ ((g9.trans u27).trans (Af.drew _))
end Go.Proofs.YtnjmfbjgcfnanaaGreat
