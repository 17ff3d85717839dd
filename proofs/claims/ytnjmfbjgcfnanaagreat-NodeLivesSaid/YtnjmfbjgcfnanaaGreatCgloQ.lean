import Derived.Test.YtnjmfbjgcfnanaaGreatCgloP
import Derived.Test.YtnjmfbjgcfnanaaGreatCtabQ
namespace Go.Proofs.YtnjmfbjgcfnanaaGreat
open Go.Eng Go Tryz
open Go.IntKind (wrap)
set_option linter.unusedSimpArgs false
set_option linter.unusedVariables false
set_option maxRecDepth 100000
set_option maxHeartbeats 8000000
abbrev RM:List (Bool×List CK):=[(true,[KI,KI,KI,KI,KI]),(false,[.b])]
def m5(m:M5):List Value:=[iV m.1,iV m.2.1,iV m.2.2.1,iV m.2.2.2.1,iV m.2.2.2.2]
def t5(m:M5):Jf [KI,KI,KI,KI,KI]:=(m.1,m.2.1,m.2.2.1,m.2.2.2.1,m.2.2.2.2,())
theorem Ac0{es:List E3}(hn:es.length≤8)(h: ∀e∈es,Jm e=true):I64 (sL es)∧I64 (sO es):=by
  have:=Agh es h
  unfold I64;omega
theorem V7.cl{drift:Int}{w:World}{t:Option Addr}{s:Sl}{es:List E3}(hT:TV w t s es)(hn:es.length≤8)(hg: ∀e∈es,Jm e=true){k:TR RM→WP}
    (h0:es=[]→ ∀w',Af w w'→k (t5 (0,0,0,0,0),(false,()),()) w') (h1:es≠[]→ ∀w',Af w w'→k (t5 (rF drift es),(true,()),()) w'):
    Ae prog F.V7 [iV drift,.pointer t] w true RM k:=by
  refine V7.ok ?_
  unfold V7.wp
  refine Ad fun p1 w2 e1 k1 u1=>Dk.cl (hT.Ai u1) (Yl (fun c=>?_) fun c=>?_)
  · have c:(es.length:Int)=0:=c
    exact k1.Fg _ rfl rfl fun w5 k5 u5=>k5.ld5 (h0 (List.eq_nil_of_length_eq_zero (by omega)) w5 (Af.fresh (Af.refl w) u1 u5 e1))
  have c:(es.length:Int)≠0:=c
  have hne:es≠[]:=by intro e;subst e;exact c rfl
  refine Ad fun p7 w8 e7 k7 u7=>Ad fun p9 w10 e9 k9 u9=>?_
  have l1:=k1.lt
  have l7:=k7.lt
  have l9:=k9.lt
  have ord:w.heap.size≤p1∧p1<p7∧p7<p9:=by omega
  refine(k7.Ai u9).Fg _ rfl rfl fun w11 k11 u11=>?_
  refine(k9.upd u11 (by omega)).Fg _ rfl rfl fun w12 k12 u12=>?_
  have g10:Af w w10:=(u1.trans u7).trans u9
  have g12:Af w w12:=Am.trans (Am.trans g10 u11 fun i hi h=>by omega) u12 fun i hi h=>by omega
  have q7:=k11.upd u12 (by omega)
  have q1:=(((k1.Ai u7).Ai u9).upd u11 (by omega)).upd u12 (by omega)
  refine Gv.cl fun pb w14 e14 u14 k14=>?_
  have g14:=g12.trans u14
  have s14:=u14.size
  have s12:=k12.lt
  have hout: ∀b,b<w.heap.size→ ¬(b=p7∨b=p9):=fun b h=>by omega
  refine⟨fun x=>Jm (sS x)=true,es.map fG,fun z=>z=p7∨z=p9,
    fun pre W=>Af w W∧Az W p1 [iV 0,iV 0,iV 0,iV 0,iV 0]∧Az W p7 [iV (sL (pre.map sS))]∧Az W p9 [iV (sO (pre.map sS))]∧ ∀e∈pre.map sS,Jm e=true,fun _ _ _=>False,
    Ea.Ak2 hg k14 (hT.Ai g14) (by omega) (by omega) (fun a ha=>hout _ (hT.lt.1 a ha)) (fun h a ha=>hout _ (hT.lt.2 h a ha)),
    fun W tu=>⟨g14.turn tu g14.size,(q1.Ai u14).turn tu,(q7.Ai u14).turn tu,(k12.Ai u14).turn tu,fun e h=>by cases h⟩,?_,?_,fun s hs=>by cases hs⟩
  · intro x W hx hs
    refine Ad fun p23 w24 e23 k23 u23=>k23.Fg _ rfl rfl fun w25 k25 u25=>oZ (Af.fresh (Af.refl W) u23 u25 e23) ?_
    rintro W2 tu pre ⟨hg2,h1,h7,h9,hpre⟩ hlen
    rw[List.length_map] at hlen
    have k2:=k25.turn tu
    have l2:=k2.lt
    have bnd:p9<p23:=by omega
    have hall: ∀e∈pre.map sS++[sS x],Jm e=true:=fun e h=>by
      rcases List.mem_append.1 h with h|h
      · exact hpre e h
      · rw[List.mem_singleton.1 h];exact hx
    have hI:=Ac0 (es:=pre.map sS++[sS x]) (by rw[List.length_append,List.length_map,List.length_singleton];omega) hall
    rw[kU,lG] at hI
    refine h7.i0 rfl (k2.i0 rfl (h7.s0 (by simp) fun w28 k28 u28=>?_))
    refine(h9.upd u28 (by omega)).i0 rfl ((k2.upd u28 (by omega)).i1 1 rfl ((h9.upd u28 (by omega)).s0 (by simp) fun w31 k31 u31=>?_))
    have U:Am (fun z=>z=p7∨z=p9) W2 w31:=(u28.mono fun _ h=>.inl h).trans u31 fun _ _ h=>.inr h
    have em:(pre++[x]).map sS=pre.map sS++[sS x]:=by simp
    have e7':wrap .i64 (sL (pre.map sS)+x.1.1)=sL (pre.map sS)+(sS x).1:=Ah hI.1
    have e9':wrap .i64 (sO (pre.map sS)+x.1.2.1)=sO (pre.map sS)+(sS x).2.1:=Ah hI.2
    rw[e7'] at k28
    rw[e9'] at k31
    refine⟨Rnd.of U fun z hz _=>⟨fun _=>hz,fun h=>by rcases hz with rfl|rfl<;>omega⟩,fun W4 t4=>⟨(Am.trans hg2 U fun i hi h=>by omega).turn t4 g14.size,(h1.upd U (by omega)).turn t4,?_,?_,?_⟩⟩
    · rw[em,kU];exact(k28.upd u31 (by omega)).turn t4
    · rw[em,lG];exact k31.turn t4
    · rw[em];exact hall
  · rintro D W hD ⟨hgW,h1',h7,h9,_⟩ hm
    rw[xO] at h7 h9
    have hI:=Ac0 hn hg
    have hnI:I64 (es.length:Int):=by unfold I64;omega
    have fl: ∀x:Int,dQ x (es.length:Int)=x/(es.length:Int):=fun x=>by unfold dQ;rw[if_neg (by omega)]
    have hB:w14.heap.size≤W.heap.size:=by have:=hm.lt;have:=h9.lt;omega
    refine h7.i0 rfl (Oi.cl hI.1 hnI fun w34 u34=>(h7.Ai u34).s0 (by simp) fun w35 k35 u35=>?_)
    refine((h9.Ai u34).upd u35 (by omega)).i0 rfl (Oi.cl hI.2 hnI fun w38 u38=>(((h9.Ai u34).upd u35 (by omega)).Ai u38).s0 (by simp) fun w39 k39 u39=>?_)
    rw[Ap]
    have U:Am (fun z=>z=p7∨z=p9) W w39.drew:=Am.drew ((((Am.Bj u34).trans u35 fun _ _ h=>.inl h).trans (Am.Bj u38:Am (fun z=>z=p7∨z=p9) _ _) fun _ _ h=>h).trans u39 fun _ _ h=>.inr h)
    have f7:=((k35.Ai u38).upd u39 (by omega)).drew
    have f9:=k39.drew
    have f1:=h1'.upd U (by omega)
    have gU:Af w w39.drew:=Am.trans hgW U fun i hi h=>by omega
    have hT2:=hT.Ai gU
    have hm2:=hm.upd U (by omega)
    generalize w39.drew=w40 at f7 f9 f1 gU hT2 hm2
    refine f7.i0 rfl (f9.i0 rfl (Jr.cl hT2 (by omega) fun l w44 u44 ho=>⟨⟨f9.hold u44 (fun x=>x) 0 (by simp),f7.hold u44 (fun x=>x) 0 (by simp),trivial⟩,?_⟩))
    refine Xt.cl ho.ents fun w46 u46=>⟨⟨f9.hold (u44.trans u46) (fun x=>x) 0 (by simp),f7.hold (u44.trans u46) (fun x=>x) 0 (by simp),trivial⟩,?_⟩
    have u6:=u44.trans u46
    refine Ky.cl (hT2.Ai u6) (by omega) fun w48 u48=>⟨⟨f9.hold (u6.trans u48) (fun x=>x) 0 (by simp),f7.hold (u6.trans u48) (fun x=>x) 0 (by simp),trivial⟩,?_⟩
    have u8:=u6.trans u48
    refine(f1.Ai u8).Fg _ rfl rfl fun w49 k49 u49=>⟨trivial,qC ((hm2.Ai u8).upd u49 (by omega)) fun w50 ht=>?_⟩
    refine(k49.turn (ht _ (Nat.le_refl _))).ld5 ?_
    have:=h1 hne w50 ((Am.trans (gU.trans u8) u49 fun i hi h=>by omega).turn (ht w.heap.size (Nat.le_trans g14.size hD)) (Nat.le_refl _))
    unfold rF t5 at this
    rw[fl,fl]
    exact this
theorem V9.cl{drift:Int}{w:World}{s:Sl}{es:List E3}(hE:L6 w s es)(hn:es.length≤8)(hg: ∀e∈es,Jm e=true){k:TR RM→WP}
    (h0:es=[]→ ∀w',Af w w'→k (t5 (0,0,0,0,0),(false,()),()) w') (h1:es≠[]→ ∀w',Af w w'→k (t5 (rF drift es),(true,()),()) w'):
    Ae prog F.V9 [iV drift,.slice s.1 s.2.1 s.2.2] w true RM k:=by
  refine V9.ok ?_
  unfold V9.wp
  have hl:=hE.len
  refine Ad fun p1 w2 e1 k1 u1=>Yl (fun c=>?_) fun c=>?_
  · have c:(s.2.1:Int)=0:=c
    exact k1.Fg _ rfl rfl fun w5 k5 u5=>k5.ld5 (h0 (List.eq_nil_of_length_eq_zero (by omega)) w5 (Af.fresh (Af.refl w) u1 u5 e1))
  have c:(s.2.1:Int)≠0:=c
  have hne:es≠[]:=by intro e;subst e;exact c (by rw[hl];rfl)
  have l1:=k1.lt
  refine Ci.by (fun z w'=>Af w w'∧Az w' p1 [iV 0,iV 0,iV 0,iV 0,iV 0]∧ ∃i:Nat,z=(sL (es.take i),sO (es.take i),(i:Int),())∧i≤es.length)
    (fun z=>(1000-z.2.2.1).toNat) ⟨u1,k1,0,rfl,by omega⟩ ?_
  clear k1
  rintro z w7 ⟨g,k1,i,rfl,hi⟩ _
  refine Dx (fun c=>?_) fun c=>?_
  · have hi':i<es.length:=by have c:(i:Int)<(s.2.1:Int):=c;omega
    have he:es[i]? =some es[i]:=List.getElem?_eq_getElem hi'
    generalize es[i]=e at he
    have hE3:=hE.Ai g
    refine hE3.ix (z:=(i:Int)) rfl he fun a ha=>hE3.A8 ha he ?_
    refine Ad fun p10 w11 e10 k10 u11=>k10.Fg _ rfl rfl fun w12 k12 u12=>k12.i0 rfl (k12.i1 1 rfl ?_)
    have ht:es.take (i+1)=es.take i++[e]:=take_snoc he
    have hI:=Ac0 (es:=es.take (i+1)) (by rw[List.length_take];omega) fun x hx=>hg x (List.mem_of_mem_take hx)
    rw[ht,kU,lG] at hI
    refine⟨⟨Af.fresh g u11 u12 e10,(k1.Ai u11).upd u12 (by have:=k1.lt;omega),i+1,?_,by omega⟩,?_⟩
    · show(wrap .i64 (sL (es.take i)+e.1),wrap .i64 (sO (es.take i)+e.2.1),wrap .i64 ((i:Int)+1),())=_
      rw[dA (by omega),Ah hI.1,Ah hI.2,ht,kU,lG]
    · show(1000-wrap .i64 ((i:Int)+1)).toNat<(1000-(i:Int)).toNat
      rw[dA (by omega)];omega
  · have hi':i=es.length:=by have c: ¬(i:Int)<(s.2.1:Int):=c;omega
    subst hi'
    rw[List.take_length]
    have hI:=Ac0 hn hg
    have hnI:I64 (s.2.1:Int):=by unfold I64;omega
    refine Oe.cl hI.1 hnI (by omega) fun w16 u16=>Oe.cl hI.2 hnI (by omega) fun w18 u18=>?_
    have g18:=(g.trans u16).trans u18
    refine Xv.cl (hE.Ai g18) fun w20 u20=>Vf.cl (hE.Ai (g18.trans u20)) (by omega) fun w22 u22=>?_
    refine((((k1.Ai u16).Ai u18).Ai u20).Ai u22).Fg _ rfl rfl fun w23 k23 u23=>k23.ld5 ?_
    have:=h1 hne w23 (Am.trans ((g18.trans u20).trans u22) u23 fun i hi h=>by omega)
    unfold rF t5 at this
    rw[←hl] at this
    exact this
abbrev aM(m:M5):Value:=.agg #[iV m.1,iV m.2.1,iV m.2.2.1,iV m.2.2.2.1,iV m.2.2.2.2]
theorem Ahj{drift:Int}{m:M5}(h:MB drift m){t:Int}(h0:0≤t)(h1:t≤1125899906842624):mdV m.2.2.1 (t-m.1) m.2.2.2.1=gn m t:=by
  have hb:=Agu h h0 h1
  have hd:=h.sv.d0
  simp only at hd
  have:mdB m.2.2.1 (t-m.1) m.2.2.2.1=true:=by
    unfold mdB
    rw[decide_eq_false (by omega),Bool.not_false,Bool.true_and,decide_eq_true_eq]
    unfold gn at hb
    unfold I64;omega
  unfold mdV
  rw[if_pos this];rfl
theorem MB.I{drift:Int}{m:M5}(h:MB drift m):I64 m.2.2.1∧I64 m.2.2.2.1:=by
  have:=h.sv.d0
  have:=h.sv.d1
  have:=h.sv.n0
  have:=h.sv.n1
  simp only at*
  unfold I64;omega
theorem yV{x:Int}(h0: -1125899906842624≤x)(h1:x≤1125899906842624):clamp x (Int.negSucc 1125899906842623) 1125899906842624=x:=by
  unfold clamp;rw[negS];omega
theorem Afh{a b:Int}(h:I64 (a+b)):sat a b=a+b:=by unfold sat;unfold I64 at h;rw[if_neg (by omega),if_neg (by omega)]
theorem Jp.cl{drift:Int}{m:M5}{t:Int}{w:World}(hm:MB drift m){k:TR [(false,[KI]),(false,[.b])]→WP}
    (hk: ∀w',Af w w'→k ((gV m t,()),(pF m t,()),()) w'):
    Ae prog F.Jp [aM m,iV t] w true [(false,[KI]),(false,[.b])] k:=by
  refine Jp.ok ?_
  unfold Jp.wp
  have no: ∀w',Af w w'→pF m t=false→k ((0,()),(false,()),()) w':=fun w' g h=>by
    have:=hk w' g
    unfold gV at this
    rw[h] at this;exact this
  refine Ad fun p1 w2 e1 k1 u1=>Dx (fun c=>no w2 u1 ?_) fun c0=>Dx (fun c=>no w2 u1 ?_) fun c1=>?_
  · unfold pF;rw[decide_eq_false (by omega: ¬0≤t)];rfl
  · unfold pF;rw[decide_eq_false (by omega: ¬t≤1125899906842624),Bool.and_false];rfl
  have hl0:=hm.l0
  have hl1:=hm.l1
  have ho0:=hm.o0
  have ho1:=hm.o1
  refine k1.i0 rfl (Dx (fun c=>absurd (show m.1<0 from c) (by omega)) fun _=>k1.i0 rfl (Dx (fun c=>absurd (show m.1>1125899906842624 from c) (by omega)) fun _=>?_))
  refine k1.ldp 2 rfl rfl (k1.i0 rfl ?_)
  have hb:=Agu hm (t:=t) (by omega) (by omega)
  have ew:wrap .i64 (t-m.1)=t-m.1:=Ah (by unfold I64;omega)
  dsimp only
  rw[ew]
  refine Jq.cl hm.I.1 hm.I.2 (by unfold I64;omega) fun w8 u8=>?_
  dsimp only
  rw[Ahj hm (by omega) (by omega)]
  refine(k1.Ai u8).i1 1 rfl (Qs.cl ?_)
  dsimp only
  rw[yV ho0 ho1]
  refine Yb.cl (by unfold I64;omega) (by unfold I64;omega) (Qs.cl ?_)
  dsimp only
  rw[yV hb.1 hb.2,Afh (by unfold I64;omega)]
  refine Yb.cl (by unfold I64;omega) (by unfold I64;omega) ?_
  dsimp only
  rw[Afh (by unfold I64;omega)]
  have g:=u1.trans u8
  have er:t+m.2.1+gn m t=raw m t:=rfl
  rw[er]
  refine Dx (fun c=>no w8 g ?_) fun c2=>Dx (fun c=>no w8 g ?_) fun c3=>?_
  · have c:raw m t<0:=c
    unfold pF;rw[decide_eq_false (by omega: ¬0≤raw m t),Bool.and_false];rfl
  · have c:raw m t>1125899906842624:=c
    unfold pF;rw[decide_eq_false (by omega: ¬raw m t≤1125899906842624),Bool.and_false]
  · have c2: ¬raw m t<0:=c2
    have c3: ¬raw m t>1125899906842624:=c3
    have ok:pF m t=true:=by
      unfold pF
      rw[decide_eq_true (by omega:0≤t),decide_eq_true (by omega:t≤1125899906842624),decide_eq_true (by omega:0≤raw m t),decide_eq_true (by omega:raw m t≤1125899906842624)];rfl
    have:=hk w8 g
    unfold gV at this
    rw[ok,if_pos rfl] at this
    exact this
theorem Wx.cl{drift:Int}{m:M5}{t:Int}{w:World}(hm:MB drift m)(h0:0≤t)(h1:t≤1125899906842624){k:TR [(false,[KI])]→WP}
    (hk: ∀w',Af w w'→k ((raw m t,()),()) w'):Ae prog F.Wx [aM m,iV t] w false [(false,[KI])] k:=by
  refine Wx.ok ?_
  unfold Wx.wp
  have hl0:=hm.l0
  have hl1:=hm.l1
  have ho0:=hm.o0
  have ho1:=hm.o1
  have hb:=Agu hm h0 h1
  refine Ad fun p1 w2 e1 k1 u1=>?_
  rw[Ap]
  have k2:=k1.drew
  refine k2.i1 1 rfl (k2.i1 2 rfl (k2.i1 3 rfl (k2.i0 rfl ?_)))
  have ew:wrap .i64 (t-m.1)=t-m.1:=Ah (by unfold I64;omega)
  rw[ew]
  refine Vh.cl hm.I.1 hm.I.2 (by unfold I64;omega) fun w8 u8=>⟨⟨k2.hold u8 (fun x=>x) 0 (by simp),k2.hold u8 (fun x=>x) 1 (by simp),trivial⟩,?_⟩
  dsimp only
  rw[Ahj hm h0 h1,Ah (n:=t+m.2.1) (by unfold I64;omega),Ah (n:=t+m.2.1+gn m t) (by unfold I64;omega)]
  exact hk w8 ((Am.drew u1).trans u8 fun _ _ x=>x)
theorem Rl.cl{drift:Int}{m:M5}{t:Int}{w:World}(hm:MB drift m){k:TR [(false,[KI]),(false,[.b])]→WP}
    (hk: ∀w',Af w w'→k ((gV m t,()),(pF m t,()),()) w'):
    Ae prog F.Rl [aM m,iV t] w true [(false,[KI]),(false,[.b])] k:=by
  refine Rl.ok ?_
  unfold Rl.wp
  have no: ∀w',Af w w'→pF m t=false→k ((0,()),(false,()),()) w':=fun w' g h=>by
    have:=hk w' g
    unfold gV at this
    rw[h] at this;exact this
  refine Ad fun p1 w2 e1 k1 u1=>Dx (fun c=>no w2 u1 ?_) fun c0=>Dx (fun c=>no w2 u1 ?_) fun c1=>?_
  · unfold pF;rw[decide_eq_false (by omega: ¬0≤t)];rfl
  · unfold pF;rw[decide_eq_false (by omega: ¬t≤1125899906842624),Bool.and_false];rfl
  refine k1.ld5 (Wx.cl (m:=m) hm (by omega) (by omega) fun w8 u8=>?_)
  have g:=u1.trans u8
  refine Dx (fun c=>no w8 g ?_) fun c2=>Dx (fun c=>no w8 g ?_) fun c3=>?_
  · have c:raw m t<0:=c
    unfold pF;rw[decide_eq_false (by omega: ¬0≤raw m t),Bool.and_false];rfl
  · have c:raw m t>1125899906842624:=c
    unfold pF;rw[decide_eq_false (by omega: ¬raw m t≤1125899906842624),Bool.and_false]
  · have c2: ¬raw m t<0:=c2
    have c3: ¬raw m t>1125899906842624:=c3
    have ok:pF m t=true:=by
      unfold pF
      rw[decide_eq_true (by omega:0≤t),decide_eq_true (by omega:t≤1125899906842624),decide_eq_true (by omega:0≤raw m t),decide_eq_true (by omega:raw m t≤1125899906842624)];rfl
    have:=hk w8 g
    unfold gV at this
    rw[ok,if_pos rfl] at this
    exact this
theorem Aj6{m:M5}{t:Int}:pF m t=true↔0≤t∧t≤1125899906842624∧0≤raw m t∧raw m t≤1125899906842624:=by
  unfold pF;simp[and_assoc]
end Go.Proofs.YtnjmfbjgcfnanaaGreat
