import Derived.Test.YtppeepkmnijdpaaGreatDoorMcE
import Derived.Test.YtppeepkmnijdpaaGreatDoorEngU
namespace Go.Proofs.YtppeepkmnijdpaaGreatDoor
open Go.Eng Go Tryz
open Go.IntKind (wrap)
set_option linter.unusedSimpArgs false
set_option linter.unusedVariables false
set_option maxRecDepth 100000
set_option maxHeartbeats 8000000
abbrev RS3:List (Bool×List CK):=[(true,[KI,KI,KI])]
def dX(e:E3):TR RS3:=((e.1,e.2.1,e.2.2,()),())
def uX(x:TR RS3):E3:=(x.1.1,x.1.2.1,x.1.2.2.1)
theorem Ajg(e:E3):uX (dX e)=e:=rfl
theorem Aae(es:List E3):(es.map dX).map uX=es:=by rw[List.map_map];exact(List.map_congr_left λe _=>Ajg e).trans (List.map_id es)
def Slot(w:World)(a:Addr)(s:Sl):Prop:=w.cell? a=some (.slice s.1 s.2.1 s.2.2)
theorem Slot.Ai{w w':World}{a:Addr}{s:Sl}(h:Slot w a s)(u:Ah w w'):Slot w' a s:=bH h u
theorem Slot.drew{w:World}{a:Addr}{s:Sl}(h:Slot w a s):Slot w.drew a s:=bH h (Ah.drew w)
theorem Slot.lt{w:World}{a:Addr}{s:Sl}(h:Slot w a s):a.block<w.heap.size:=cell_lt h
theorem Slot.sl0{w:World}{a:Addr}{s:Sl}(h:Slot w a s){k:Sl→Prop}(hk:k s):ld1 .sl a w k:=Tt (x:=s) h rfl hk
theorem Ar.Aa3{w:World}{b:Nat}{s:Sl}(pre post:List Value)(h:Ar w b (pre++ .slice s.1 s.2.1 s.2.2::post)):Slot w ⟨b,pre.length,none⟩ s:=by
 unfold Slot;rw[h.cell,List.getElem?_append_right (Nat.le_refl _),Nat.sub_self];rfl
def TV(w:World)(t:Option Addr)(s:Sl)(es:List E3):Prop:=
 (t=none∧s=(none,0,0)∧es=[])∨ ∃bt:Addr,t=some bt∧Slot w bt s∧Nu w s es
theorem TV.Ai{w w':World}{t:Option Addr}{s:Sl}{es:List E3}(h:TV w t s es)(u:Ah w w'):TV w' t s es:=by
 rcases h with h|⟨bt,h1,h2,h3⟩
 ·exact .inl h
 ·exact .inr ⟨bt,h1,h2.Ai u,h3.Ai u⟩
theorem TV.lt{w:World}{t:Option Addr}{s:Sl}{es:List E3}(h:TV w t s es):(∀a,t=some a→a.block<w.heap.size)∧(es≠[]→ ∀a,s.1=some a→a.block<w.heap.size):=by
 rcases h with ⟨rfl,rfl,rfl⟩|⟨bt,rfl,h2,h3⟩
 ·exact⟨(λa h=>by cases h),λh=>absurd rfl h⟩
 ·refine⟨(λa h=>by cases h;exact h2.lt),λhn a ha=>?_⟩
  have hp:0<es.length:=List.length_pos_iff.2 hn
  have:=(h3.cell ha (List.getElem?_eq_getElem hp)).1
  have:=cell_lt this
  rwa [add_block] at this
theorem TV.keep{B:Nat}{M:NP}{w w':World}{t:Option Addr}{s:Sl}{es:List E3}(h:TV w t s es)(u:uZ B M w w')(ht: ∀a,t=some a→a.block<B∧ ¬M a.block)(hs:es≠[]→ ∀a,s.1=some a→a.block<B∧ ¬M a.block):TV w' t s es:=by
 rcases h with ⟨rfl,rfl,rfl⟩|⟨bt,rfl,h2,h3⟩
 ·exact .inl ⟨rfl,rfl,rfl⟩
 ·refine .inr ⟨bt,rfl,uZ.cell h2 u (ht _ rfl).1 (ht _ rfl).2,uZ.row h3 u λhx=>hs ?_⟩
  intro e;subst e;exact hx rfl
theorem C9.cl{w:World}{t:Option Addr}{s:Sl}{es:List E3}(hT:TV w t s es){k:TR [(false,[KI])]→WP}(hk:k (((es.length:Int),()),()) w):
  Ad prog F.C9 [.pointer t] w false [(false,[KI])] k:=by
 refine C9.ok ?_
 rcases hT with ⟨rfl,rfl,rfl⟩|⟨bt,rfl,hb,hE⟩
 ·exact hk
 ·refine Le rfl ?_
  rw[Ac]
  refine hb.sl0 ?_
  rw[hE.len];exact hk
theorem Al2{es:List E3}{l:E3}(h:es.getLast? =some l):es[es.length-1]? =some l:=by rw[←List.getLast?_eq_getElem?];exact h
theorem Am8{n:Nat}(h0:0<n)(h1:n≤1000000000):wrap .i64 ((n:Int)-1)=((n-1:Nat):Int):=by
 rw[Af (by unfold I64;omega)];omega
theorem Acd{n:Nat}(h1:n≤1000000000):wrap .i64 ((n:Int)+1)=((n+1:Nat):Int):=by
 rw[Af (by unfold I64;omega)];rfl
theorem Jh.cl{w:World}{t:Option Addr}{s:Sl}{es:List E3}(hT:TV w t s es)(hn:es.length≤1000000000){k:TR [(true,[KI,KI,KI]),(false,[.b])]→WP}
  (h0:es=[]→ ∀w',Ah w w'→k ((0,0,0,()),(false,()),()) w') (h1: ∀l,es.getLast? =some l→ ∀w',Ah w w'→k ((l.1,l.2.1,l.2.2,()),(true,()),()) w'):
  Ad prog F.Jh [.pointer t] w true [(true,[KI,KI,KI]),(false,[.b])] k:=by
 refine Jh.ok ?_
 refine Ae λp1 w2 e1 k1 u1=>C9.cl (hT.Ai u1) ?_
 refine Vh (λc=>?_) λc=>?_
 ·refine k1.E5 _ rfl rfl λw5 k5 u5=>k5.Xd (h0 ?_ w5 (Ah.fresh (Ah.refl w) u1 u5 e1))
  have c:(es.length:Int)=0:=c
  exact List.eq_nil_of_length_eq_zero (by omega)
 ·have c:(es.length:Int)≠0:=c
  rcases hT with ⟨rfl,rfl,rfl⟩|⟨bt,rfl,hb,hE⟩
  ·exact absurd rfl c
  rw[Aq,Ac]
  have hb2:=(hb.Ai u1).drew
  have hE2:=(hE.Ai u1).drew
  refine hb2.sl0 ?_
  rw[Ac]
  refine hb2.sl0 ?_
  have hp:es.length-1<es.length:=by omega
  obtain⟨l,hl⟩: ∃l,es.getLast? =some l:=⟨_,List.getLast?_eq_getElem? ▸List.getElem?_eq_getElem hp⟩
  have hg:=Al2 hl
  rw[hE.len,Am8 (by omega) hn]
  refine(hE.len▸hE2.ix) rfl hg λa ha=>?_
  refine hE2.Bc ha hg ?_
  refine(k1.drew).E5 _ rfl rfl λw5 k5 u5=>⟨trivial,k5.Xd (h1 l hl w5 (Ah.fresh (Ah.refl w) (u1.trans (Ah.drew _)) u5 e1))⟩
theorem Fp.cl{w:World}{t:Option Addr}{k:TR [(false,[.any])]→WP}
  (hk: ∀pb w',w.heap.size=pb→Ah w w'→Ar w' pb [.pointer t]→k ((.func (.func F.Dq) #[] #[.pointer (some ⟨pb,0,none⟩)],()),()) w'):
  Ad prog F.Fp [.pointer t] w false [(false,[.any])] k:=by
 refine Fp.ok ?_
 exact Ae λpb w' e k1 u1=>hk pb w' e u1 k1
theorem Dq.Ad4{w:World}{pb:Nat}{t:Option Addr}{s:Sl}{es:List E3}{M:NP}{V:TR RS3→Prop}(hV: ∀e∈es,V (dX e))(hp:Ar w pb [.pointer t])(hT:TV w t s es)(hn:es.length≤1000000000)
  (hMp: ¬M pb) (hMt: ∀a,t=some a→ ¬M a.block) (hMs:es≠[]→ ∀a,s.1=some a→ ¬M a.block):
  ItS prog (.func (.func F.Dq) #[] #[.pointer (some ⟨pb,0,none⟩)]) RS3 V (es.map dX) M w:=by
 refine Aec (by kernel_rfl) λl J Jx W g hJ hJx hY h0=>?_
 refine Dq.ok ?_
 refine(hp.Ai g).p0 ?_
 refine C9.cl (hT.Ai g) ?_
 refine Aw.by (λz W'=> ∃i:Nat,z=((i:Int),())∧i≤es.length∧J ((es.map dX).take i) W'∧Ar W' pb [.pointer t]∧TV W' t s es)
  (λz=>(1000000000-z.1).toNat) ⟨0,rfl,by omega,by simpa using h0,hp.Ai g,hT.Ai g⟩ ?_
 rintro z W6 ⟨i,rfl,hi,hj,hpb,hTV⟩ _
 refine Cf (λc=>?_) λc=>?_
 ·have hi':i<es.length:=by have c:(i:Int)<(es.length:Int):=c;omega
  have he:es[i]? =some es[i]:=List.getElem?_eq_getElem hi'
  generalize es[i]=e at he
  refine hpb.p0 ?_
  rcases hTV with ⟨rfl,rfl,rfl⟩|⟨bt,rfl,hb,hE⟩
  ·cases he
  rw[Ac]
  refine hb.sl0 (hE.ix rfl he λa ha=>hE.Bc ha he ?_)
  show yiS prog l (dP RS3 (dX e)) W6 _
  have ht:(es.map dX).take i++[dX e]=(es.map dX).take (i+1):=by
   rw[List.take_add_one,List.getElem?_map,he];rfl
  refine hY _ (dX e) W6 _ (hV e (List.mem_of_getElem? he)) hj (by rw[List.length_take,List.length_map];omega) (λW2 hj2 kp=>?_) λW2 hj2=>?_
  ·rw[ht] at hj2
   refine⟨⟨i+1,?_,by omega,hj2,uZ.blk hpb kp hp.lt hMp,?_⟩,?_⟩
   ·show(wrap .i64 ((i:Int)+1),())=_
    rw[Acd (by omega)]
   ·exact TV.keep (.inr ⟨bt,rfl,hb,hE⟩) kp (λa ha=>⟨hT.lt.1 a ha,hMt a ha⟩) λhne a ha=>⟨hT.lt.2 hne a ha,hMs hne a ha⟩
   ·show(1000000000-wrap .i64 ((i:Int)+1)).toNat<(1000000000-(i:Int)).toNat
    rw[Acd (by omega)];omega
  ·refine .inr ⟨_,List.take_prefix (i+1) (es.map dX),?_⟩
   rw[ht] at hj2;exact hj2
 ·have hi':i=es.length:=by have c: ¬(i:Int)<(es.length:Int):=c;omega
  subst hi'
  rw[←List.length_map (f:=dX),List.take_length] at hj
  exact .inl hj
theorem Dq.its{w:World}{pb:Nat}{t:Option Addr}{s:Sl}{es:List E3}{M:NP}(hp:Ar w pb [.pointer t])(hT:TV w t s es)(hn:es.length≤1000000000)
  (hMp: ¬M pb) (hMt: ∀a,t=some a→ ¬M a.block) (hMs:es≠[]→ ∀a,s.1=some a→ ¬M a.block):
  ItS prog (.func (.func F.Dq) #[] #[.pointer (some ⟨pb,0,none⟩)]) RS3 (λ_=>True) (es.map dX) M w:=Dq.Ad4 (λ_ _=>trivial) hp hT hn hMp hMt hMs
def mxH(m:Int)(e:E3):Int:=if e.2.2>m then e.2.2 else m
def Ab3(es:List E3):Int:=es.foldl mxH 0
theorem Ahj(es:List E3)(e:E3):Ab3 (es++[e])=mxH (Ab3 es) e:=by simp[Ab3]
theorem Ji.cl{w:World}{t:Option Addr}{s:Sl}{es:List E3}(hT:TV w t s es)(hn:es.length≤1000000000){k:TR [(false,[KI])]→WP}
  (hk: ∀w',Ah w w'→k ((Ab3 es,()),()) w'):Ad prog F.Ji [.pointer t] w false [(false,[KI])] k:=by
 refine Ji.ok ?_
 refine Ae λp1 w2 e1 k1 u1=>k1.E5 _ rfl rfl λw3 k3 u3=>?_
 have g3:Ah w w3:=Ah.fresh (Ah.refl w) u1 u3 e1
 refine Fp.cl λpb w5 e5 u5 k5=>?_
 have g5:=g3.trans u5
 have s3:=k3.lt
 have k3:=k3.Ai u5
 have l5:=k5.lt
 have hne: ∀b,b<w.heap.size→b≠p1:=λb h=>by omega
 refine⟨λ_=>True,es.map dX,λz=>z=p1,λpre W=>Ah w W∧Ar W p1 [iV (Ab3 (pre.map uX))],λ_ _ _=>False,
  Dq.its k5 (hT.Ai g5) hn (by omega) (λa ha=>hne _ (hT.lt.1 a ha)) (λh a ha=>hne _ (hT.lt.2 h a ha)),λW tu=>⟨g5.turn tu g5.size,k3.turn tu⟩,?_,?_,λs hs=>by cases hs⟩
 ·intro x W _ hs
  refine Ae λp14 w15 e15 k15 u15=>k15.E5 _ rfl rfl λw16 k16 u16=>iC (Ah.fresh (Ah.refl W) u15 u16 e15) ?_
  intro W2 tu pre hi hl
  have hb:=hi.2
  have k2:=k16.turn tu
  refine hb.i0 rfl (k2.i1 2 rfl (hb.s0 (by simp) λw19 k19 u19=>⟨Rnd.Auy u19 (by have:=u5.size;omega) rfl,λW4 t4=>⟨?_,?_⟩⟩))
  ·exact(Ap.trans hi.1 u19 λi h e=>absurd e (hne i h)).turn t4 g5.size
  ·rw[List.map_append,List.map_cons,List.map_nil,Ahj]
   exact k19.turn t4
 ·rintro D W hD ⟨hg,hb⟩ hm
  rw[Aae] at hb
  refine hb.i0 rfl (jZ hm λw' ht=>hk w' (hg.turn (ht w.heap.size ?_) (Nat.le_refl _)))
  exact Nat.le_trans g5.size hD
theorem oI.cl{w:World}{gv:Value}{es:List E3}(hn:es.length≤1000000000)(hits: ∀M W,Ah w W→(∀z,M z→w.heap.size≤z)→ItS prog gv RS3 (λ_=>True) (es.map dX) M W)
  {k:TR [(false,[.sl])]→WP} (hk: ∀(s:Sl) w',Ah w w'→Dp w' w.heap.size T.Bq 3 s es.length (flat3 es)→k ((s,()),()) w'):
  Ad prog F.Dl [.slice none 0 0,gv] w false [(false,[.sl])] k:=by
 refine Dl.ok (s:=(none,0,0)) ?_
 refine Ae λp1 w2 e1 k1 u1=>?_
 have l1:=k1.lt
 have hne: ∀b,b<w.heap.size→b≠p1:=λb h=>by omega
 refine⟨λ_=>True,es.map dX,λz=>z=p1,λpre W=>Ah w W∧ ∃s:Sl,Ar W p1 [.slice s.1 s.2.1 s.2.2]∧Dp W w2.heap.size T.Bq 3 s pre.length (flat3 (pre.map uX)),λ_ _ _=>False,
  hits _ _ u1 (λz hz=>by omega),λW tu=>⟨u1.turn tu u1.size,(none,0,0),k1.turn tu,Dp.nil _ _ _ _⟩,?_,?_,λs hs=>by cases hs⟩
 ·intro x W _ hs
  refine Ae λp14 w15 e15 k15 u15=>k15.E5 _ rfl rfl λw16 k16 u16=>iC (Ah.fresh (Ah.refl W) u15 u16 e15) ?_
  rintro W2 tu pre ⟨hg,s,hb,ho⟩ hl
  rw[List.length_map] at hl
  have k2:=k16.turn tu
  refine hb.sl0 (k2.Xd (Ae λp16 w17 e17 k17 u17=>?_))
  have hg17:=hg.trans u17
  refine S9 (x:=(some ⟨p16,0,none⟩,1,1)) (e:=T.Bq) (size:=3) (news:=flat3 [uX x]) (by kernel_rfl) (by kernel_rfl) (by decide) (ho.Ai u17) ?_ ?_ ?_ ?_ ?_
  ·exact⟨rfl,λ_=>⟨_,rfl,k17.news⟩⟩
  ·simp[flat3,Value.oneCell']
  ·show pre.length+1≤_;omega
  ·exact Nat.le_trans (Nat.le_trans hs (Nat.le_trans u15.size (Nat.le_trans u16.size tu.size))) u17.size
  ·intro s' w19 ho' u19 hbl
   have own1: ∀a,s.1=some a→w2.heap.size≤a.block:=λa ha=>(ho.blk ha).1
   have hb19:Ar w19 p1 [.slice s.1 s.2.1 s.2.2]:=(hb.Ai u17).upd u19 (by rintro⟨a,ha,e⟩;have:=own1 a ha;omega)
   refine hb19.E5 _ rfl rfl λw20 k20 u20=>?_
   have U:Ap (λz=>z=p1∨ ∃a,s.1=some a∧a.block=z) W2 w20:=
    ((Ap.Ed u17).trans u19 λ_ _ h=>.inr h).trans u20 λ_ _ h=>.inl h
   refine⟨Rnd.of U ?_,λW4 t4=>⟨?_,s',k20.turn t4,?_⟩⟩
   ·rintro z (rfl|⟨a,ha,rfl⟩) hz
    ·exact⟨λ_=>rfl,λh=>by omega⟩
    ·exact⟨λh=>by have:=own1 a ha;omega,λ_=>ho.cells ha⟩
   ·refine(Ap.trans hg U λi hi h=>?_).turn t4 u1.size
    rcases h with h|⟨a,ha,h⟩
    ·omega
    ·have:=own1 a ha;have:=u1.size;omega
   ·rw[List.map_append,kK,List.length_append]
    refine(ho'.upd u20 λa ha e=>?_).turn t4
    rcases hbl a ha with ⟨a0,h0,e0⟩|h
    ·have:=own1 a0 h0;omega
    ·have:=hb.lt;have:=u17.size;omega
 ·rintro D W hD ⟨hg,s,hb,ho⟩ hm
  rw[Aae,List.length_map] at ho
  refine hb.sl0 (jZ hm λw' ht=>hk s w' (hg.turn (ht w.heap.size ?_) (Nat.le_refl _)) ?_)
  ·exact Nat.le_trans u1.size hD
  ·exact(ho.turn (ht _ hD)).gJ λa ha=>Nat.le_trans u1.size (ho.blk ha).1
theorem rC.cl{w:World}{gv:Value}{es:List E3}(hn:es.length≤1000000000)(hits: ∀M W,Ah w W→(∀z,M z→w.heap.size≤z)→ItS prog gv RS3 (λ_=>True) (es.map dX) M W)
  {k:TR [(false,[.sl])]→WP} (hk: ∀(s:Sl) w',Ah w w'→Dp w' w.heap.size T.Bq 3 s es.length (flat3 es)→k ((s,()),()) w'):
  Ad prog F.Gs [gv] w false [(false,[.sl])] k:=by
 refine Gs.ok ?_
 exact oI.cl hn hits hk
theorem Jl.cl{w:World}{t:Option Addr}{s:Sl}{es:List E3}(hT:TV w t s es)(hn:es.length≤1000000000)
  {k:TR [(false,[.sl])]→WP} (hk: ∀(s:Sl) w',Ah w w'→Dp w' w.heap.size T.Bq 3 s es.length (flat3 es)→k ((s,()),()) w'):
  Ad prog F.Jl [.pointer t] w false [(false,[.sl])] k:=by
 refine Jl.ok ?_
 refine Fp.cl λpb w5 e5 u5 k5=>?_
 refine rC.cl hn (λM W g hM=>?_) λs' w' g ho=>hk s' w' (u5.trans g) (ho.gJ λa ha=>Nat.le_trans u5.size (ho.blk ha).1)
 have hlt: ∀b,b<w5.heap.size→ ¬M b:=λb hb h=>by have:=hM b h;omega
 have hT5:=hT.Ai u5
 exact Dq.its (k5.Ai g) (hT5.Ai g) hn (hlt _ k5.lt) (λa ha=>hlt _ (hT5.lt.1 a ha)) λhne a ha=>hlt _ (hT5.lt.2 hne a ha)
def gB(es:List E3)(e:E3):Bool:=match es.getLast? with|some l=>decide (e.1≤l.1)|none=>false
def iP(es:List E3)(e:E3):List E3:=if J8 e=false∨gB es e=true then es else(es++[e]).drop (es.length+1-8)
def addN(es:List E3)(e:E3):Int:=if J8 e=false then 1 else if gB es e=true then 12 else 0
theorem Ac1{es:List E3}{e:E3}(h:es.length≤8):(iP es e).length≤8:=by
 unfold iP;split
 ·exact h
 ·rw[List.length_drop,List.length_append,List.length_singleton];omega
def jU(w:World)(base bt:Nat)(pre post:List Value)(s:Sl)(es:List E3):Prop:=Ar w bt (pre++ .slice s.1 s.2.1 s.2.2::post)∧Dp w base T.Bq 3 s es.length (flat3 es)∧es.length≤8∧ ∀a,s.1=some a→a.block≠bt
theorem jU.tv{w:World}{base bt:Nat}{pre post:List Value}{s:Sl}{es:List E3}(h:jU w base bt pre post s es):TV w (some ⟨bt,pre.length,none⟩) s es:=.inr ⟨_,rfl,Ar.Aa3 pre post h.1,h.2.1.vN⟩
theorem jU.upd{S:NP}{w w':World}{base bt:Nat}{pre post:List Value}{s:Sl}{es:List E3}(h:jU w base bt pre post s es)(u:Ap S w w')(hb: ¬S bt)(hs: ∀a,s.1=some a→ ¬S a.block):jU w' base bt pre post s es:=
 ⟨h.1.upd u hb,h.2.1.upd u hs,h.2.2⟩
theorem jU.Ai{w w':World}{base bt:Nat}{pre post:List Value}{s:Sl}{es:List E3}(h:jU w base bt pre post s es)(u:Ah w w'):jU w' base bt pre post s es:=h.upd u (λx=>x) λ_ _ x=>x
theorem Ar.stG{b:Nat}{k:WP}(pre post:List Value){c v:Value}{w:World}(h:Ar w b (pre++c::post))(hv:okc v=true)
  (hk: ∀w',Ar w' b (pre++v::post)→Ap (λx=>x=b) w w'→k w'):Au [v] ⟨b,pre.length,none⟩ 0 w k:=by
 refine h.st [v] (by rw[List.length_append,List.length_cons];simp) (by simp[hv]) λw' k' u=>hk w' ?_ u
 have e:splice (pre++c::post) (pre.length+0) [v]=pre++v::post:=by
  simp[splice]
 rwa [e] at k'
theorem Ar.Auz{S:NP}{w w':World}{b:Nat}{c:Value}(pre post:List Value)(h:Ar w b (pre++c::post))(u:Ap S w w')(hS: ¬S b):w'.cell? ⟨b,pre.length,none⟩=some ((w.cell? ⟨b,pre.length,none⟩).getD undef):=by
 have:=h.hold u hS pre.length (by rw[List.length_append,List.length_cons];omega)
 rwa [Lr,Nat.zero_add] at this
theorem slices_Clone.cl{w:World}{x:Sl}{es:List E3}(hr:Nu w x es)(hn:es.length≤1000)(hx:x.1≠none){k:TR [(false,[.sl])]→WP}
  (hk: ∀s' w',Ah w w'→Dp w' w.heap.size T.Bq 3 s' es.length (flat3 es)→k ((s',()),()) w'):
  Ad prog F.Dy [.slice x.1 x.2.1 x.2.2] w false [(false,[.sl])] k:=by
 refine Dy.ok ?_
 refine Le (by cases h:x.1;exact absurd h hx;rfl) ?_
 refine Afj 3 0 rfl (by omega) λp1 w2 e1 own0 u1=>?_
 refine S9 (s:=(some ⟨p1,0,none⟩,0,0)) (x:=x) (e:=T.Bq) (size:=3) (news:=flat3 es) (by kernel_rfl) (by kernel_rfl) (by decide) own0 (hr.Ai u1) (wU es) ?_ ?_ ?_
 ·rw[hr.len];omega
 ·exact Nat.le_of_lt (own0.blk rfl).2.1
 ·intro s' w4 ho u4 _
  rw[hr.len,Nat.zero_add,List.nil_append] at ho
  refine hk s' w4 (Ap.trans u1 u4 λi hi h=>?_) (ho.gJ λa ha=>by have:=(ho.blk ha).1;omega)
  obtain⟨a,ha,h⟩:=h
  cases ha
  have:p1=i:=h
  omega
theorem oQ{es:List E3}{e l:E3}(h:es.getLast? =some l):gB es e=decide (e.1≤l.1):=by unfold gB;rw[h]
theorem Hu.clG{w:World}{base bt:Nat}(pre post:List Value){s:Sl}{es:List E3}{e:E3}(hT:jU w base bt pre post s es)(hbase:base≤w.heap.size){k:TR [(false,[KI])]→WP}
  (hk: ∀s' w',jU w' base bt pre post s' (iP es e)→Ap (λz=>z=bt∨ ∃a,s.1=some a∧a.block=z) w w'→
   (∀a,s'.1=some a→(∃a0,s.1=some a0∧a.block=a0.block)∨w.heap.size≤a.block)→k ((addN es e,()),()) w'):
  Ad prog F.Hu [.pointer (some ⟨bt,pre.length,none⟩),.agg #[iV e.1,iV e.2.1,iV e.2.2]] w false [(false,[KI])] k:=by
 refine Hu.ok ?_
 have same: ∀w',Ah w w'→iP es e=es→k ((addN es e,()),()) w':=λw' g h=>hk s w' (by rw[h];exact hT.Ai g) (Ap.Ed g) λa ha=>.inl ⟨a,ha,rfl⟩
 refine Ae λp1 w2 e1 k1 u1=>?_
 have l1:=k1.lt
 refine Bh.by (λ_ w'=>Ah w w'∧Ar w' p1 [iV e.1,iV e.2.1,iV e.2.2]∧J8 e=true∧gB es e=false) ?_ ?_
 ·have hb: ∀{w10:World},Ah w w10→Ar w10 p1 [iV e.1,iV e.2.1,iV e.2.2]→ ∀{A:WP},
    (J8 e=true→ ∀w',Ah w w'→Ah w10 w'→Ar w' p1 [iV e.1,iV e.2.1,iV e.2.2]→A w')→
    Bc [KI,KI,KI] ⟨p1,0,none⟩ 0 w10 λx11=>Ad prog F.Cj [.agg #[iV x11.1,iV x11.2.1,iV x11.2.2.1]] w10 false [(false,[.b])] λr12 w13=>
     Aj (!r12.1.1) (k ((1,()),()) w13) (A w13):=by
   intro w10 g k1' A hA
   refine k1'.Xd (Cj.cl λw13 u13=>En (λc=>?_) λc=>hA c w13 (g.trans u13) u13 (k1'.Ai u13))
   have c:J8 e=false:=c
   have:=same w13 (g.trans u13) (by unfold iP;rw[if_pos (.inl c)])
   unfold addN at this
   rw[if_pos c] at this;exact this
  refine Jh.cl (hT.Ai u1).tv (by have:=hT.2.2.1;omega) (λhnil w7 u7=>?_) λl hl w7 u7=>?_
  ·refine Ae λp8 w9 e8 k8 u8=>k8.E5 _ rfl rfl λw10 k10 u10=>Le rfl ?_
   have g10:Ah w2 w10:=Ah.fresh u7 u8 u10 e8
   refine hb (u1.trans g10) (k1.Ai g10) (A:=λw13=>Aj false _ _) λhg w' g' _ k'=>⟨g',k',hg,?_⟩
   unfold gB;rw[hnil];rfl
  ·refine Ae λp8 w9 e8 k8 u8=>k8.E5 _ rfl rfl λw10 k10 u10=>Le rfl ?_
   have g10:Ah w2 w10:=Ah.fresh u7 u8 u10 e8
   refine hb (u1.trans g10) (k1.Ai g10) (A:=λw13=>Aj true _ _) λhg w' g' u' k'=>?_
   refine k'.i0 rfl ((k10.Ai u').i0 rfl (Cf (λc=>?_) λc=>⟨g',k',hg,?_⟩))
   ·have c:e.1≤l.1:=c
    have ho:gB es e=true:=by rw[oQ hl,decide_eq_true c]
    have:=same w' g' (by unfold iP;rw[if_pos (.inr ho)])
    unfold addN at this
    rw[if_neg (by rw[hg];simp),if_pos ho] at this;exact this
   ·have c: ¬e.1≤l.1:=c
    rw[oQ hl,decide_eq_false c]
 ·rintro _ w5 ⟨g5,k5,hg,ho⟩ _
  have hn:addN es e=0:=by unfold addN;rw[if_neg (by rw[hg];simp),if_neg (by rw[ho];simp)]
  have hL:iP es e=(es++[e]).drop (es.length+1-8):=by unfold iP;rw[if_neg (by rw[hg,ho];simp)]
  obtain⟨hb,hO,h8,hd⟩:=hT.Ai (Ap.drew g5)
  rw[Aq,Ac]
  refine(Ar.Aa3 pre post hb).sl0 ?_
  refine(k5.drew).Xd (Ae λp20 w21 e20 k20 u20=>⟨?_,?_⟩)
  ·exact⟨k5.drew.hold u20 (λx=>x) 0 (by simp),k5.drew.hold u20 (λx=>x) 1 (by simp),k5.drew.hold u20 (λx=>x) 2 (by simp),Ar.Auz pre post hb u20 (λx=>x),trivial⟩
  ·have own1: ∀a,s.1=some a→a.block<p1:=λa ha=>by have:=(hT.2.1.blk ha).2.1;omega
   have lb:bt<p1:=by have:=hT.1.lt;omega
   have l5:=k5.lt
   refine S9 (x:=(some ⟨p20,0,none⟩,1,1)) (e:=T.Bq) (size:=3) (news:=flat3 [e]) (by kernel_rfl) (by kernel_rfl) (by decide) (hO.Ai u20) ⟨rfl,λ_=>⟨_,rfl,k20.news⟩⟩ (wU _) ?_ ?_ ?_
   ·show es.length+1≤_;omega
   ·exact Nat.le_trans hbase (Nat.le_trans g5.size u20.size)
   intro s' w23 ho' u23 hbl
   have k23:=(k5.drew.Ai u20)
   have np1: ¬ ∃a,s.1=some a∧a.block=p1:=by rintro⟨a,ha,h⟩;have:=own1 a ha;omega
   have nbt: ¬ ∃a,s.1=some a∧a.block=bt:=by rintro⟨a,ha,h⟩;exact hd a ha h
   have u16:Ap (λz=> ∃a,s.1=some a∧a.block=z) w5.drew w23:=(Ap.Ed u20).trans u23 λ_ _ h=>h
   refine⟨⟨k5.drew.hold u16 np1 0 (by simp),k5.drew.hold u16 np1 1 (by simp),k5.drew.hold u16 np1 2 (by simp),trivial⟩,?_⟩
   rw[Ac]
   refine Ar.stG pre post (hb.upd u16 nbt) (v:=.slice s'.1 s'.2.1 s'.2.2) rfl λw25 k25 u25=>⟨trivial,?_⟩
   rw[Ac]
   have hbl': ∀a,s'.1=some a→(∃a0,s.1=some a0∧a.block=a0.block)∨w.heap.size≤a.block:=λa ha=>(hbl a ha).imp id λh=>by have:=(Ap.drew g5).size;have:=u20.size;omega
   have nbt': ∀a,s'.1=some a→a.block≠bt:=λa ha h=>by
    rcases hbl' a ha with ⟨a0,h0,h1⟩|h1
    ·exact hd a0 h0 (by omega)
    ·have:=hT.1.lt;omega
   have hO':Dp w25 base T.Bq 3 s' (es++[e]).length (flat3 (es++[e])):=by
    rw[kK,List.length_append]
    exact ho'.upd u25 λa ha h=>nbt' a ha h
   have U:Ap (λz=>z=bt∨ ∃a,s.1=some a∧a.block=z) w w25:=
    ((Ap.Ed (Ap.drew g5)).trans u16 λ_ _ h=>.inr h).trans u25 λ_ _ h=>.inl h
   refine(Ar.Aa3 pre post k25).sl0 ?_
   have hlen:s'.2.1=es.length+1:=by rw[hO'.len,List.length_append];rfl
   refine Cf (λc=>?_) λc=>?_
   ·have c:(s'.2.1:Int)>8:=c
    rw[Ac]
    refine(Ar.Aa3 pre post k25).sl0 ?_
    rw[nG ⟨by decide,by omega,by have:=hO'.cap;omega⟩]
    have hne:s'.1≠none:=by
     obtain⟨a,ha⟩:=hO'.vN.addr (i:=0) (e:=(es++[e])[0]'(by rw[List.length_append];show 0<_+1;omega)) (List.getElem?_eq_getElem _)
     rw[ha];simp
    refine slices_Clone.cl (x:=(slA s'.1 s'.2.2 1 3,s'.2.1-1,s'.2.2-1)) (hO'.vN.from hO'.cap (l:=1) (by rw[List.length_append];show 1≤_+1;omega)) (by rw[List.length_drop,List.length_append];show _+1-1≤_;omega) ?_ λs2 w31 u31 ho2=>?_
    ·show slA s'.1 s'.2.2 1 3≠none
     unfold slA
     split
     ·exact hne
     ·cases h:s'.1
      ·exact absurd h hne
      ·simp
    ·rw[Ac]
     have n2: ∀a,s2.1=some a→w.heap.size≤a.block:=λa ha=>by have:=(ho2.blk ha).1;have:=U.size;omega
     refine Ar.stG pre post (k25.Ai u31) (v:=.slice s2.1 s2.2.1 s2.2.2) rfl λw33 k33 u33=>?_
     rw[←hn]
     have h7:(es++[e]).drop 1=iP es e:=by rw[hL,show es.length+1-8=1 by omega]
     rw[h7] at ho2
     refine hk s2 w33 ⟨k33,(ho2.upd u33 λa ha h=>?_).gJ λa ha=>Nat.le_trans hbase (n2 a ha),Ac1 hT.2.2.1,λa ha h=>?_⟩ ((U.Ai u31).trans u33 λ_ _ h=>.inl h) λa ha=>.inr (n2 a ha)
     ·have:=n2 a ha;have:=hT.1.lt;omega
     ·have:=n2 a ha;have:=hT.1.lt;omega
   ·have c: ¬(s'.2.1:Int)>8:=c
    rw[←hn]
    have h7:es++[e]=iP es e:=by rw[hL,show es.length+1-8=0 by omega];rfl
    rw[h7] at hO'
    exact hk s' w25 ⟨k25,hO',Ac1 hT.2.2.1,nbt'⟩ U hbl'
theorem Fa.clG{w:World}{base bt:Nat}(pre post:List Value){s:Sl}{es:List E3}(hT:jU w base bt pre post s es){k:TR []→WP}(hk: ∀w',jU w' base bt pre post (none,0,0) []→Ap (λz=>z=bt) w w'→k () w'):
  Ad prog F.Fa [.pointer (some ⟨bt,pre.length,none⟩)] w true [] k:=by
 refine Fa.ok ?_
 refine We rfl ?_
 rw[Ac]
 exact Ar.stG pre post hT.1 rfl λw2 k2 u2=>hk w2 ⟨k2,Dp.nil _ _ _ _,by simp,λa h=>by cases h⟩ u2
def asc(es:List E3):Prop:= ∀i a b,es[i]? =some a→es[i+1]? =some b→a.1<b.1
end Go.Proofs.YtppeepkmnijdpaaGreatDoor
namespace Go.Proofs.YtppeepkmnijdpaaGreatDoor
open Go.Eng Go
set_option linter.unusedSimpArgs false
set_option linter.unusedVariables false
set_option maxRecDepth 100000
set_option maxHeartbeats 8000000
theorem Aev{P D X:Int}(hD:0<D)(h0: -(X*D)≤P)(h1:P≤X*D): -X≤P/D∧P/D≤X:=by
 refine⟨Int.le_ediv_of_mul_le hD (by rw[Int.neg_mul];exact h0),?_⟩
 have h2:P<(X+1)*D:=by rw[Int.add_mul,Int.one_mul];omega
 have:=Int.ediv_lt_of_lt_mul hD h2
 omega
abbrev M5:=Int×Int×Int×Int×Int
def sL(es:List E3):Int:=es.foldl (λs e=>s+e.1) 0
def sO(es:List E3):Int:=es.foldl (λs e=>s+e.2.1) 0
theorem zX(es:List E3)(e:E3):sL (es++[e])=sL es+e.1:=by simp[sL]
theorem zZ(es:List E3)(e:E3):sO (es++[e])=sO es+e.2.1:=by simp[sO]
def Aeu(drift:Int)(es:List E3):M5:=(sL es/(es.length:Int),sO es/(es.length:Int),(Yp drift es).1,(Yp drift es).2,Ab3 es)
def gn(m:M5)(t:Int):Int:=m.2.2.1*(t-m.1)/m.2.2.2.1
def raw(m:M5)(t:Int):Int:=t+m.2.1+gn m t
def okG(m:M5)(t:Int):Bool:=decide (0≤t)&&decide (t≤1125899906842624)&&decide (0≤raw m t)&&decide (raw m t≤1125899906842624)
def gV(m:M5)(t:Int):Int:=if okG m t=true then raw m t else 0
structure MB(drift:Int)(m:M5):Prop where
 l0:0≤m.1
 l1:m.1≤1125899906842624
 o0: -1125899906842624≤m.2.1
 o1:m.2.1≤1125899906842624
 sv:SV drift (m.2.2.1,m.2.2.2.1)
theorem Aja(es:List E3)(h: ∀e∈es,J8 e=true):0≤sL es∧sL es≤es.length*1125899906842624∧ -(es.length*1125899906842624)≤sO es∧sO es≤es.length*1125899906842624:=by
 have key: ∀(n:Nat) (es:List E3),es.length=n→(∀e∈es,J8 e=true)→0≤sL es∧sL es≤es.length*1125899906842624∧ -(es.length*1125899906842624)≤sO es∧sO es≤es.length*1125899906842624:=by
  intro n
  induction n with
  |zero=>
   intro es hl _
   have:es=[]:=List.eq_nil_of_length_eq_zero hl
   subst this
   simp[sL,sO]
  |succ n ih=>
   intro es hl h
   have hne:es≠[]:=by intro e;subst e;cases hl
   obtain⟨l,e,rfl⟩: ∃l e,es=l++[e]:=⟨es.dropLast,es.getLast hne,(List.dropLast_concat_getLast hne).symm⟩
   have:=ih l (by simpa using hl) λx hx=>h x (by simp[hx])
   have ge:=nS.1 (h e (by simp))
   rw[zX,zZ,List.length_append,List.length_singleton]
   omega
 exact key _ es rfl h
theorem Aoz{drift:Int}{es:List E3}(hne:es≠[])(h: ∀e∈es,J8 e=true):MB drift (Aeu drift es):=by
 have hn:(0:Int)<es.length:=by have:=List.length_pos_iff.2 hne;omega
 obtain⟨a,b,c,d⟩:=Aja es h
 have h1:=Aev (P:=sL es) (D:=es.length) (X:=1125899906842624) hn (by omega) (by omega)
 have h2:=Aev (P:=sO es) (D:=es.length) (X:=1125899906842624) hn (by omega) (by omega)
 exact⟨Int.ediv_nonneg a (by omega),h1.2,h2.1,h2.2,Aha drift es⟩
theorem SV.small{drift:Int}{v:Int×Int}(h:SV drift v):99*v.1≤2*v.2∧ -(99*v.1)≤2*v.2:=by
 have hd:=Ab5 drift
 obtain⟨d0,d1,n0,n1,up,dn⟩:=h
 have:dr drift=0∨dr drift=1∨dr drift=2∨dr drift=3∨dr drift=4∨dr drift=5∨dr drift=6∨dr drift=7∨dr drift=8∨dr drift=9∨dr drift=10:=by omega
 rcases this with h|h|h|h|h|h|h|h|h|h|h<;>rw[h] at up dn<;>omega
theorem Ap5{drift x:Int}{v:Int×Int}(h:SV drift v){X:Int}(h0: -X≤x)(h1:x≤X): -X≤v.1*x/v.2∧v.1*x/v.2≤X:=by
 have hs:=h.small
 have hD:=h.d0
 have hX:0≤X:=by omega
 have b1:v.1≤v.2:=by omega
 have b2: -v.2≤v.1:=by omega
 refine Aev (by omega) ?_ ?_
 ·
  have e:v.1*x+X*v.2=(v.1+v.2)*(x+X)+(v.2-v.1)*(X-x)-(v.1*x+X*v.2):=by grind
  have p1:=Int.mul_nonneg (show 0≤v.1+v.2 by omega) (show 0≤x+X by omega)
  have p2:=Int.mul_nonneg (show 0≤v.2-v.1 by omega) (show 0≤X-x by omega)
  omega
 ·have e:X*v.2-v.1*x=(v.2-v.1)*(X+x)+(v.2+v.1)*(X-x)-(X*v.2-v.1*x):=by grind
  have p1:=Int.mul_nonneg (show 0≤v.2-v.1 by omega) (show 0≤X+x by omega)
  have p2:=Int.mul_nonneg (show 0≤v.2+v.1 by omega) (show 0≤X-x by omega)
  omega
theorem Aqs{drift:Int}{m:M5}(h:MB drift m){t:Int}(h0:0≤t)(h1:t≤1125899906842624): -1125899906842624≤gn m t∧gn m t≤1125899906842624:=by
 have:=h.l0
 have:=h.l1
 exact Ap5 (X:=1125899906842624) h.sv (by show _≤t-m.1;omega) (by show t-m.1≤_;omega)
end Go.Proofs.YtppeepkmnijdpaaGreatDoor
namespace Go.Proofs.YtppeepkmnijdpaaGreatDoor
open Go.Eng Go Tryz
open Go.IntKind (wrap)
set_option linter.unusedSimpArgs false
set_option linter.unusedVariables false
set_option maxRecDepth 100000
set_option maxHeartbeats 8000000
abbrev RM:List (Bool×List CK):=[(true,[KI,KI,KI,KI,KI]),(false,[.b])]
def m5(m:M5):List Value:=[iV m.1,iV m.2.1,iV m.2.2.1,iV m.2.2.2.1,iV m.2.2.2.2]
def t5(m:M5):Ky [KI,KI,KI,KI,KI]:=(m.1,m.2.1,m.2.2.1,m.2.2.2.1,m.2.2.2.2,())
theorem Aqm{es:List E3}(hn:es.length≤8)(h: ∀e∈es,J8 e=true):I64 (sL es)∧I64 (sO es):=by
 have:=Aja es h
 unfold I64;omega
theorem Va.cl{drift:Int}{w:World}{t:Option Addr}{s:Sl}{es:List E3}(hT:TV w t s es)(hn:es.length≤8)(hg: ∀e∈es,J8 e=true){k:TR RM→WP}
  (h0:es=[]→ ∀w',Ah w w'→k (t5 (0,0,0,0,0),(false,()),()) w') (h1:es≠[]→ ∀w',Ah w w'→k (t5 (Aeu drift es),(true,()),()) w'):
  Ad prog F.Va [iV drift,.pointer t] w true RM k:=by
 refine Va.ok ?_
 refine Ae λp1 w2 e1 k1 u1=>C9.cl (hT.Ai u1) (Vh (λc=>?_) λc=>?_)
 ·have c:(es.length:Int)=0:=c
  exact k1.E5 _ rfl rfl λw5 k5 u5=>k5.ld5 (h0 (List.eq_nil_of_length_eq_zero (by omega)) w5 (Ah.fresh (Ah.refl w) u1 u5 e1))
 have c:(es.length:Int)≠0:=c
 have hne:es≠[]:=by intro e;subst e;exact c rfl
 refine Ae λp7 w8 e7 k7 u7=>Ae λp9 w10 e9 k9 u9=>?_
 have l1:=k1.lt
 have l7:=k7.lt
 have l9:=k9.lt
 have ord:w.heap.size≤p1∧p1<p7∧p7<p9:=by omega
 refine(k7.Ai u9).E5 _ rfl rfl λw11 k11 u11=>?_
 refine(k9.upd u11 (by omega)).E5 _ rfl rfl λw12 k12 u12=>?_
 have g10:Ah w w10:=(u1.trans u7).trans u9
 have g12:Ah w w12:=Ap.trans (Ap.trans g10 u11 λi hi h=>by omega) u12 λi hi h=>by omega
 have q7:=k11.upd u12 (by omega)
 have q1:=(((k1.Ai u7).Ai u9).upd u11 (by omega)).upd u12 (by omega)
 refine Fp.cl λpb w14 e14 u14 k14=>?_
 have g14:=g12.trans u14
 have s14:=u14.size
 have s12:=k12.lt
 have hout: ∀b,b<w.heap.size→ ¬(b=p7∨b=p9):=λb h=>by omega
 refine⟨λx=>J8 (uX x)=true,es.map dX,λz=>z=p7∨z=p9,
  λpre W=>Ah w W∧Ar W p1 [iV 0,iV 0,iV 0,iV 0,iV 0]∧Ar W p7 [iV (sL (pre.map uX))]∧Ar W p9 [iV (sO (pre.map uX))]∧ ∀e∈pre.map uX,J8 e=true,λ_ _ _=>False,
  Dq.Ad4 hg k14 (hT.Ai g14) (by omega) (by omega) (λa ha=>hout _ (hT.lt.1 a ha)) (λh a ha=>hout _ (hT.lt.2 h a ha)),
  λW tu=>⟨g14.turn tu g14.size,(q1.Ai u14).turn tu,(q7.Ai u14).turn tu,(k12.Ai u14).turn tu,λe h=>by cases h⟩,?_,?_,λs hs=>by cases hs⟩
 ·intro x W hx hs
  refine Ae λp23 w24 e23 k23 u23=>k23.E5 _ rfl rfl λw25 k25 u25=>iC (Ah.fresh (Ah.refl W) u23 u25 e23) ?_
  rintro W2 tu pre ⟨hg2,h1,h7,h9,hpre⟩ hlen
  rw[List.length_map] at hlen
  have k2:=k25.turn tu
  have l2:=k2.lt
  have bnd:p9<p23:=by omega
  have hall: ∀e∈pre.map uX++[uX x],J8 e=true:=λe h=>by
   rcases List.mem_append.1 h with h|h
   ·exact hpre e h
   ·rw[List.mem_singleton.1 h];exact hx
  have hI:=Aqm (es:=pre.map uX++[uX x]) (by rw[List.length_append,List.length_map,List.length_singleton];omega) hall
  rw[zX,zZ] at hI
  refine h7.i0 rfl (k2.i0 rfl (h7.s0 (by simp) λw28 k28 u28=>?_))
  refine(h9.upd u28 (by omega)).i0 rfl ((k2.upd u28 (by omega)).i1 1 rfl ((h9.upd u28 (by omega)).s0 (by simp) λw31 k31 u31=>?_))
  have U:Ap (λz=>z=p7∨z=p9) W2 w31:=(u28.mono λ_ h=>.inl h).trans u31 λ_ _ h=>.inr h
  have em:(pre++[x]).map uX=pre.map uX++[uX x]:=by simp
  have e7':wrap .i64 (sL (pre.map uX)+x.1.1)=sL (pre.map uX)+(uX x).1:=Af hI.1
  have e9':wrap .i64 (sO (pre.map uX)+x.1.2.1)=sO (pre.map uX)+(uX x).2.1:=Af hI.2
  rw[e7'] at k28
  rw[e9'] at k31
  refine⟨Rnd.of U λz hz _=>⟨λ_=>hz,λh=>by rcases hz with rfl|rfl<;>omega⟩,λW4 t4=>⟨(Ap.trans hg2 U λi hi h=>by omega).turn t4 g14.size,(h1.upd U (by omega)).turn t4,?_,?_,?_⟩⟩
  ·rw[em,zX];exact(k28.upd u31 (by omega)).turn t4
  ·rw[em,zZ];exact k31.turn t4
  ·rw[em];exact hall
 ·rintro D W hD ⟨hgW,h1',h7,h9,_⟩ hm
  rw[Aae] at h7 h9
  have hI:=Aqm hn hg
  have hnI:I64 (es.length:Int):=by unfold I64;omega
  have fl: ∀x:Int,fD x (es.length:Int)=x/(es.length:Int):=λx=>by unfold fD;rw[if_neg (by omega)]
  have hB:w14.heap.size≤W.heap.size:=by have:=hm.lt;have:=h9.lt;omega
  refine h7.i0 rfl (Jm.cl hI.1 hnI λw34 u34=>(h7.Ai u34).s0 (by simp) λw35 k35 u35=>?_)
  refine((h9.Ai u34).upd u35 (by omega)).i0 rfl (Jm.cl hI.2 hnI λw38 u38=>(((h9.Ai u34).upd u35 (by omega)).Ai u38).s0 (by simp) λw39 k39 u39=>?_)
  rw[Aq]
  have U:Ap (λz=>z=p7∨z=p9) W w39.drew:=Ap.drew ((((Ap.Ed u34).trans u35 λ_ _ h=>.inl h).trans (Ap.Ed u38:Ap (λz=>z=p7∨z=p9) _ _) λ_ _ h=>h).trans u39 λ_ _ h=>.inr h)
  have f7:=((k35.Ai u38).upd u39 (by omega)).drew
  have f9:=k39.drew
  have f1:=h1'.upd U (by omega)
  have gU:Ah w w39.drew:=Ap.trans hgW U λi hi h=>by omega
  have hT2:=hT.Ai gU
  have hm2:=hm.upd U (by omega)
  generalize w39.drew=w40 at f7 f9 f1 gU hT2 hm2
  refine f7.i0 rfl (f9.i0 rfl (Jl.cl hT2 (by omega) λl w44 u44 ho=>⟨⟨f9.hold u44 (λx=>x) 0 (by simp),f7.hold u44 (λx=>x) 0 (by simp),trivial⟩,?_⟩))
  refine Y4.cl ho.vN λw46 u46=>⟨⟨f9.hold (u44.trans u46) (λx=>x) 0 (by simp),f7.hold (u44.trans u46) (λx=>x) 0 (by simp),trivial⟩,?_⟩
  have u6:=u44.trans u46
  refine Ji.cl (hT2.Ai u6) (by omega) λw48 u48=>⟨⟨f9.hold (u6.trans u48) (λx=>x) 0 (by simp),f7.hold (u6.trans u48) (λx=>x) 0 (by simp),trivial⟩,?_⟩
  have u8:=u6.trans u48
  refine(f1.Ai u8).E5 _ rfl rfl λw49 k49 u49=>⟨trivial,jZ ((hm2.Ai u8).upd u49 (by omega)) λw50 ht=>?_⟩
  refine(k49.turn (ht _ (Nat.le_refl _))).ld5 ?_
  have:=h1 hne w50 ((Ap.trans (gU.trans u8) u49 λi hi h=>by omega).turn (ht w.heap.size (Nat.le_trans g14.size hD)) (Nat.le_refl _))
  unfold Aeu t5 at this
  rw[fl,fl]
  exact this
abbrev aM(m:M5):Value:=.agg #[iV m.1,iV m.2.1,iV m.2.2.1,iV m.2.2.2.1,iV m.2.2.2.2]
theorem Ark{drift:Int}{m:M5}(h:MB drift m){t:Int}(h0:0≤t)(h1:t≤1125899906842624):mdV m.2.2.1 (t-m.1) m.2.2.2.1=gn m t:=by
 have hb:=Aqs h h0 h1
 have hd:=h.sv.d0
 simp only at hd
 have:mdB m.2.2.1 (t-m.1) m.2.2.2.1=true:=by
  unfold mdB
  rw[decide_eq_false (by omega),Bool.not_false,Bool.true_and,decide_eq_true_eq]
  unfold gn at hb
  unfold I64;omega
 unfold mdV
 rw[if_pos this];rfl
theorem MB.I{drift:Int}{m:M5}(h:MB drift m):I64 m.2.2.1∧I64 m.2.2.2.1:=by
 have:=h.sv.d0
 have:=h.sv.d1
 have:=h.sv.n0
 have:=h.sv.n1
 simp only at*
 unfold I64;omega
theorem Aa4{x:Int}(h0: -1125899906842624≤x)(h1:x≤1125899906842624):clamp x (Int.negSucc 1125899906842623) 1125899906842624=x:=by
 unfold clamp;rw[negS];omega
theorem Aj4{a b:Int}(h:I64 (a+b)):sat a b=a+b:=by unfold sat;unfold I64 at h;rw[if_neg (by omega),if_neg (by omega)]
theorem Jv.cl{drift:Int}{m:M5}{t:Int}{w:World}(hm:MB drift m){k:TR [(false,[KI]),(false,[.b])]→WP}
  (hk: ∀w',Ah w w'→k ((gV m t,()),(okG m t,()),()) w'):
  Ad prog F.Jv [aM m,iV t] w true [(false,[KI]),(false,[.b])] k:=by
 refine Jv.ok ?_
 have no: ∀w',Ah w w'→okG m t=false→k ((0,()),(false,()),()) w':=λw' g h=>by
  have:=hk w' g
  unfold gV at this
  rw[h] at this;exact this
 refine Ae λp1 w2 e1 k1 u1=>Cf (λc=>no w2 u1 ?_) λc0=>Cf (λc=>no w2 u1 ?_) λc1=>?_
 ·unfold okG;rw[decide_eq_false (by omega: ¬0≤t)];rfl
 ·unfold okG;rw[decide_eq_false (by omega: ¬t≤1125899906842624),Bool.and_false];rfl
 have hl0:=hm.l0
 have hl1:=hm.l1
 have ho0:=hm.o0
 have ho1:=hm.o1
 refine k1.i0 rfl (Cf (λc=>absurd (show m.1<0 from c) (by omega)) λ_=>k1.i0 rfl (Cf (λc=>absurd (show m.1>1125899906842624 from c) (by omega)) λ_=>?_))
 refine k1.ldp 2 rfl rfl (k1.i0 rfl ?_)
 have hb:=Aqs hm (t:=t) (by omega) (by omega)
 have ew:wrap .i64 (t-m.1)=t-m.1:=Af (by unfold I64;omega)
 dsimp only
 rw[ew]
 refine Jq.cl hm.I.1 hm.I.2 (by unfold I64;omega) λw8 u8=>?_
 dsimp only
 rw[Ark hm (by omega) (by omega)]
 refine(k1.Ai u8).i1 1 rfl (Nw.cl ?_)
 dsimp only
 rw[Aa4 ho0 ho1]
 refine Xw.cl (by unfold I64;omega) (by unfold I64;omega) (Nw.cl ?_)
 dsimp only
 rw[Aa4 hb.1 hb.2,Aj4 (by unfold I64;omega)]
 refine Xw.cl (by unfold I64;omega) (by unfold I64;omega) ?_
 dsimp only
 rw[Aj4 (by unfold I64;omega)]
 have g:=u1.trans u8
 have er:t+m.2.1+gn m t=raw m t:=rfl
 rw[er]
 refine Cf (λc=>no w8 g ?_) λc2=>Cf (λc=>no w8 g ?_) λc3=>?_
 ·have c:raw m t<0:=c
  unfold okG;rw[decide_eq_false (by omega: ¬0≤raw m t),Bool.and_false];rfl
 ·have c:raw m t>1125899906842624:=c
  unfold okG;rw[decide_eq_false (by omega: ¬raw m t≤1125899906842624),Bool.and_false]
 ·have c2: ¬raw m t<0:=c2
  have c3: ¬raw m t>1125899906842624:=c3
  have ok:okG m t=true:=by
   unfold okG
   rw[decide_eq_true (by omega:0≤t),decide_eq_true (by omega:t≤1125899906842624),decide_eq_true (by omega:0≤raw m t),decide_eq_true (by omega:raw m t≤1125899906842624)];rfl
  have:=hk w8 g
  unfold gV at this
  rw[ok,if_pos rfl] at this
  exact this
theorem Apm{m:M5}{t:Int}:okG m t=true↔0≤t∧t≤1125899906842624∧0≤raw m t∧raw m t≤1125899906842624:=by
 unfold okG;simp[and_assoc]
end Go.Proofs.YtppeepkmnijdpaaGreatDoor
