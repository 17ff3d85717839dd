import Derived.Test.YtppeepkmnijdpaaGreatDoorNdC
import Derived.Laws.BytesString
import Derived.Laws.IdiomStrings
namespace Go.Proofs.YtppeepkmnijdpaaGreatDoor
open Go Go.Eng Tryz
open Go.IntKind (wrap)
set_option linter.unusedSimpArgs false
set_option linter.unusedVariables false
set_option maxRecDepth 100000
set_option maxHeartbeats 8000000
theorem Xb{w:World}{O:NP}{N:NB}{bf be:Nat}{d:Nd}{st:Int}(h:NW w O N bf be d){K:Addr→Int→WP}
  (hK: ∀p w',Ah w w'→w.heap.size≤p→Ar w' p (encs K5 (dM (d.tm st).1))→K ⟨p,0,none⟩ (d.tm st).2 w'):
  I8 w λw4=>
A7 (some ⟨N 0,0,none⟩) λa5=>
ld1 .p (a5.add 18) w4 λx6=>
A7 (some ⟨N 0,0,none⟩) λa7=>
ld1 .p (a7.add 15) w4 λx8=>
(
Ad prog F.Am [.pointer x6,.pointer x8,iV st] w4 true [(true,[KI,KI,KI,KU,KI]),(false,[KI])] λr9 w10=>
Ak [(7,(a7.add 15),(w4.cell? (a7.add 15)).getD undef),(3,(a5.add 18),(w4.cell? (a5.add 18)).getD undef)] w10∧(
Bj [iV 0,iV 0,iV 0,uV 0,iV 0] T.Bl w10 λp11 w12=>
Ak [(7,(a7.add 15),(w4.cell? (a7.add 15)).getD undef),(3,(a5.add 18),(w4.cell? (a5.add 18)).getD undef)] w12∧(
Au [iV r9.1.1,iV r9.1.2.1,iV r9.1.2.2.1,uV r9.1.2.2.2.1,iV r9.1.2.2.2.2.1] p11 0 w12 λw13=>
Ak [] w13∧(
K p11 r9.2.1.1 w13))))∧(
Bj [iV 0,iV 0,iV 0,uV 0,iV 0] T.Bl w4 λp14 w15=>
Ak [(7,(a7.add 15),(w4.cell? (a7.add 15)).getD undef),(3,(a5.add 18),(w4.cell? (a5.add 18)).getD undef)] w15∧(
Ad prog F.Am [.pointer x6,.pointer x8,iV st] w15 true [(true,[KI,KI,KI,KU,KI]),(false,[KI])] λr16 w17=>
Ak [] w17∧(
Au [iV r16.1.1,iV r16.1.2.1,iV r16.1.2.2.1,uV r16.1.2.2.2.1,iV r16.1.2.2.2.2.1] p14 0 w17 λw18=>
Ak [] w18∧(
K p14 r16.2.1.1 w18)))):=by
 rw[Aq,Ac]
 have H:=h.drew
 have g:=Ah.drew w
 have s0:w.drew.heap.size=w.heap.size:=rfl
 generalize w.drew=w4 at*
 refine H.n0 18 (c:=.p) (x:=some ⟨N 4,0,none⟩) rfl ?_
 rw[Ac]
 refine H.n0 15 (c:=.p) (x:=some ⟨bf,0,none⟩) rfl ⟨?_,?_⟩
 ·have hold: ∀{w':World},Ah w4 w'→ ∀j,j<28→w'.cell? (Addr.add ⟨N 0,0,none⟩ j)=some ((w4.cell? (Addr.add ⟨N 0,0,none⟩ j)).getD undef):=λu j hj=>H.nb.hold u (λx=>x) j (by rw[Rx];exact hj)
  refine Am.cw H.sb H.fw λw10 u10=>⟨⟨hold u10 15 (by decide),hold u10 18 (by decide),trivial⟩,Ae λp w12 e12 k12 u12=>⟨⟨hold (u10.trans u12) 15 (by decide),hold (u10.trans u12) 18 (by decide),trivial⟩,k12.E5 (encs K5 (dM (d.tm st).1)) rfl rfl λw13 k13 u13=>⟨trivial,hK p w13 (g.trans (Ah.fresh u10 u12 u13 e12)) (by have:=u10.size;omega) k13⟩⟩⟩
 ·have hold: ∀{w':World},Ah w4 w'→ ∀j,j<28→w'.cell? (Addr.add ⟨N 0,0,none⟩ j)=some ((w4.cell? (Addr.add ⟨N 0,0,none⟩ j)).getD undef):=λu j hj=>H.nb.hold u (λx=>x) j (by rw[Rx];exact hj)
  refine Ae λp w15 e15 k15 u15=>⟨⟨hold u15 15 (by decide),hold u15 18 (by decide),trivial⟩,Am.cw (H.Ai u15).sb (H.Ai u15).fw λw17 u17=>⟨trivial,(k15.Ai u17).E5 (encs K5 (dM (d.tm st).1)) rfl rfl λw18 k18 u18=>⟨trivial,hK p w18 (g.trans (Ah.fresh (Ah.refl _) (u15.trans u17) u18 e15)) (by omega) k18⟩⟩⟩
theorem Oo.n{w:World}{O:NP}{N:NB}{bf be:Nat}{d:Nd}{st:Int}(h:NW w O N bf be d){k:TR RAB→WP}
  (h0:d.made st .find=none→ ∀v w',Ah w w'→k ((v,()),(false,()),()) w') (h1: ∀f,d.made st .find=some f→ ∀w',Ah w w'→k ((f.val,()),(true,()),()) w'):
  Ad prog F.Oo [.agg #[],pB (N 0),iV st] w true RAB k:=by
 refine Oo.ok ?_
 refine Ae λp1 w2 e1 k1 u1=>?_
 refine Bh.by (λ_ W=>Ah w W∧(d.tm st).2=0) ?_ ?_
 ·refine Xb (h.Ai u1) (K:=λp e w'=>Aj (e !=0) (k ((.nilIface,()),(false,()),()) w') (Ah w w'∧(d.tm st).2=0)) λp w' g _ _=>dS (λc=>h0 (by unfold Nd.made;rw[if_pos c]) _ w' (u1.trans g)) λc=>⟨u1.trans g,c⟩
 ·rintro _ W ⟨g,c0⟩ _
  rw[Aq,Ac]
  have H:=(h.Ai g).drew
  have gW:=g.trans (Ah.drew W)
  generalize W.drew=W1 at*
  refine H.n0 16 (c:=.p) (x:=some ⟨N 2,0,none⟩) rfl ?_
  rw[Ac]
  refine H.n0 15 (c:=.p) (x:=some ⟨bf,0,none⟩) rfl ?_
  have hold: ∀{w':World},Ah W1 w'→ ∀j,j<28→w'.cell? (Addr.add ⟨N 0,0,none⟩ j)=some ((W1.cell? (Addr.add ⟨N 0,0,none⟩ j)).getD undef):=λu j hj=>H.nb.hold u (λx=>x) j (by rw[Rx];exact hj)
  refine Az.cw H.fw λw27 u27=>⟨⟨hold u27 15 (by decide),hold u27 16 (by decide),trivial⟩,Js.cl (H.Ai u27).lb λw29 u29=>⟨⟨hold (u27.trans u29) 15 (by decide),trivial⟩,?_⟩⟩
  have g29:=(gW.trans u27).trans u29
  have hm:d.made st .find=if d.syn=true then some (.find (d.s.me,0)) else if d.lev<0 then none else some (.find (d.s.me,d.lev)):=by unfold Nd.made;rw[if_neg (by omega)]
  change d.made st .find=if Xm d.f d.e d.es.length=true then _ else _ at hm
  dsimp only
  by_cases cs:Xm d.f d.e d.es.length=true
  ·rw[if_pos cs] at hm
   have:=h1 _ hm w29 g29
   rw[if_pos cs];exact this
  ·rw[if_neg cs] at hm
   by_cases cl:d.lev<0
   ·rw[if_pos cl] at hm
    have:=h0 hm (.iface T.Du (.agg #[iV 0,iV 0])) w29 g29
    rw[if_neg cs,if_pos cl];exact this
   ·rw[if_neg cl] at hm
    have:=h1 _ hm w29 g29
    rw[if_neg cs,if_neg cl];exact this
theorem P6.n{w:World}{O:NP}{N:NB}{bf be:Nat}{d:Nd}{st:Int}(h:NW w O N bf be d){k:TR RAB→WP}
  (h0:d.made st .tie=none→ ∀v w',Ah w w'→k ((v,()),(false,()),()) w') (h1: ∀f,d.made st .tie=some f→ ∀w',Ah w w'→k ((f.val,()),(true,()),()) w'):
  Ad prog F.P6 [.agg #[],pB (N 0),iV st] w true RAB k:=by
 refine P6.ok ?_
 refine Ae λp1 w2 e1 k1 u1=>?_
 rw[Ac]
 refine Lp.in (h.Ai u1).nb λw5 u5=>Ae λp6 w7 e6 k6 u7=>k6.E5 (a6 d.ba) rfl rfl λw8 k8 u8=>?_
 have g8:=Ah.fresh (u1.trans u5) u7 u8 e6
 have H8:=h.Ai g8
 have l0:=(h.Ai (u1.trans u5)).nb.lt
 rw[Ac]
 refine H8.nb.c0 (c:=KI) (x:=d.s.me) rfl (k8.sN0 [_] (by simp[a6]) rfl λw11 k11 u11=>?_)
 change Ar w11 p6 (a6 (d.s.me,d.ba.2)) at k11
 have g11:Ah w w11:=Ap.new (Ap.Ed g8) u11 λhh=>by have:=(u1.trans u5).size;omega
 refine k11.cA (cs:=K6) (t6 (d.s.me,d.ba.2)) rfl ?_
 by_cases c:d.bh=true
 ·have:=h1 (.anchor (d.s.me,d.ba.2)) (by unfold Nd.made;rw[if_pos c]) w11 g11
  dsimp only;rw[c];exact this
 ·have:=h0 (by unfold Nd.made;rw[if_neg c]) (.iface T.Bv (.agg #[iV d.s.me,uV d.ba.2.1,iV d.ba.2.2.1,uV d.ba.2.2.2.1,iV d.ba.2.2.2.2.1,iV d.ba.2.2.2.2.2])) w11 g11
  have hf:d.bh=false:=by simpa using c
  dsimp only;rw[hf];exact this
theorem Agg{d:Nd}{st to sent:Int}{g5:A5}(h:(d.tm st).2≠0∨yA (d.tm st).1 g5=false):d.made st (.reply to sent g5)=none:=if_pos h
theorem Ao6{d:Nd}{st to sent:Int}{g5:A5}(h: ¬((d.tm st).2≠0∨yA (d.tm st).1 g5=false)):d.made st (.reply to sent g5)=some (.reply (d.s.me,to,sent,g5.1,(d.tm st).1.1,(d.tm st).1.2.2.1,(d.tm st).1.2.2.2.1,max (d.tm st).1.2.1 g5.2.1)):=if_neg h
theorem Nb.n{w:World}{O:NP}{N:NB}{bf be:Nat}{d:Nd}{st to sent:Int}{g5:A5}(h:NW w O N bf be d){k:TR RAB→WP}
  (h0:d.made st (.reply to sent g5)=none→ ∀v w',Ah w w'→k ((v,()),(false,()),()) w') (h1: ∀f,d.made st (.reply to sent g5)=some f→ ∀w',Ah w w'→k ((f.val,()),(true,()),()) w'):
  Ad prog F.Nb [.agg #[iV to,iV sent,iV g5.1,iV g5.2.1,iV g5.2.2.1,uV g5.2.2.2.1,iV g5.2.2.2.2],pB (N 0),iV st] w true RAB k:=by
 refine Nb.ok (r0:=to) (r1:=sent) (r2:=g5.1) (r3:=g5.2.1) (r4:=g5.2.2.1) (r5:=g5.2.2.2.1) (r6:=g5.2.2.2.2) ?_
 refine Ae λp1 w2 e1 k1 u1=>?_
 have l1:=k1.lt
 refine Bh.by (λz W=>Ah w2 W∧ ∃p,z=(⟨p,0,none⟩,(d.tm st).2,())∧Ar W p (encs K5 (dM (d.tm st).1))) ?_ ?_
 ·exact Xb (h.Ai u1) (K:=λp e w'=>Ah w2 w'∧ ∃q,((p,e,()):Addr×Int×Unit)=(⟨q,0,none⟩,(d.tm st).2,())∧Ar w' q (encs K5 (dM (d.tm st).1))) λp w' g _ kp=>⟨g,p,rfl,kp⟩
 ·rintro z W ⟨g,p,rfl,kp⟩ _
  have gW:=u1.trans g
  have K1:=k1.Ai g
  refine dS (λc=>h0 (Agg (.inl c)) _ W gW) λc0=>?_
  have c0:(d.tm st).2=0:=c0
  refine kp.cN 2 (cs:=[KI,KU]) ((d.tm st).1.2.2.1,(d.tm st).1.2.2.2.1,()) rfl (Ar.cN2 K1 2 2 (cs:=[KI,KU]) (g5.2.2.1,g5.2.2.2.1,()) rfl ?_)
  have es:(((d.tm st).1.2.2.1==g5.2.2.1)&&(((d.tm st).1.2.2.2.1==g5.2.2.2.1)&&true))=yA (d.tm st).1 g5:=by unfold yA;rw[Bool.and_true]
  show Aj (!(((d.tm st).1.2.2.1==g5.2.2.1)&&(((d.tm st).1.2.2.2.1==g5.2.2.2.1)&&true))) _ _
  rw[es]
  refine En (λc=>h0 (Agg (.inr c)) _ W gW) λcs=>?_
  have h1:=h1 _ (Ao6 (by have cs:yA (d.tm st).1 g5=true:=cs;rw[cs];rintro(h|h);exact h c0;cases h))
  rw[Aq,Ac]
  have H:=(h.Ai gW).drew
  have Kd:=K1.drew
  have kd:=kp.drew
  refine H.nb.c0 (c:=KI) (x:=d.s.me) rfl (Kd.c0 (c:=KI) (x:=to) rfl (Kd.c1 1 (c:=KI) (x:=sent) rfl (Kd.c1 2 (c:=KI) (x:=g5.1) rfl (kd.c0 (c:=KI) (x:=(d.tm st).1.1) rfl (kd.c1 2 (c:=KI) (x:=(d.tm st).1.2.2.1) rfl (kd.c2 2 1 (c:=KU) (x:=(d.tm st).1.2.2.2.1) rfl (kd.c1 1 (c:=KI) (x:=(d.tm st).1.2.1) rfl (Kd.c2 2 1 (c:=KI) (x:=g5.2.1) rfl ?_))))))))
  have em:(if g5.2.1>(d.tm st).1.2.1 then g5.2.1 else(d.tm st).1.2.1)=max (d.tm st).1.2.1 g5.2.1:=by omega
  dsimp only
  rw[em]
  exact h1 W.drew (gW.trans (Ah.drew W))
theorem Aoq{w:World}{O:NP}{N:NB}{bf be:Nat}{d:Nd}{st:Int}(j:Jb)(h:NW w O N bf be d){k:TR RAB→WP}
  (h0:d.made st j=none→ ∀v w',Ah w w'→k ((v,()),(false,()),()) w') (h1: ∀f,d.made st j=some f→ ∀w',Ah w w'→k ((f.val,()),(true,()),()) w'):
  ivK prog (oL j) "angelus/node.made" [pB (N 0),iV st] w true RAB k:=by
 cases j with
 |find=>exact Ux (g:=F.Oo) (by kernel_rfl) (by kernel_rfl) (Oo.n h h0 h1)
 |tie=>exact Ux (g:=F.P6) (by kernel_rfl) (by kernel_rfl) (P6.n h h0 h1)
 |reply to sent g5=>exact Ux (g:=F.Nb) (by kernel_rfl) (by kernel_rfl) (Nb.n h h0 h1)
abbrev RA1:List (Bool×List CK):=[(false,[.any])]
def iO(j:Jb):TR RA1:=((oL j,()),())
theorem Auh{rows:List Value}{f i:Nat}{v:Value}(h:(rows.drop ((f+i)%8*1)).take 1=[v]):rows[(f+i)%8*1]? =some v:=by
 have:=congrArg (·[0]?) h
 simp only[List.getElem?_take_of_lt (show 0<1 by decide),List.getElem?_drop,Nat.add_zero] at this
 exact this
theorem Eo.Ad4{w:World}{pb b c:Nat}{js:List Jb}{M:NP}{V:TR RA1→Prop}(hV: ∀j,V (iO j))(hp:Ar w pb [pB b])(hR:bJ w b c 1 8 (jbL js))(hMp: ¬M pb)(hMb: ¬M b)(hMc: ¬M c):
  ItS prog (.func (.func F.Eo) #[] #[.pointer (some ⟨pb,0,none⟩)]) RA1 V (js.map iO) M w:=by
 refine Aec (by kernel_rfl) λl J Jx W g hJ hJx hY h0=>?_
 refine Eo.ok ?_
 refine(hp.Ai g).p0 (Dj.cL (hR.Ai g) ?_)
 have hlen:=hR.len
 rw[List.length_map] at hlen
 obtain⟨rows,f,k1,k2,hl,hf,hg⟩:=hR.ex
 rw[List.length_map] at k1
 have lp:=hp.lt
 have lb:=k1.lt
 have lc:=k2.lt
 refine Aw.by (λz W'=> ∃i:Nat,z=((i:Int),())∧i≤js.length∧J ((js.map iO).take i) W'∧Ar W' pb [pB b]∧Ar W' b [.slice (some ⟨c,0,none⟩) 8 8,iV (f:Int),iV (js.length:Int)]∧Ar W' c rows)
  (λz=>(100-z.1).toNat) ⟨0,rfl,by omega,by simpa using h0,hp.Ai g,k1.Ai g,k2.Ai g⟩ ?_
 rintro z W6 ⟨i,rfl,hi,hj,hpb,B1,B2⟩ _
 rw[List.length_map]
 refine Cf (λcc=>?_) λcc=>?_
 ·have hi':i<js.length:=by have cc:(i:Int)<(js.length:Int):=cc;omega
  have he:js[i]? =some js[i]:=List.getElem?_eq_getElem hi'
  generalize js[i]=j at he
  rw[Aq]
  have P:=hpb.drew
  have C1:=B1.drew
  have C2:=B2.drew
  have gd:=Ah.drew W6
  have hj:=hJ _ _ _ hj gd
  generalize W6.drew=W7 at*
  refine P.p0 ?_
  rw[Ac]
  refine C1.c0 (c:=.sl) (x:=(some ⟨c,0,none⟩,8,8)) rfl (P.p0 ?_)
  rw[Ac]
  refine C1.c1 1 (c:=KI) (x:=(f:Int)) rfl (P.p0 ?_)
  rw[Ac]
  refine C1.c0 (c:=.sl) (x:=(some ⟨c,0,none⟩,8,8)) rfl ?_
  have ew:Int.tmod (wrap .i64 ((f:Int)+(i:Int))) ((8:Nat):Int)=(((f+i)%8:Nat):Int):=by
   rw[Af (by unfold I64;omega),show(f:Int)+(i:Int)=((f+i:Nat):Int) by omega,qP]
  rw[Gm (show(((8:Nat):Nat):Int)≠0 by decide)]
  show Hf (some ⟨c,0,none⟩) 8 (Int.tmod (wrap .i64 ((f:Int)+(i:Int))) ((8:Nat):Int)) _
  rw[ew,Ip (by omega),Int.toNat_natCast]
  have hv:=Auh (hg i [oL j] (by rw[List.getElem?_map,he];rfl))
  refine C2.c1 ((f+i)%8*1) (c:=.any) (x:=oL j) hv ?_
  show yiS prog l (dP RA1 (iO j)) W7 _
  have ht:(js.map iO).take i++[iO j]=(js.map iO).take (i+1):=by
   rw[List.take_add_one,List.getElem?_map,he];rfl
  refine hY _ (iO j) W7 _ (hV j) hj (by rw[List.length_take,List.length_map];omega) (λW2 hj2 kp=>?_) λW2 hj2=>?_
  ·rw[ht] at hj2
   refine Le rfl ⟨⟨i+1,?_,by omega,hj2,uZ.blk P kp lp hMp,uZ.blk C1 kp lb hMb,uZ.blk C2 kp lc hMc⟩,?_⟩
   ·show(wrap .i64 ((i:Int)+1),())=_
    rw[Af (by unfold I64;omega)];rfl
   ·show(100-wrap .i64 ((i:Int)+1)).toNat<(100-(i:Int)).toNat
    rw[Af (by unfold I64;omega)];omega
  ·refine We rfl (.inr ⟨_,List.take_prefix (i+1) (js.map iO),?_⟩)
   rw[ht] at hj2;exact hj2
 ·have hi':i=js.length:=by have cc: ¬(i:Int)<(js.length:Int):=cc;omega
  subst hi'
  rw[←List.length_map (f:=iO),List.take_length] at hj
  exact .inl hj
theorem Atj(j:Jb){k:Ky []→Bool→Prop}(h:k () j.fV):taV prog (oL j) T.Vd true true [] k:=by
 cases j with
 |find=>exact(show taV prog (oL .find) T.Vd true true [] k=k () false from by kernel_rfl)▸h
 |tie=>exact(show taV prog (oL .tie) T.Vd true true [] k=k () true from by kernel_rfl)▸h
 |reply to sent g=>exact(show taV prog (oL (.reply to sent g)) T.Vd true true [] k=k () false from by kernel_rfl)▸h
theorem Ol.n{w:World}{O:NP}{N:NB}{bf be:Nat}{d:Nd}(h:NW w O N bf be d){k:TR Vl→WP}(hk: ∀w',Ah w w'→k ((d.jobs.any Jb.fV,()),()) w'):Ad prog F.Ol [pB (N 0)] w false Vl k:=by
 refine Ol.ok ?_
 refine Ae λp1 w2 e1 k1 u1=>?_
 have H2:=h.Ai u1
 have lt:=h.lt
 have l1:=k1.lt
 rw[Ac]
 refine H2.n0 27 (c:=.p) (x:=some ⟨N 8,0,none⟩) rfl ?_
 refine Nq.ok ?_
 refine Ae λpb w6 e6 k6 u6=>?_
 have H6:=H2.Ai u6
 have K6:=k1.Ai u6
 have g6:=u1.trans u6
 have l6:=k6.lt
 have n8:N 8≠p1:=λe=>by have:=lt _ (.inl ⟨8,by decide,rfl⟩);omega
 have n9:N 9≠p1:=λe=>by have:=lt _ (.inl ⟨9,by decide,rfl⟩);omega
 have yes: ∀j,j∈d.jobs→j.fV=true→d.jobs.any Jb.fV=true:=λj hj ht=>List.any_eq_true.2 ⟨j,hj,ht⟩
 refine⟨λx=> ∃j,x=iO j,d.jobs.map iO,λz=>z=p1,
  λpre W=>Ah w W∧Ar W p1 [.bool false]∧ ∀j,iO j∈pre→j.fV=false,λe pre W=>e=0∧Ah w W∧Ar W p1 [.bool true]∧ ∃j,iO j∈pre∧j.fV=true,
  Eo.Ad4 (λj=>⟨j,rfl⟩) k6 H6.je (by omega) n8 n9,
  λW tu=>⟨g6.turn tu g6.size,K6.turn tu,λj hj=>by cases hj⟩,?_,?_,?_⟩
 ·rintro x W ⟨j,rfl⟩ hs
  refine iC (Ah.refl W) ?_
  rintro W2 tu pre ⟨hg2,kp,hpre⟩ hlen
  refine Atj j (Ae λp17 w18 e17 k17 u18=>?_)
  show Aj j.fV _ _
  have kp18:=kp.Ai u18
  refine bQ (λc=>?_) λc=>?_
  ·refine kp18.sN0 [_] (by simp) rfl λw20 k20 u20=>⟨Rnd.of (Ap.trans (Ap.Ed u18) u20 λ_ _ x=>x) λz hz _=>?_,λW4 t4=>⟨rfl,?_,?_,j,by simp,c⟩⟩
   ·subst hz;exact⟨λ_=>rfl,λhB=>by omega⟩
   ·exact(Ap.trans (hg2.trans u18) u20 λi hi e=>by omega:Ah w w20).turn t4 g6.size
   ·exact k20.turn t4
  ·refine⟨Rnd.Ai u18,λW4 t4=>⟨(hg2.trans u18).turn t4 g6.size,kp18.turn t4,λj' hj'=>?_⟩⟩
   rcases List.mem_append.1 hj' with hj'|hj'
   ·exact hpre j' hj'
   ·have e:iO j'=iO j:=by simpa using hj'
    have e2:oL j'=oL j:=congrArg (λx:TR RA1=>x.1.1) e
    cases j<;>cases j'<;>first|rfl|exact c|(simp only[oL,Value.iface.injEq] at e2;exact absurd e2.1 (by decide))
 ·rintro D W hD ⟨hgW,kp,hno⟩ hm
  refine kp.sN0 [_] (by simp) rfl λw21 k21 u21=>jZ (hm.upd u21 (by omega)) λw22 ht=>?_
  have no:d.jobs.any Jb.fV=false:=List.any_eq_false.2 λj hj=>by rw[hno j (List.mem_map.2 ⟨j,hj,rfl⟩)];decide
  refine(k21.turn (ht 0 (Nat.zero_le _))).b0 ?_
  have:=hk w22 ((Ap.trans hgW u21 λi hi e=>by omega:Ah w w21).turn (ht w.heap.size (Nat.le_trans g6.size hD)) (Nat.le_refl _))
  rw[no] at this
  exact this
 ·intro s hs D pre W hD hpre hix hm
  simp only[List.mem_cons,List.not_mem_nil,or_false] at hs
  subst hs
  obtain⟨_,hgW,kp,j,hj,ht⟩:=hix
  show tkK D W λw24=>ld1 .b ⟨p1,0,none⟩ w24 λx25=>k ((x25,()),()) w24
  refine jZ hm λw24 htu=>?_
  refine(kp.turn (htu 0 (Nat.zero_le _))).b0 ?_
  have hj':j∈d.jobs:=by
   obtain⟨j',hj',e⟩:=List.mem_map.1 (hpre.mem hj)
   have e2:oL j'=oL j:=congrArg (λx:TR RA1=>x.1.1) e
   cases j with
   |tie=>cases j' with
    |tie=>exact hj'
    |_=>simp only[oL,Value.iface.injEq] at e2;exact absurd e2.1 (by decide)
   |_=>cases ht
  have:=hk w24 (hgW.turn (htu w.heap.size (Nat.le_trans g6.size hD)) (Nat.le_refl _))
  rw[yes j hj' ht] at this
  exact this
theorem Oq.n{w:World}{O:NP}{N:NB}{bf be:Nat}{d:Nd}(h:NW w O N bf be d){k:TR Kt→WP}
  (hk: ∀w',NW w' O N bf be d.pass.1→Nx (NO N O) w (NO N O) w'→k ((d.pass.2,()),()) w'):Ad prog F.Oq [pB (N 0)] w false Kt k:=by
 refine Oq.ok ?_
 refine Ol.n h λw2 u2=>?_
 have H2:=h.Ai u2
 refine bQ (λc=>?_) λc=>?_
 ·have c:d.jobs.any Jb.fV=true:=c
  have e:d.pass=(d,0):=by unfold Nd.pass;rw[if_pos c]
  rw[e] at hk
  exact hk w2 H2 (Nx.of u2)
 ·have c:d.jobs.any Jb.fV=false:=c
  have e:d.pass=d.push .tie:=by unfold Nd.pass;rw[if_neg (by rw[c];decide)]
  rw[e] at hk
  rw[Ac]
  refine H2.n0 27 (c:=.p) (x:=some ⟨N 8,0,none⟩) rfl (Cm.cL (j:=.tie) (h.ne 8 9) H2.je (λhf w6 u6=>?_) λhf w6 R6 u6=>?_)
  ·have e:d.push .tie=(d,6):=by unfold Nd.push;rw[if_pos hf]
   rw[e] at hk
   exact hk w6 (H2.Ai u6) (Nx.of (u2.trans u6))
  ·have e:d.push .tie=({d with jobs:=d.jobs++[.tie]},0):=by unfold Nd.push;rw[if_neg (by omega)]
   rw[e] at hk
   exact hk w6 (H2.Apz R6 u6) ((Nx.of u2).trans (NW.nx8 u6))
theorem gI{w:World}{O:NP}{N:NB}{bf be:Nat}{d:Nd}{j:Jb}(h:NW w O N bf be d){k:TR Kt→WP}
  (hk: ∀w',NW w' O N bf be (d.push j).1→Nx (NO N O) w (NO N O) w'→k (((d.push j).2,()),()) w'):Ad prog F.Cm [pB (N 8),oL j] w false Kt k:=by
 refine Cm.cL (j:=j) (h.ne 8 9) h.je (λhf w6 u6=>?_) λhf w6 R6 u6=>?_
 ·have e:d.push j=(d,6):=by unfold Nd.push;rw[if_pos hf]
  rw[e] at hk
  exact hk w6 (h.Ai u6) (Nx.of u6)
 ·have e:d.push j=({d with jobs:=d.jobs++[j]},0):=by unfold Nd.push;rw[if_neg (by omega)]
  rw[e] at hk
  exact hk w6 (h.Apz R6 u6) (NW.nx8 u6)
abbrev Ag0(w:World)(v:Sl)(b:List Nat):Prop:=dC w v b∧v.2.1≤v.2.2
def Bts(w:World)(Q:NP)(p:Nat)(s:Sl):List Sl→List (List Nat)→Prop
 |[],[]=>True
 |v::vs,b::bs=>(Ag0 w v b∧(∀a,v.1=some a→p<a.block∧a.block<w.heap.size∧ ¬Q a.block∧ ∀a',s.1=some a'→a.block≠a'.block))∧Bts w Q p s vs bs
 |_,_=>False
theorem Bts.len{w:World}{Q:NP}{p:Nat}{s:Sl}: ∀{vs:List Sl} {bs:List (List Nat)},Bts w Q p s vs bs→vs.length=bs.length
 |[],[],_=>rfl
 |_::vs,_::bs,h=>by simp[Bts.len h.2]
 |[],_::_,h=>h.elim
 |_::_,[],h=>h.elim
theorem Bts.upd{S Q Q':NP}{w w':World}{p:Nat}{s s':Sl}(u:Ap S w w')(hS: ∀z,p<z→z<w.heap.size→ ¬Q z→(∀a',s.1=some a'→z≠a'.block)→ ¬S z)(hQ: ∀z,z<w.heap.size→Q' z→Q z)(hs: ∀a,s'.1=some a→(∃a0,s.1=some a0∧a.block=a0.block)∨w.heap.size≤a.block): ∀{vs:List Sl} {bs:List (List Nat)},Bts w Q p s vs bs→Bts w' Q' p s' vs bs
 |[],[],_=>trivial
 |v::vs,b::bs,h=>⟨⟨⟨Row.upd h.1.1.1 u λa ha=>hS _ (h.1.2 a ha).1 (h.1.2 a ha).2.1 (h.1.2 a ha).2.2.1 (h.1.2 a ha).2.2.2,h.1.1.2⟩,λa ha=>⟨(h.1.2 a ha).1,Nat.lt_of_lt_of_le (h.1.2 a ha).2.1 u.size,λhq=>(h.1.2 a ha).2.2.1 (hQ _ (h.1.2 a ha).2.1 hq),λa' ha'=>by
   rcases hs a' ha' with ⟨a0,h0,e⟩|e
   ·have:=(h.1.2 a ha).2.2.2 a0 h0;omega
   ·have:=(h.1.2 a ha).2.1;omega⟩⟩,Bts.upd u hS hQ hs h.2⟩
 |[],_::_,h=>h.elim
 |_::_,[],h=>h.elim
theorem Bts.snoc{w:World}{Q:NP}{p:Nat}{s v:Sl}{b:List Nat}(hv:Ag0 w v b∧(∀a,v.1=some a→p<a.block∧a.block<w.heap.size∧ ¬Q a.block∧ ∀a',s.1=some a'→a.block≠a'.block)): ∀{vs:List Sl} {bs:List (List Nat)},Bts w Q p s vs bs→Bts w Q p s (vs++[v]) (bs++[b])
 |[],[],_=>⟨hv,trivial⟩
 |_::vs,_::bs,h=>⟨h.1,Bts.snoc hv h.2⟩
 |[],_::_,h=>h.elim
 |_::_,[],h=>h.elim
theorem Bts.get{w:World}{Q:NP}{p:Nat}{s:Sl}: ∀{vs:List Sl} {bs:List (List Nat)} {i:Nat} {b:List Nat},Bts w Q p s vs bs→bs[i]? =some b→ ∃v,vs[i]? =some v∧Ag0 w v b∧ ∀a,v.1=some a→p<a.block∧ ¬Q a.block
 |[],[],i,b,_,h=>by simp at h
 |v::vs,_::bs,0,b,h,e=>⟨v,rfl,by simp at e;exact e▸h.1.1,λa ha=>⟨(h.1.2 a ha).1,(h.1.2 a ha).2.2.1⟩⟩
 |_::vs,_::bs,i+1,b,h,e=>by
  have:=Bts.get (i:=i) (b:=b) h.2 (by simpa using e)
  simpa using this
 |[],_::_,_,_,h,_=>h.elim
 |_::_,[],_,_,h,_=>h.elim
structure aK(w:World)(Q:NP)(p:Nat)(bs:List (List Nat)):Prop where
 ex: ∃(s:Sl) (vs:List Sl),Ar w p [Uz s]∧Dp w (p+1) T.D6 1 s vs.length (vs.map Uz)∧(∀a,s.1=some a→ ¬Q a.block)∧Bts w Q p s vs bs
 nq: ¬Q p
theorem aK.new{w:World}{Q:NP}{p:Nat}(k:Ar w p [.slice none 0 0])(h: ¬Q p):aK w Q p []:=⟨⟨(none,0,0),[],k,Dp.nil _ _ _ _,(λa ha=>by cases ha),trivial⟩,h⟩
theorem aK.upd{S Q Q':NP}{w w':World}{p:Nat}{bs:List (List Nat)}(h:aK w Q p bs)(u:Ap S w w')(hS: ∀z,p≤z→ ¬Q z→ ¬S z)(hQ: ∀z,z<w.heap.size→Q' z→Q z):aK w' Q' p bs:=by
 obtain⟨⟨s,vs,k,o,d,b⟩,nq⟩:=h
 refine⟨⟨s,vs,k.upd u (hS p (Nat.le_refl _) nq),o.upd u λa ha=>hS _ (by have:=(o.blk ha).1;omega) (d a ha),λa ha hq=>d a ha (hQ _ (o.blk ha).2.1 hq),?_⟩,λhq=>nq (hQ _ k.lt hq)⟩
 exact b.upd u (λz hz _ hn _=>hS z (by omega) hn) hQ λa ha=>.inl ⟨a,ha,rfl⟩
theorem aK.Ai{Q:NP}{w w':World}{p:Nat}{bs:List (List Nat)}(h:aK w Q p bs)(u:Ah w w'):aK w' Q p bs:=h.upd u (λ_ _ _ x=>x) λ_ _ x=>x
theorem mO(out:List Fr)(f:Fr):dV out (some f)=if f.ok=true∧out.length<3 then out++[f] else out:=rfl
theorem Hz.n{Q:NP}{p:Nat}{out:List Fr}{fo:Option Fr}{v:Value}{w:World}(hO:aK w Q p (out.map Fr.by))(hQ: ∀z,Q z→z<w.heap.size)(hv: ∀f,fo=some f→v=f.val)
  {k:TR []→WP} (hk: ∀w',aK w' Q p ((dV out fo).map Fr.by)→Ap (λz=> ¬Q z∧p≤z) w w'→k () w'):Ad prog F.Hz [pB p,v,.bool fo.isSome] w true [] k:=by
 refine Hz.ok ?_
 cases fo with
 |none=>exact We rfl (hk w hO (Ap.refl _ _))
 |some f=>
  obtain rfl:=hv f rfl
  have hO':=hO
  obtain⟨⟨s,vs,kp,o,d,bt⟩,nq⟩:=hO'
  have hl:=o.len
  have hbl:=bt.len
  rw[List.length_map] at hbl
  refine Le rfl ?_
  rw[Ac]
  refine kp.c0 (c:=.sl) (x:=s) rfl (Cf (λc=>?_) λc=>?_)
  ·have c:(s.2.1:Int)≥3:=c
   have e:dV out (some f)=out:=by rw[mO,if_neg (by omega)]
   rw[e] at hk
   exact hk w hO (Ap.refl _ _)
  have c: ¬(s.2.1:Int)≥3:=c
  refine Fr.enc f (λcf w4 u4=>Le rfl ?_) λcf y w4 oy u4=>We rfl ?_
  ·have e:dV out (some f)=out:=by rw[mO,if_neg (by rw[cf];rintro⟨h,_⟩;cases h)]
   rw[e] at hk
   exact hk w4 (hO.Ai u4) (Ap.Ed u4)
  have e:dV out (some f)=out++[f]:=by rw[mO,if_pos ⟨cf,by omega⟩]
  rw[e] at hk
  rw[Ac]
  refine(kp.Ai u4).c0 (c:=.sl) (x:=s) rfl ?_
  refine Ae λq w8 e8 k8 u8=>?_
  have g8:=u4.trans u8
  have lp:=kp.lt
  have s8:=g8.size
  have o8:=o.Ai g8
  refine S9 (s:=s) (x:=(some ⟨q,0,none⟩,1,1)) (base:=p+1) (e:=T.D6) (size:=1) (n:=vs.length) (xs:=vs.map Uz) (news:=[Uz y]) (by kernel_rfl) (by kernel_rfl) (by decide) o8 (k8.row rfl) (by intro u hu;simp only[List.mem_cons,List.not_mem_nil,or_false] at hu;subst hu;rfl) (by show vs.length+1≤1000000000;omega) (by omega) λy2 w10 o10 u10 hb10=>?_
  have k10:Ar w10 p [Uz s]:=(kp.Ai g8).upd u10 λ⟨a,ha,hb⟩=>by have:=(o.blk ha).1;omega
  rw[Ac]
  have dis: ∀a,y2.1=some a→a.block≠p∧ ¬Q a.block:=λa ha=>by
   rcases hb10 a ha with ⟨a0,h0,e⟩|e
   ·rw[e];exact⟨by have:=(o.blk h0).1;omega,d a0 h0⟩
   ·exact⟨by omega,λhq=>by have:=hQ _ hq;omega⟩
  have U10:Ap (λz=> ∃a,s.1=some a∧a.block=z) w w10:=Ap.trans (Ap.Ed g8) u10 λ_ _ x=>x
  refine k10.E5 [Uz y2] rfl rfl λw12 k12 u12=>hk w12 ⟨⟨y2,vs++[y],k12,?_,λa ha=>(dis a ha).2,?_⟩,nq⟩ ?_
  ·have o10:Dp w10 (p+1) T.D6 1 y2 (vs.length+1) (vs.map Uz++[Uz y]):=o10
   have o12:=o10.upd u12 λa ha e=>(dis a ha).1 e
   rw[List.length_append,List.map_append]
   exact o12
  ·have b10:Bts w10 Q p y2 vs (out.map Fr.by):=bt.upd U10 (λz hz hzl _ hne ⟨a,ha,hb⟩=>hne a ha hb.symm) (λ_ _ x=>x) λa ha=>(hb10 a ha).elim .inl λe=>.inr (Nat.le_trans s8 e)
   have b12:Bts w12 Q p y2 vs (out.map Fr.by):=b10.upd u12 (λz hz _ _ _ e=>by omega) (λ_ _ x=>x) λa ha=>.inl ⟨a,ha,rfl⟩
   have yb: ∀a,y.1=some a→w.heap.size≤a.block∧a.block<w4.heap.size:=λa ha=>⟨(oy.blk ha).1,(oy.blk ha).2.1⟩
   have yn: ∀a,y.1=some a→ ∀a',s.1=some a'→a.block≠a'.block:=λa ha a' ha' e=>by
    have:=(yb a ha).1;have:=(o.blk ha').2.1;omega
   rw[List.map_append]
   refine b12.snoc ⟨?_,λa ha=>⟨?_,?_,λhq=>?_,?_⟩⟩
   ·have r8:dC w8 y f.by:=Row.Ai oy.row u8
    exact⟨Row.upd (Row.upd r8 u10 λa ha ⟨a',ha',e⟩=>yn a ha a' ha' e.symm) u12 λa ha e=>by have:=(yb a ha).1;omega,oy.cap⟩
   ·have:=(yb a ha).1;omega
   ·have:=(yb a ha).2;have:=u8.size;have:=u10.size;have:=u12.size;omega
   ·have:=hQ _ hq;have:=(yb a ha).1;omega
   ·intro a' ha'
    rcases hb10 a' ha' with ⟨a0,h0,e⟩|e
    ·rw[e];exact yn a ha a0 h0
    ·have:=(yb a ha).2;have:=u8.size;omega
  ·refine Ap.trans (U10.mono λz ⟨a,ha,hb⟩=>⟨hb▸d a ha,by have:=(o.blk ha).1;omega⟩) u12 λz hz e=>⟨e▸nq,by omega⟩
def vJ(w:World)(L:Nat)(Q:NP)(y:Sl)(bs:List (List Nat)):Prop:= ∃vs:List Sl,Row w y 1 (vs.map Uz)∧vs.length=bs.length∧(∀a,y.1=some a→L≤a.block∧ ¬Q a.block)∧ ∀(i:Nat) (b:List Nat),bs[i]? =some b→ ∃v,vs[i]? =some v∧Ag0 w v b∧ ∀a,v.1=some a→L≤a.block∧ ¬Q a.block
theorem vJ.nil(w:World)(L:Nat)(Q:NP):vJ w L Q (none,0,0) []:=⟨[],⟨rfl,λh=>absurd rfl h⟩,rfl,(λa ha=>by cases ha),λi b h=>by simp at h⟩
theorem vJ.len{w:World}{L:Nat}{Q:NP}{y:Sl}{bs:List (List Nat)}(h:vJ w L Q y bs):y.2.1=bs.length:=by
 obtain⟨vs,r,l,_⟩:=h
 have:=r.Ab2
 rw[List.length_map,l] at this;exact this
theorem aK.fE{w:World}{Q:NP}{p L:Nat}{bs:List (List Nat)}(h:aK w Q p bs)(hL:L≤p){k:Sl→Prop}(hk: ∀y,vJ w L Q y bs→k y):ld1 .sl ⟨p,0,none⟩ w k:=by
 obtain⟨⟨s,vs,kp,o,d,b⟩,nq⟩:=h
 exact kp.c0 (c:=.sl) (x:=s) rfl (hk s ⟨vs,o.row,b.len,λa ha=>⟨by have:=(o.blk ha).1;omega,d a ha⟩,λi b' hb=>by
  obtain⟨v,hv,hr,hd⟩:=b.get hb
  exact⟨v,hv,hr,λa ha=>⟨by have:=(hd a ha).1;omega,(hd a ha).2⟩⟩⟩)
theorem aK.len{w:World}{Q:NP}{p:Nat}{bs:List (List Nat)}(h:aK w Q p bs){k:Sl→Prop}(hk: ∀y:Sl,y.2.1=bs.length→k y):ld1 .sl ⟨p,0,none⟩ w k:=by
 obtain⟨⟨s,vs,kp,o,d,b⟩,nq⟩:=h
 exact kp.c0 (c:=.sl) (x:=s) rfl (hk s (by rw[o.len,b.len]))
theorem Oh.n{w:World}{O:NP}{N:NB}{bf be:Nat}{d:Nd}{st:Int}(h:NW w O N bf be d)(hm:d.pr.me=d.s.me){k:TR RAB→WP}
  (hk: ∀v w',NW w' O N bf be (d.word st).1→Nx (NO N O) w (NO N O) w'→(∀f,(d.word st).2=some f→v=f.val)→k ((v,()),((d.word st).2.isSome,()),()) w'):Ad prog F.Oh [pB (N 0),iV st] w true RAB k:=by
 refine Oh.ok ?_
 rw[Ac]
 refine h.n0 16 (c:=.p) (x:=some ⟨N 2,0,none⟩) rfl (Ea.cl h.lb (Cf (λc=>?_) λc=>?_))
 ·have c:d.par<0:=c
  have e:d.word st=(d,some (.want d.s.me)):=by unfold Nd.word;rw[if_pos c]
  rw[e] at hk
  rw[Ac]
  refine h.nb.c0 (c:=KI) (x:=d.s.me) rfl ?_
  exact hk _ w h (Nx.of (Ah.refl _)) λf hf=>by injection hf with hf;subst hf;rfl
 ·have c: ¬d.par<0:=c
  have e:d.word st=({d with pr:=kQ d.pr d.par st},if Yu d.pr d.par st=true then some (.pulse (d.s.me,d.par,st)) else none):=by unfold Nd.word;rw[if_neg c]
  rw[e] at hk
  rw[Aq,Ac]
  have H:=h.drew
  have gd:=Ah.drew w
  generalize w.drew=w7 at*
  have hold: ∀{S:NP} {w':World},Ap S w7 w'→ ¬S (N 0)→ ∀j,j<28→w'.cell? (Addr.add ⟨N 0,0,none⟩ j)=some ((w7.cell? (Addr.add ⟨N 0,0,none⟩ j)).getD undef):=λu n j hj=>H.nb.hold u n j (by rw[Rx];exact hj)
  refine H.n0 17 (c:=.p) (x:=some ⟨N 3,0,none⟩) rfl ?_
  rw[Ac]
  refine H.n0 16 (c:=.p) (x:=some ⟨N 2,0,none⟩) rfl (Ea.cl H.lb ⟨⟨hold (Ah.refl _) (λx=>x) 16 (by decide),hold (Ah.refl _) (λx=>x) 17 (by decide),trivial⟩,?_⟩)
  refine P5.cl H.pb (λc0 w15 u15=>⟨⟨hold u15 (λx=>x) 16 (by decide),trivial⟩,?_⟩) λc1 w15 k15 u15=>⟨⟨hold u15 (λe=>(H.ne 3 0) e.symm) 16 (by decide),trivial⟩,?_⟩
  ·have e2:kQ d.pr d.par st=d.pr:=by unfold kQ;rw[if_neg (by rw[c0];decide)]
   have:=hk (.iface T.Dc (.agg #[iV 0,iV 0,iV 0])) w15 (by rw[e2];exact H.Ai u15) (Nx.of (gd.trans u15)) (λf hf=>by rw[if_neg (by rw[c0];decide)] at hf;cases hf)
   rw[if_neg (by rw[c0];decide)] at this
   exact this
  ·have e2:kQ d.pr d.par st={d.pr with waits:=true,waited:=0,to:=d.par,sent:=st}:=by unfold kQ;rw[if_pos c1]
   have:=hk (.iface T.Dc (.agg #[iV d.pr.me,iV d.par,iV st])) w15 (by rw[e2];exact H.Amj k15 u15) (Nx.pre gd (NW.nx 3 (by decide) u15)) (λf hf=>by rw[if_pos c1] at hf;injection hf with hf;subst hf;rw[hm];rfl)
   rw[if_pos c1] at this
   exact this
def Aia(b:Nat)(w:World):Nat:=match w.cell? ⟨b,2,none⟩ with|some (.int _ n)=>n.toNat|_=>0
theorem Apq{w:World}{b c:Nat}{js:List Jb}(h:bJ w b c 1 8 (jbL js)):Aia b w=js.length:=by
 obtain⟨rows,f,k1,_⟩:=h.ex
 unfold Aia
 rw[k1.cell]
 simp
theorem Afo{w:World}{O:NP}{N:NB}{bf be:Nat}{d:Nd}(h:NW w O N bf be d):Aia (N 8) w=d.jobs.length:=Apq h.je
theorem Nd.Ah0(d:Nd)(js:List Jb)(st:Int)(j:Jb):Nd.made {d with jobs:=js} st j=d.made st j:=by cases j<;>rfl
theorem Nd.As7{d:Nd}{st:Int}{j:Jb}{t:List Jb}{out:List Fr}(h:out.length<3):d.pop st (j::t) out=d.pop st t (dV out (d.made st j)):=by
 show(if out.length<3 then _ else _)=_
 rw[if_pos h]
theorem Nd.Asp{d:Nd}{st:Int}{js:List Jb}{out:List Fr}(h: ¬out.length<3):d.pop st js out=(js,out):=by
 cases js with
 |nil=>rfl
 |cons j t=>show(if out.length<3 then _ else _)=_;rw[if_neg h]
abbrev RSd:List (Bool×List CK):=[(false,[.sl]),(false,[KI])]
theorem Hm.n{w:World}{O:NP}{N:NB}{bf be:Nat}{d:Nd}{step j:Int}(h:NW w O N bf be d)(hG:Zf d){k:TR RSd→WP}
  (hk: ∀y w' O',NW w' O' N bf be (d.send step j).1→vJ w' w.heap.size (NO N O') y ((d.send step j).2.1.map Fr.by)→Nx (NO N O) w (NO N O') w'→k (((y.1,y.2.1,y.2.2),()),((d.send step j).2.2,()),()) w'):
  Ad prog F.Hm [pB (N 0),iV step,iV j] w true RSd k:=by
 refine Hm.ok ?_
 obtain⟨m0,m1,gf,gp,l1,l2,j1,j2⟩:=Lj.1 hG.s
 refine Hy.n h hG (dS (λc=>?_) λc0=>?_)
 ·have c:(d.Ui j).2≠0:=c
  have e:d.send step j=(d,[],(d.Ui j).2):=by unfold Nd.send;rw[if_pos c]
  rw[e] at hk
  exact hk (none,0,0) w O h (vJ.nil _ _ _) (Nx.of (Ah.refl _))
 have c0:(d.Ui j).2=0:=c0
 obtain⟨st,est⟩: ∃st,st=(d.Ui j).1:=⟨_,rfl⟩
 dsimp only
 rw[←est]
 rw[Ac]
 refine h.nb.cN 5 (cs:=K3i) (d.s.rnd,d.s.opn,d.s.own,()) rfl (Ou.cl gp λw6 u6=>En (λc=>?_) λcm=>?_)
 ·have c:miG d.s.rnd d.s.own step=false:=c
  have e:d.send step j=(d,[],0):=by unfold Nd.send;rw[if_neg (by omega),if_pos c]
  rw[e] at hk
  rw[c0]
  exact hk (none,0,0) w6 O (h.Ai u6) (vJ.nil _ _ _) (Nx.of u6)
 have cm:miG d.s.rnd d.s.own step=true:=cm
 have e:d.send step j=((d.sV st).1,(d.sV st).2,0):=by unfold Nd.send;rw[if_neg (by omega),if_neg (by rw[cm];decide),est]
 rw[e] at hk
 refine Ae λp w8 e8 k8 u8=>?_
 have g8:=u6.trans u8
 have H8:=h.Ai g8
 have pw:w.heap.size≤p:=by have:=u6.size;omega
 have npO: ¬NO N O p:=λhz=>by have:=(h.Ai u6).lt p hz;omega
 have X8:aK w8 (NO N O) p []:=aK.new k8 npO
 rw[Ac]
 refine H8.n0 15 (c:=.p) (x:=some ⟨bf,0,none⟩) rfl (Jw.cw H8.fw (loc:=st) λw12 O12 F12 x12=>?_)
 have H12:=H8.Asg F12 x12
 have N12:Nx (NO N O) w (NO N O12) w12:=Nx.pre g8 (NW.nxF (N:=N) x12)
 have X12:aK w12 (NO N O12) p []:=X8.upd x12.u (λz hz _ hO=>by have:=(h.Ai u6).lt z (.inr hO);omega) λz hz hq=>by
  rcases hq with hq|hq
  ·exact .inl hq
  ·rcases x12.sub z hq with y|y
   ·exact .inr y
   ·omega
 refine Ae λp13 w14 e14 k14 u14=>k14.E5 (encs KS (tS (btF d.f d.e d.l d.es st).1)) rfl rfl λw15 k15 u15=>?_
 have f15:Ah w12 w15:=Ah.fresh (Ah.refl _) u14 u15 e14
 have H15:=H12.Ai f15
 have X15:=X12.Ai f15
 rw[Ac]
 refine H15.n0 18 (c:=.p) (x:=some ⟨N 4,0,none⟩) rfl (Ie.cw H15.sb λw19 k19 u19=>?_)
 have H19:=H15.Asl k19 u19
 have N19:Nx (NO N O) w (NO N O12) w19:=(N12.Ai f15).trans (NW.nx (O:=O12) 4 (by decide) u19)
 have ge: ∀i,i<10→ ∀z,p≤z→ ¬z=N i:=λi hi z hz e=>by
  have:=(h.Ai u6).lt (N i) (.inl ⟨i,hi,rfl⟩);omega
 have X19:=X15.upd (Q':=NO N O12) u19 (λz hz _=>ge 4 (by decide) z hz) λz _ x=>x
 have lt12:=H12.lt
 have p13n: ∀i,i<10→p13≠N i:=λi hi e=>by have:=lt12 (N i) (.inl ⟨i,hi,rfl⟩);omega
 have q19:=k15.upd u19 (p13n 4 (by decide))
 refine Bh.by (λ_ W=>NW W O12 N bf be (d.Si st)∧aK W (NO N O12) p []∧Nx (NO N O) w (NO N O12) W∧Ar W p13 (encs KS (tS (btF d.f d.e d.l d.es st).1))) ?_ ?_
 ·rw[Ac]
  refine H19.n0 17 (c:=.p) (x:=some ⟨N 3,0,none⟩) rfl (Oe.cl H19.pb hG.pr λw26 k26 u26=>?_)
  have H26:=H19.Amj k26 u26
  have N26:Nx (NO N O) w (NO N O12) w26:=N19.trans (NW.nx (O:=O12) 3 (by decide) u26)
  have X26:=X19.upd (Q':=NO N O12) u26 (λz hz _=>ge 3 (by decide) z hz) λz _ x=>x
  have q26:=q19.upd u26 (p13n 3 (by decide))
  refine bQ (λc=>?_) λc=>?_
  ·have c:Wh d.pr=true:=c
   rw[Ac]
   refine H26.n0 16 (c:=.p) (x:=some ⟨N 2,0,none⟩) rfl (Ey.cl H26.lb λw30 k30 u30=>⟨?_,?_,?_,?_⟩)
   ·have:=H26.set2 (lev:= -1) (par:= -1) k30 u30
    unfold Nd.Si
    rw[if_pos c,if_pos c]
    exact this
   ·exact X26.upd (Q':=NO N O12) u30 (λz hz _=>ge 2 (by decide) z hz) λz _ x=>x
   ·exact N26.trans (NW.nx (O:=O12) 2 (by decide) u30)
   ·exact q26.upd u30 (p13n 2 (by decide))
  ·have c:Wh d.pr=false:=c
   refine⟨?_,X26,N26,q26⟩
   unfold Nd.Si
   rw[if_neg (by rw[c];decide),if_neg (by rw[c];decide)]
   exact H26
 rintro _ w22 ⟨H22,X22,N22,q22⟩ _
 refine q22.cA (cs:=KS) (tS (btF d.f d.e d.l d.es st).1) rfl ?_
 have eo:(btF d.f d.e d.l d.es st).2=(d.fZ st).isSome:=by
  unfold Nd.fZ
  cases (btF d.f d.e d.l d.es st).2<;>rfl
 dsimp only
 rw[eo]
 have lt22:=H22.lt
 have up: ∀{W W':World} {d2:Nd},NW W O12 N bf be d2→Nx (NO N O) w (NO N O12) W→Ap (λz=> ¬NO N O12 z∧p≤z) W W'→NW W' O12 N bf be d2∧Nx (NO N O) w (NO N O12) W':=λH NN u=>⟨H.upd u λz hz hS=>hS.1 hz,⟨Ap.trans NN.u u λi hi hS=>by have:=hS.2;omega,NN.sub⟩⟩
 refine Hz.n (out:=[]) (fo:=d.fZ st) X22 lt22 (λf hf=>?_) λw33 X33 u33=>?_
 ·unfold Nd.fZ at hf
  split at hf
  ·injection hf with hf;subst hf;rfl
  ·cases hf
 obtain⟨H33,N33⟩:=up H22 N22 u33
 refine Bh.by (λ_ W=> ∃js out,(d.Si st).pop st d.jobs (dV [] (d.fZ st))=(js,out)∧NW W O12 N bf be {d.Si st with jobs:=js}∧aK W (NO N O12) p (out.map Fr.by)∧Nx (NO N O) w (NO N O12) W) ?_ ?_
 ·refine⟨λ_ W=> ∃js out,(d.Si st).pop st d.jobs (dV [] (d.fZ st))=(d.Si st).pop st js out∧NW W O12 N bf be {d.Si st with jobs:=js}∧aK W (NO N O12) p (out.map Fr.by)∧Nx (NO N O) w (NO N O12) W,λ_ W=>Aia (N 8) W,⟨d.jobs,dV [] (d.fZ st),rfl,H33,X33,N33⟩,?_⟩
  rintro _ W ⟨js,out,ep,H,X,NN⟩ _
  refine X.len λy hy=>Cf (λc=>?_) λc=>?_
  ·have c:(y.2.1:Int)<3:=c
   rw[List.length_map] at hy
   have hlt:out.length<3:=by omega
   rw[Ac]
   refine H.n0 27 (c:=.p) (x:=some ⟨N 8,0,none⟩) rfl (Fg.cL (js:=js) (H.ne 8 9) H.je (λhj=>We rfl ⟨js,out,?_,H,X,NN⟩) λj t hj w44 R44 u44=>Le rfl ?_)
   ·rw[ep,hj];rfl
   ·have H44:=H.Apz (jobs:=t) R44 u44
    have N44:=NN.trans (NW.nx8 (O:=O12) u44)
    have X44:=X.upd (Q':=NO N O12) u44 (λz hz hn hS=>hn (by
     rcases hS with e|e
     ·exact .inl ⟨8,by decide,e.symm⟩
     ·exact .inl ⟨9,by decide,e.symm⟩)) λz _ x=>x
    have emade:Nd.made {d.Si st with jobs:=t} st j=(d.Si st).made st j:=Nd.Ah0 _ _ _ _
    have fin: ∀(v:Value) (w46:World),Ah w44 w46→(∀f,(d.Si st).made st j=some f→v=f.val)→Ad prog F.Hz [pB p,v,.bool ((d.Si st).made st j).isSome] w46 true [] λr47 w48=>(∃js out,(d.Si st).pop st d.jobs (dV [] (d.fZ st))=(d.Si st).pop st js out∧NW w48 O12 N bf be {d.Si st with jobs:=js}∧aK w48 (NO N O12) p (out.map Fr.by)∧Nx (NO N O) w (NO N O12) w48)∧Aia (N 8) w48<Aia (N 8) W:=λv w46 u46 hv=>by
     have H46:=H44.Ai u46
     refine Hz.n (out:=out) (fo:=(d.Si st).made st j) (X44.Ai u46) H46.lt hv λw48 X48 u48=>?_
     obtain⟨H48,N48⟩:=up H46 (N44.Ai u46) u48
     refine⟨⟨t,dV out ((d.Si st).made st j),?_,H48,X48,N48⟩,?_⟩
     ·rw[ep,hj,Nd.As7 hlt]
     ·rw[Afo H48,Afo H]
      show t.length<js.length
      rw[hj];simp
    refine Aoq j H44 (λhn v w46 u46=>?_) λf hf w46 u46=>?_
    ·rw[emade] at hn
     have:=fin v w46 u46 (λf hf=>by rw[hn] at hf;cases hf)
     rw[hn] at this;exact this
    ·rw[emade] at hf
     have:=fin f.val w46 u46 (λf' hf'=>by rw[hf] at hf';injection hf' with hf';rw[hf'])
     rw[hf] at this;exact this
  ·have c: ¬(y.2.1:Int)<3:=c
   rw[List.length_map] at hy
   exact⟨js,out,by rw[ep,Nd.Asp (by omega)],H,X,NN⟩
 ·rintro _ W ⟨js,out,ep,H,X,NN⟩ _
  have hs1:d.sV st=(d.Si st).Uy st (js,out):=by unfold Nd.sV;rw[ep]
  rw[hs1] at hk
  obtain⟨d2,ed2⟩: ∃d2:Nd,d2={d.Si st with jobs:=js}:=⟨_,rfl⟩
  rw[←ed2] at H
  have hs2:(d.Si st).Uy st (js,out)=if d2.syn=false∧out.length<3 then((d2.word st).1,dV out (d2.word st).2) else(d2,out):=by unfold Nd.Uy;rw[ed2]
  rw[hs2] at hk
  have hme:d2.pr.me=d2.s.me:=by
   rw[ed2]
   show(Xh d.pr).me=d.s.me
   rw[←hG.me]
   unfold Xh
   split
   ·rfl
   ·split
    ·rfl
    ·split<;>rfl
  refine Bh.by (λz W'=>z=(decide (d2.syn=false∧out.length<3),())∧Ah W W') ?_ ?_
  ·rw[Ac]
   refine H.n0 15 (c:=.p) (x:=some ⟨bf,0,none⟩) rfl (Az.cw H.fw λw55 u55=>En (λcs=>?_) λcs=>?_)
   ·have cs:d2.syn=false:=cs
    refine(X.Ai u55).len λy hy=>⟨?_,u55⟩
    rw[List.length_map] at hy
    rw[cs]
    by_cases hl:out.length<3
    ·rw[decide_eq_true (by omega:(y.2.1:Int)<3),decide_eq_true (⟨rfl,hl⟩:(false=false∧out.length<3))]
    ·rw[decide_eq_false (by omega: ¬(y.2.1:Int)<3),decide_eq_false (λh:false=false∧out.length<3=>hl h.2)]
   ·have cs:d2.syn=true:=cs
    refine⟨?_,u55⟩
    rw[cs];rfl
  ·rintro z W' ⟨rfl,g⟩ _
   have H':=H.Ai g
   have X':=X.Ai g
   have N':=NN.Ai g
   refine Cf (λc=>?_) λc=>?_
   ·rw[if_pos c] at hk
    refine Oh.n H' hme λv w58 H58 x58 hv=>?_
    have X58:=X'.upd (Q':=NO N O12) x58.u (λz _ hn hS=>hn hS) λz _ x=>x
    have N58:=N'.trans x58
    refine Hz.n (out:=out) (fo:=(d2.word st).2) X58 H58.lt hv λw60 X60 u60=>?_
    obtain⟨H60,N60⟩:=up H58 N58 u60
    exact X60.fE pw λy hy=>hk y w60 O12 H60 hy N60
   ·rw[if_neg c] at hk
    exact X'.fE pw λy hy=>hk y W' O12 H' hy N'
end Go.Proofs.YtppeepkmnijdpaaGreatDoor
