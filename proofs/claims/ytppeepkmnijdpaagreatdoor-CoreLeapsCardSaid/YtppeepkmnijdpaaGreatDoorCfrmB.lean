import Derived.Test.YtppeepkmnijdpaaGreatDoorCfrmA
import Derived.Test.YtppeepkmnijdpaaGreatDoorCfloP
import Derived.Test.YtppeepkmnijdpaaGreatDoorCsrc2
import Derived.Test.YtppeepkmnijdpaaGreatDoorCrefP
namespace Go.Proofs.YtppeepkmnijdpaaGreatDoor
open Go Go.Eng Tryz
open Go.IntKind (wrap)
set_option linter.unusedSimpArgs false
set_option linter.unusedVariables false
set_option maxRecDepth 100000
set_option maxHeartbeats 8000000
structure xC(w:World)(O:NP)(p:Nat)(xs:List Nat):Prop where
 ex: ∃s:Sl,Ar w p [.slice s.1 s.2.1 s.2.2]∧OwnB w 0 s xs∧ ∀a,s.1=some a→a.block≠p∧O a.block
 op:O p
 lt: ∀z,O z→z<w.heap.size
theorem xC.upd{S O:NP}{w w':World}{p:Nat}{xs:List Nat}(h:xC w O p xs)(u:Ap S w w')(hS: ∀z,O z→ ¬S z):xC w' O p xs:=by
 obtain⟨⟨s,k,o,d⟩,op,lt⟩:=h
 exact⟨⟨s,k.upd u (hS p op),o.upd u λa ha=>hS _ (d a ha).2,d⟩,op,λz hz=>Nat.lt_of_lt_of_le (lt z hz) u.size⟩
theorem xC.Ai{O:NP}{w w':World}{p:Nat}{xs:List Nat}(h:xC w O p xs)(u:Ah w w'):xC w' O p xs:=h.upd u λ_ _ x=>x
theorem xC.new{w:World}{p:Nat}(k:Ar w p [.slice none 0 0]):xC w (λz=>z=p) p []:=
 ⟨⟨(none,0,0),k,Dp.nil _ _ _ _,λa ha=>by cases ha⟩,rfl,λz hz=>by rw[hz];exact k.lt⟩
theorem Ap9{v m:Nat}(hm:m≤7):wrap .u8 (I7 .u64 (v:Int) (wrap .i64 (8*(m:Int))))=((v/256^m%256:Nat):Int):=by
 rw[Af (by unfold I64;omega),show 8*(m:Int)=((8*m:Nat):Int) by omega,dH (k:=.u64) (8*m) (by show 8*m≤64;omega),IntKind.wrap_u8,
  show((2^(8*m):Nat):Int)=((256^m:Nat):Int) by rw[Nat.pow_mul]]
 omega
abbrev RP:List (Bool×List CK):=[(false,[.p])]
theorem Bo.cl{O:NP}{p n v:Nat}{xs:List Nat}(hn:n≤8)(hx:xs.length≤900000){w:World}(hP:xC w O p xs){k:TR RP→WP}(h: ∀w' O',xC w' O' p (xs++dW n v)→Nx O w O' w'→k ((some ⟨p,0,none⟩,()),()) w'):
  Ad prog F.Bo [.pointer (some ⟨p,0,none⟩),iV (n:Int),.int .u64 (v:Int)] w false RP k:=by
 refine Bo.ok ?_
 refine Le rfl ?_
 have h0:(if 8<(if 0>(n:Int) then 0 else(n:Int)) then 8 else(if 0>(n:Int) then 0 else(n:Int)))=(n:Int):=by
  rw[if_neg (by omega),if_neg (by omega)]
 rw[h0]
 refine Aw.by (λz W=> ∃j:Nat,j≤n∧z=((n:Int)-1-j,())∧ ∃O',xC W O' p (xs++(dW n v).take j)∧Nx O w O' W) (λz=>(z.1+1).toNat) ⟨0,by omega,?_,O,by simpa using hP,Nx.of (Ah.refl _)⟩ ?_
 ·rw[Af (by unfold I64;omega)];simp
 ·rintro z W ⟨j,hj,rfl,O1,hP,hU⟩ _
  refine Cf (λc=>?_) λc=>?_
  ·have c:(n:Int)-1-j≥0:=c
   obtain⟨⟨s,kp,o,dj⟩,op,lt1⟩:=hP
   have hlt:p<W.heap.size:=kp.lt
   have hm:(n:Int)-1-j=((n-1-j:Nat):Int):=by omega
   show I8 W _
   rw[Aq,Ac]
   refine Ar.sl0 (w:=W.drew) kp ?_
   have e8:wrap .i64 (8*((n:Int)-1-j))=8*((n:Int)-1-j):=Af (by unfold I64;omega)
   rw[Nj (by show 0≤wrap .i64 (8*((n:Int)-1-j));rw[e8];omega)]
   show Bj [.int .u8 (wrap .u8 (I7 .u64 (v:Int) (wrap .i64 (8*((n:Int)-1-j)))))] _ _ _
   rw[hm,Ap9 (by omega)]
   refine Ae λq w8 e8' k8 g8=>⟨⟨kp.hold (w:=W.drew) g8 (λx=>x) 0 (by simp),trivial⟩,?_⟩
   have o8:OwnB w8 0 s (xs++(dW n v).take j):=o.Ai ((Ah.drew W).trans g8)
   have lp:(dW n v)[j]? =some (v/256^(n-1-j)%256):=by
    unfold dW
    rw[List.getElem?_map,List.getElem?_range (by omega)];rfl
   have ltk:(xs++(dW n v).take j).length=xs.length+j:=by rw[List.length_append,List.length_take,tX];omega
   refine S9 (s:=s) (x:=(some ⟨q,0,none⟩,1,1)) (base:=0) (e:=T.uint8) (size:=1) (n:=(xs++(dW n v).take j).length) (xs:=uY (xs++(dW n v).take j)) (news:=uY [v/256^(n-1-j)%256]) (by kernel_rfl) (by kernel_rfl) (by decide) o8 (k8.row rfl) (gY _) (by rw[ltk];show xs.length+j+1≤1000000000;omega) (Nat.zero_le _) λy w10 o10 u10 hb10=>⟨trivial,?_⟩
   have k10:Ar w10 p [.slice s.1 s.2.1 s.2.2]:=(kp.Ai ((Ah.drew W).trans g8)).upd u10 λ⟨a,ha,hb⟩=>(dj a ha).1 hb
   have g8':=(Ah.drew W).trans g8
   have U10:Ap (λz=> ∃a,s.1=some a∧a.block=z) W w10:=Ap.trans (Ap.Ed g8') u10 λ_ _ x=>x
   rw[Ac]
   refine k10.E5 [.slice y.1 y.2.1 y.2.2] rfl rfl λw12 k12 u12=>⟨trivial,⟨j+1,by omega,?_,λz=>O1 z∨ ∃a,y.1=some a∧a.block=z,⟨⟨y,k12,?_,?_⟩,.inl op,?_⟩,?_⟩,?_⟩
   ·show(wrap .i64 (((n-1-j:Nat):Int)-1),())=((n:Int)-1-((j+1:Nat):Int),())
    rw[Af (by unfold I64;omega)];congr 1;omega
   ·have e:xs++(dW n v).take (j+1)=(xs++(dW n v).take j)++[v/256^(n-1-j)%256]:=by
     rw[List.append_assoc,List.take_add_one,lp];rfl
    rw[e]
    have o10:Dp w10 0 T.uint8 1 y ((xs++(dW n v).take j).length+1) (uY (xs++(dW n v).take j)++uY [v/256^(n-1-j)%256]):=o10
    have o12:=o10.upd u12 λa ha h=>by
     rcases hb10 a ha with ⟨a0,h0,hb⟩|hb
     ·exact(dj a0 h0).1 (by omega)
     ·have:=g8'.size;omega
    unfold OwnB
    rw[Afu,List.length_append]
    exact o12
   ·intro a ha
    refine⟨?_,.inr ⟨a,ha,rfl⟩⟩
    rcases hb10 a ha with ⟨a0,h0,hb⟩|hb
    ·have:=(dj a0 h0).1;omega
    ·have:=g8'.size;omega
   ·rintro z (hz|⟨a,ha,rfl⟩)
    ·exact Nat.lt_of_lt_of_le (lt1 z hz) (Nat.le_trans U10.size u12.size)
    ·exact Nat.lt_of_lt_of_le (o10.blk ha).2.1 u12.size
   ·refine hU.trans ⟨Ap.trans (U10.mono λz ⟨a,ha,hb⟩=>hb▸(dj a ha).2) u12 λz hz h=>by rw[h];exact op,?_⟩
    rintro z (hz|⟨a,ha,rfl⟩)
    ·exact .inl hz
    ·rcases hb10 a ha with ⟨a0,h0,hb⟩|hb
     ·exact .inl (hb▸(dj a0 h0).2)
     ·exact .inr (Nat.le_trans g8'.size hb)
   ·show(wrap .i64 (((n-1-j:Nat):Int)-1)+1).toNat<(((n-1-j:Nat):Int)+1).toNat
    rw[Af (by unfold I64;omega)];omega
  ·have c: ¬(n:Int)-1-j≥0:=c
   have:j=n:=by omega
   subst this
   refine h W O1 ?_ hU
   rwa [List.take_of_length_le (by rw[tX];omega)] at hP
theorem Eg.cl{O:NP}{p:Nat}{xs:List Nat}(hx:xs.length≤900000){w:World}(hP:xC w O p xs){k:TR pX→WP}(h: ∀s' w',OwnB w' w.heap.size s' xs→Ah w w'→k (((s'.1,s'.2.1,s'.2.2),()),()) w'):
  Ad prog F.Eg [.pointer (some ⟨p,0,none⟩)] w false pX k:=by
 refine Eg.ok ?_
 obtain⟨⟨s,kp,o,_⟩,_,_⟩:=hP
 refine Le rfl ?_
 rw[Ac]
 refine kp.sl0 ?_
 have hl:=o.row.Ab2
 rw[List.length_map] at hl
 refine S9 (s:=(none,0,0)) (x:=s) (base:=w.heap.size) (e:=T.uint8) (size:=1) (n:=0) (xs:=[]) (news:=uY xs) (by kernel_rfl) (by kernel_rfl) (by decide) (Dp.nil _ _ _ _) o.row (gY _) (by omega) (Nat.le_refl _) λy w4 o4 u4 _=>?_
 refine h y w4 ?_ (u4.mono λz ⟨a,ha,_⟩=>by cases ha)
 have e:0+s.2.1=xs.length:=by omega
 rw[e] at o4
 exact o4
abbrev RPI:List (Bool×List CK):=[(false,[.p]),(false,[KI])]
abbrev Kt:List (Bool×List CK):=[(false,[KI])]
abbrev Vl:List (Bool×List CK):=[(false,[.b])]
abbrev ckC(d n:Int):List Value:=[iV d,.int .u32 (n%4294967296),iV n]
theorem Agq(n:Int):wrap .u32 n=n%4294967296:=by simp[wrap,IntKind.bits,IntKind.signed]
theorem Yx.cl{d:Int}(h0:0≤d)(h1:d≤10){w:World}{k:TR RPI→WP}(h: ∀b w',w.heap.size=b→Ar w' b (ckC d 0)→Ah w w'→k ((some ⟨b,0,none⟩,()),(0,()),()) w'):Ad prog F.Yx [iV d] w true RPI k:=by
 refine Yx.ok ?_
 refine Cf (λc=>absurd (show d<0 from c) (by omega)) λ_=>Cf (λc=>absurd (show d>10 from c) (by omega)) λ_=>?_
 exact Ae λb w' e k1 u=>h b w' e k1 u
theorem Lt.cl{b:Nat}{d n raw:Int}(h0:0≤raw)(h1:raw<4294967296){w:World}(hB:Ar w b (ckC d n)){k:TR []→WP}(h: ∀w',Ar w' b (ckC d raw)→Ap (λz=>z=b) w w'→k () w'):Ad prog F.Lt [.pointer (some ⟨b,0,none⟩),.int .u32 raw] w true [] k:=by
 refine Lt.ok ?_
 refine We rfl ?_
 rw[Ac,Af (by unfold I64;omega)]
 refine hB.sN 1 [.int .u32 raw] (by simp) rfl λw2 k2 u2=>?_
 rw[Ac]
 refine k2.sN 2 [iV raw] (by simp[splice]) rfl λw4 k4 u4=>h w4 ?_ (Ap.trans u2 u4 λ_ _ x=>x)
 have e:raw%4294967296=raw:=by omega
 unfold ckC
 rw[e];exact k4
theorem Ew.cl{b:Nat}{d n:Int}{w:World}(hB:Ar w b (ckC d n)){k:TR Kt→WP}(h:k ((n,()),()) w):Ad prog F.Ew [.pointer (some ⟨b,0,none⟩)] w false Kt k:=by
 refine Ew.ok ?_
 refine Le rfl ?_
 rw[Ac]
 exact hB.c1 2 rfl h
def aQ(d t:Int):Bool:=decide (1000-d≤t)&&decide (t≤1000+d)
theorem lT{d t:Int}:aQ d t=true↔1000-d≤t∧t≤1000+d:=by unfold aQ;simp
theorem Apx{d t:Int}(h: ¬(1000-d≤t∧t≤1000+d)):aQ d t=false:=by
 cases hb:aQ d t
 ·rfl
 ·exact absurd (lT.1 hb) h
theorem Ht.cl{b:Nat}{d n t:Int}(h0:0≤d)(h1:d≤10){w:World}(hB:Ar w b (ckC d n)){k:TR Vl→WP}(h:k ((aQ d t,()),()) w):Ad prog F.Ht [.pointer (some ⟨b,0,none⟩),iV t] w false Vl k:=by
 refine Ht.ok ?_
 refine We rfl ?_
 rw[Ac]
 refine hB.c0 rfl ?_
 rw[Af (by unfold I64;omega)]
 refine Cf (λc=>?_) λc=>?_
 ·have c:t≥1000-d:=c
  rw[Ac]
  refine hB.c0 rfl ?_
  rw[Af (by unfold I64;omega)]
  have e:decide (t≤1000+d)=aQ d t:=by unfold aQ;rw[decide_eq_true c,Bool.true_and]
  rw[e];exact h
 ·have c: ¬t≥1000-d:=c
  rw[Apx (by omega)] at h;exact h
def goT(d n t:Int):Int:=if aQ d t=true then if n+t>1125899906842624 then 8 else 0 else 1
theorem Rz.cl{n t:Int}(h0:0≤n)(h1:n≤1125899906842624)(t0:0≤t)(t1:t<4294967296){w:World}{k:TR [(false,[KI]),(false,[.b])]→WP}(h:k (if n+t>1125899906842624 then((0,()),(false,()),()) else((n+t,()),(true,()),())) w):
  Ad prog F.Rz [iV n,.int .u32 (wrap .u32 (n%4294967296+wrap .u32 t))] w true [(false,[KI]),(false,[.b])] k:=by
 refine Rz.ok ?_
 refine Cf (λc=>absurd (show n<0 from c) (by omega)) λ_=>Cf (λc=>absurd (show n>_ from c) (by omega)) λ_=>?_
 have e:wrap .i64 (n+wrap .i64 (wrap .u32 (wrap .u32 (n%4294967296+wrap .u32 t)-wrap .u32 n)))=n+t:=by
  have e1:wrap .u32 (wrap .u32 (n%4294967296+wrap .u32 t)-wrap .u32 n)=t:=by rw[Agq,Agq,Agq,Agq];omega
  rw[e1,Af (n:=t) (by unfold I64;omega),Af (by unfold I64;omega)]
 rw[e]
 refine Cf (λc=>?_) λc=>?_
 ·rw[if_pos c] at h;exact h
 ·rw[if_neg c] at h;exact h
theorem Qb.cl{b:Nat}{d n t:Int}(h0:0≤d)(h1:d≤10)(n0:0≤n)(n1:n≤1125899906842624){w:World}(hB:Ar w b (ckC d n)){k:TR Kt→WP}
  (h: ∀w',Ar w' b (ckC d (if goT d n t=0 then n+t else n))→Ap (λz=>z=b) w w'→k ((goT d n t,()),()) w'):Ad prog F.Qb [.pointer (some ⟨b,0,none⟩),iV t] w false Kt k:=by
 refine Qb.ok ?_
 refine Le rfl (Ht.cl h0 h1 hB ?_)
 unfold goT at h
 refine En (λc=>?_) λc=>?_
 ·have c:aQ d t=false:=c
  rw[c] at h
  exact h w (by simpa using hB) (Ap.refl _ _)
 ·have c:aQ d t=true:=c
  rw[c,if_pos rfl] at h
  have ft:=lT.1 c
  rw[Aq,Ac]
  refine hB.drew.c1 2 rfl ?_
  rw[Ac]
  refine hB.drew.c1 1 (c:=.i .u32) (x:=n%4294967296) rfl (Rz.cl n0 n1 (by omega) (by omega) ⟨⟨hB.hold (w:=w.drew) (Ah.refl w.drew) (λx=>x) 1 (by simp),trivial⟩,?_⟩)
  by_cases ho:n+t>1125899906842624
  ·rw[if_pos ho]
   rw[if_pos ho] at h
   exact We rfl (h w.drew (by simpa using hB.drew) (Ap.drew (Ap.refl _ _)))
  ·rw[if_neg ho]
   rw[if_neg ho] at h
   refine Le rfl ?_
   rw[Ac]
   refine hB.drew.c1 1 (c:=.i .u32) (x:=n%4294967296) rfl ?_
   rw[Ac]
   refine hB.drew.sN 1 [_] (by simp) rfl λw13 k13 u13=>?_
   rw[Ac]
   refine k13.sN 2 [_] (by simp[splice]) rfl λw15 k15 u15=>h w15 ?_ (Ap.trans (Ap.drew (Ap.refl _ w)) (Ap.trans u13 u15 λ_ _ x=>x) λ_ _ x=>x)
   have e:wrap .u32 (n%4294967296+wrap .u32 t)=(n+t)%4294967296:=by rw[Agq,Agq];omega
   have k15:Ar w15 b [iV d,.int .u32 (wrap .u32 (n%4294967296+wrap .u32 t)),iV (n+t)]:=k15
   rw[e] at k15
   exact k15
abbrev lvC(me lev par:Int):List Value:=[iV me,iV lev,iV par]
theorem V8.cl{me:Int}(h0:0≤me)(h1:me<64){w:World}{k:TR RPI→WP}(h: ∀b w',w.heap.size=b→Ar w' b (lvC me (-1) (-1))→Ah w w'→k ((some ⟨b,0,none⟩,()),(0,()),()) w'):Ad prog F.V8 [iV me] w true RPI k:=by
 refine V8.ok ?_
 refine Cf (λc=>absurd (show me<0 from c) (by omega)) λ_=>Cf (λc=>absurd (show me≥64 from c) (by omega)) λ_=>?_
 exact Ae λb w' e k1 u=>h b w' e k1 u
theorem Ey.cl{b:Nat}{me lev par:Int}{w:World}(hB:Ar w b (lvC me lev par)){k:TR []→WP}(h: ∀w',Ar w' b (lvC me (-1) (-1))→Ap (λz=>z=b) w w'→k () w'):Ad prog F.Ey [.pointer (some ⟨b,0,none⟩)] w true [] k:=by
 refine Ey.ok ?_
 refine We rfl ?_
 rw[Ac]
 refine hB.sN 1 [_] (by simp) rfl λw2 k2 u2=>?_
 rw[Ac]
 exact k2.sN 2 [_] (by simp[splice]) rfl λw4 k4 u4=>h w4 k4 (Ap.trans u2 u4 λ_ _ x=>x)
theorem Ea.cl{b:Nat}{me lev par:Int}{w:World}(hB:Ar w b (lvC me lev par)){k:TR Kt→WP}(h:k ((par,()),()) w):Ad prog F.Ea [.pointer (some ⟨b,0,none⟩)] w false Kt k:=by
 refine Ea.ok ?_
 refine Le rfl ?_
 rw[Ac]
 exact hB.c1 2 rfl h
theorem Ik.cl{b:Nat}{me lev par:Int}{w:World}(hB:Ar w b (lvC me lev par)){k:TR Kt→WP}(h:k ((lev,()),()) w):Ad prog F.Ik [.pointer (some ⟨b,0,none⟩)] w false Kt k:=by
 refine Ik.ok ?_
 refine Le rfl ?_
 rw[Ac]
 exact hB.c1 1 rfl h
structure Pr where
 me:Int
 to:Int
 sent:Int
 waits:Bool
 waited:Int
 tries:Int
 rest:Int
abbrev prC(p:Pr):List Value:=[iV p.me,iV p.to,iV p.sent,.bool p.waits,iV p.waited,iV p.tries,iV p.rest]
def prN(me:Int):Pr:=⟨me,0,0,false,0,0,0⟩
theorem Yz.cl{me:Int}(h0:0≤me)(h1:me<64){w:World}{k:TR RPI→WP}(h: ∀b w',w.heap.size=b→Ar w' b (prC (prN me))→Ah w w'→k ((some ⟨b,0,none⟩,()),(0,()),()) w'):Ad prog F.Yz [iV me] w true RPI k:=by
 refine Yz.ok ?_
 refine Cf (λc=>absurd (show me<0 from c) (by omega)) λ_=>Cf (λc=>absurd (show me≥64 from c) (by omega)) λ_=>?_
 exact Ae λb w' e k1 u=>h b w' e k1 u
theorem Om.cl{b:Nat}{p:Pr}{w:World}(hB:Ar w b (prC p)){k:TR []→WP}(h: ∀w',Ar w' b (prC (prN p.me))→Ap (λz=>z=b) w w'→k () w'):Ad prog F.Om [.pointer (some ⟨b,0,none⟩)] w true [] k:=by
 refine Om.ok ?_
 refine We rfl ?_
 rw[Ac]
 refine hB.c0 rfl ?_
 rw[Ac]
 exact hB.E5 _ rfl rfl λw4 k4 u4=>h w4 k4 u4
theorem Nh.cl{b:Nat}{p:Pr}{w:World}(hB:Ar w b (prC p)){k:TR Vl→WP}(h:k ((p.waits,()),()) w):Ad prog F.Nh [.pointer (some ⟨b,0,none⟩)] w false Vl k:=by
 refine Nh.ok ?_
 refine We rfl ?_
 rw[Ac]
 exact hB.c1 3 rfl h
def plG(a b c:Int):Bool:=decide (1≤a)&&decide (a≤64)&&decide (1≤b)&&decide (b≤a)&&decide (0≤c)&&decide (c<a)
theorem lQ{a b c:Int}:plG a b c=true↔1≤a∧a≤64∧1≤b∧b≤a∧0≤c∧c<a:=by unfold plG;simp[and_assoc]
theorem Aq9{a b c:Int}(h: ¬(1≤a∧a≤64∧1≤b∧b≤a∧0≤c∧c<a)):plG a b c=false:=by
 cases hb:plG a b c
 ·rfl
 ·exact absurd (lQ.1 hb) h
theorem Gn.cl{a b c:Int}{w:World}{k:TR Vl→WP}(h: ∀w',Ah w w'→k ((plG a b c,()),()) w'):Ad prog F.Gn [.agg #[iV a,iV b,iV c]] w false Vl k:=by
 refine Gn.ok ?_
 refine Ae λp w4 e k4 u4=>?_
 have no: ¬(1≤a∧a≤64∧1≤b∧b≤a∧0≤c∧c<a)→k ((false,()),()) w4:=λhn=>by have:=h w4 u4;rw[Aq9 hn] at this;exact this
 refine k4.c0 rfl (Cf (λc1=>k4.c0 rfl (Cf (λc2=>k4.c1 1 rfl (Cf (λc3=>k4.c1 1 rfl (k4.c0 rfl (Cf (λc4=>k4.c1 2 rfl (Cf (λc5=>k4.c1 2 rfl (k4.c0 rfl ?_)) λn=>no λq=>n q.2.2.2.2.1)) λn=>no λq=>n q.2.2.2.1))) λn=>no λq=>n q.2.2.1)) λn=>no λq=>n q.2.1)) λn=>no λq=>n q.1)
 have:=h w4 u4
 have e:plG a b c=decide (c<a):=by
  unfold plG
  rw[decide_eq_true (show 1≤a from c1),decide_eq_true (show a≤64 from c2),decide_eq_true (show 1≤b from c3),decide_eq_true (show b≤a from c4),decide_eq_true (show 0≤c from c5)];rfl
 rw[e] at this
 exact this
def miG(a c step:Int):Bool:=decide (0≤step)&&(step%a==c)
theorem Ou.cl{a b c step:Int}(hg:plG a b c=true){w:World}{k:TR Vl→WP}(h: ∀w',Ah w w'→k ((miG a c step,()),()) w'):Ad prog F.Ou [.agg #[iV a,iV b,iV c],iV step] w false Vl k:=by
 refine Ou.ok ?_
 have hp:=lQ.1 hg
 refine Ae λp w4 e k4 u4=>?_
 rw[Aq]
 refine k4.drew.cA (cs:=[KI,KI,KI]) (a,b,c,()) rfl (Gn.cl λw8 u8=>⟨trivial,?_⟩)
 have g8:=(u4.trans (Ah.drew _)).trans u8
 rw[hg]
 have k8:=k4.drew.Ai u8
 refine We rfl (Cf (λc1=>k8.c0 rfl ?_) λc1=>?_)
 ·rw[Gm (by omega)]
  refine k8.c1 2 rfl ?_
  have:=h w8 g8
  have c1:step≥0:=c1
  have e:miG a c step=(Int.tmod step a==c):=by
   unfold miG;rw[decide_eq_true (show 0≤step from c1),Bool.true_and,Int.tmod_eq_emod_of_nonneg c1]
  rw[e] at this
  exact this
 ·have:=h w8 g8
  have c1: ¬step≥0:=c1
  have e:miG a c step=false:=by unfold miG;rw[decide_eq_false (by omega),Bool.false_and]
  rw[e] at this
  exact this
abbrev RSI:List (Bool×List CK):=[(false,[.sl]),(false,[KI])]
def Fds(fs:List E3):Prop:=fs.length≤100∧ ∀e∈fs,0≤e.1∧e.1≤8∧0≤e.2.1∧e.2.1≤1125899906842624
theorem Ac4(fs:List E3):pG (jY fs):=by
 intro x hx
 simp only[jY,List.mem_flatMap] at hx
 obtain⟨f,_,h⟩:=hx
 exact Ao1 x h
theorem Aj0{fs:List E3}(h: ∀e∈fs,0≤e.1∧e.1≤8):(jY fs).length≤fs.length*8:=by
 unfold jY
 induction fs with
 |nil=>simp
 |cons f fs ih=>
  rw[List.flatMap_cons,List.length_append,tX,List.length_cons]
  have:=h f (by simp)
  have:=ih λe he=>h e (by simp[he])
  omega
theorem Aql{n:Int}(h:0≤n)(h2:n≤1125899906842624):wrap .u64 n=((n.toNat:Nat):Int):=by rw[I9 (by unfold Tn;omega)];omega
theorem Aov(e:E3)(h:0≤e.2.1∧e.2.1≤1125899906842624):jY [e]=dW e.1.toNat e.2.1.toNat:=by
 unfold jY
 rw[List.flatMap_cons,List.flatMap_nil,List.append_nil,Aql h.1 h.2,Int.toNat_natCast]
theorem Ap8(a b:List E3):jY (a++b)=jY a++jY b:=by unfold jY;rw[List.flatMap_append]
theorem bC{q:Sl}{fs:List E3}{p kd:Nat}{O:NP}{w10 w:World}(hF:Fds fs)(hE:Nu w10 q fs)(hq: ∀a,q.1=some a→ ¬O a.block)(hk:kd<256)(hP:xC w10 O p [kd])(hw:Ah w w10)(hO: ∀z,O z→w.heap.size≤z){R:TR RSI→WP}(h: ∀(s:Sl) w',OwnB w' w.heap.size s (wB kd fs)→Ah w w'→R (((s.1,s.2.1,s.2.2),()),(0,()),()) w'):
  Aw (λ(self11:((Int)×Unit)→WP) (z12:(Int)×Unit) w13=> ∀_:Nat→Value,
Aj (decide (z12.1<(q.2.1:Int))) (
Hf q.1 q.2.1 z12.1 λa14=>
Bc [KI,KI,KI] (a14.add (z12.1.toNat*3)) 0 w13 λx15=>
Bj [iV 0,iV 0,iV 0] T.Bf w13 λp16 w17=>
Au [iV x15.1,iV x15.2.1,iV x15.2.2.1] p16 0 w17 λw18=>
ld1 KI p16 w18 λx19=>
ld1 KI (p16.add 1) w18 λx20=>
Ad prog F.Bo [.pointer (some ⟨p,0,none⟩),iV x19,.int .u64 (wrap .u64 x20)] w18 false [(false,[.p])] λr21 w22=>
self11 (wrap .i64 (z12.1+1),()) w22) (
Ad prog F.Eg [.pointer (some ⟨p,0,none⟩)] w13 false [(false,[.sl])] λr23 w24=>
Ad prog F.Qh [.slice r23.1.1.1 r23.1.1.2.1 r23.1.1.2.2] w24 false [(false,[.sl])] λr25 w26=>
R (((r25.1.1.1,r25.1.1.2.1,r25.1.1.2.2),()),(0,()),()) w26)) (0,()) w10:=by
 have hl:=hE.len
 have h100:=hF.1
 have h1: ∀e∈fs,0≤e.1∧e.1≤8:=λe he=>⟨(hF.2 e he).1,(hF.2 e he).2.1⟩
 refine Aw.by (λz W=> ∃i:Nat,i≤fs.length∧z=((i:Int),())∧ ∃O',xC W O' p (kd::jY (fs.take i))∧Nx O w10 O' W∧Nu W q fs∧(∀a,q.1=some a→ ¬O' a.block)) (λz=>((fs.length:Int)-z.1).toNat) ⟨0,by omega,rfl,O,hP,Nx.of (Ah.refl _),hE,hq⟩ ?_
 rintro z W ⟨i,hi,rfl,O',hP,hX,hE,hq⟩ _
 have hlen:(kd::jY (fs.take i)).length≤900:=by
  have h2:=Aj0 (fs:=fs.take i) λe he=>h1 e (List.mem_of_mem_take he)
  have h3:=hF.1
  rw[List.length_take] at h2
  rw[List.length_cons];omega
 refine Cf (λc=>?_) λc=>?_
 ·have c:(i:Int)<(q.2.1:Int):=c
  have hi':i<fs.length:=by omega
  have he:fs[i]? =some fs[i]:=List.getElem?_eq_getElem hi'
  have hm:fs[i]∈fs:=List.getElem_mem hi'
  generalize hge:fs[i]=e at he hm
  have hf:=hF.2 e hm
  refine hE.ix (z:=(i:Int)) rfl he λad ha=>hE.Bc ha he ?_
  refine Ae λb w17 e17 k17 u17=>k17.E5 [_,_,_] rfl rfl λw18 k18 u18=>k18.c0 (c:=KI) (x:=e.1) rfl (k18.c1 1 (c:=KI) (x:=e.2.1) rfl ?_)
  have g18:Ah W w18:=Ah.fresh (Ah.refl _) u17 u18 e17
  rw[Aql hf.2.2.1 hf.2.2.2,show e.1=((e.1.toNat:Nat):Int) by omega]
  refine Bo.cl (by omega) (by omega) (hP.Ai g18) λw22 O2 P22 X22=>⟨⟨i+1,by omega,?_,O2,?_,(hX.Ai g18).trans X22,?_,?_⟩,?_⟩
  ·show(wrap .i64 ((i:Int)+1),())=_
   rw[Af (by unfold I64;omega)];rfl
  ·have e2:fs.take (i+1)=fs.take i++[e]:=by rw[List.take_add_one,he];rfl
   rw[e2,Ap8,Aov e ⟨hf.2.2.1,hf.2.2.2⟩,←List.cons_append]
   exact P22
  ·exact Row.upd (hE.Ai g18) X22.u hq
  ·intro a ha h2
   rcases X22.sub _ h2 with h3|h3
   ·exact hq a ha h3
   ·obtain⟨v,hv⟩: ∃v,w18.cell? (a.add 0)=some v:=by
     have hne:flat3 fs≠[]:=by
      intro h0
      have:=Qw fs
      rw[h0] at this;simp at this;omega
     obtain⟨a',ha',hc⟩:=(hE.Ai g18).at_ hne
     rw[ha] at ha';cases ha'
     have hl0:0<(flat3 fs).length:=by rw[Qw];omega
     exact⟨_,hc 0 _ (List.getElem?_eq_getElem hl0)⟩
    have:=cell_lt hv
    rw[add_block] at this
    omega
  ·show((fs.length:Int)-wrap .i64 ((i:Int)+1)).toNat<((fs.length:Int)-(i:Int)).toNat
   rw[Af (by unfold I64;omega)];omega
 ·have c: ¬(i:Int)<(q.2.1:Int):=c
  have:i=fs.length:=by omega
  subst this
  rw[List.take_length] at hP hlen
  have gW:Ah w W:=Ap.trans hw hX.u λz hz h=>by have:=hO z h;omega
  refine Eg.cl (by omega) hP λs w24 o24 g24=>?_
  have hb:pG (kd::jY fs):=by
   intro x hx
   rcases List.mem_cons.1 hx with rfl|hx
   ·exact hk
   ·exact Ac4 fs x hx
  refine Qh.cl hb o24.row (by omega) λs' w26 o26 g26=>h s' w26 (Dp.gJ o26 λa ha=>?_) ((gW.trans g24).trans g26)
  have:=(o26.blk ha).1
  have:=(gW.trans g24).size
  omega
theorem iH{fs:List E3}(h:okF fs=true)(hl:fs.length≤100)(hs: ∀e∈fs,0≤e.1∧e.1≤8∧e.2.2≤1125899906842624):Fds fs:=by
 unfold okF at h
 rw[List.all_eq_true] at h
 exact⟨hl,λe he=>by have:=dD.1 (h e he);have:=hs e he;omega⟩
def flW(me:Int):List E3:=[(1,me,63)]
abbrev vW(me:Int):Value:=.agg #[iV me]
theorem Ej.clF{me:Int}{w:World}{k:TR pX→WP}(h: ∀(q:Sl) w',Ah w w'→Nu w' q (flW me)→(∀a,q.1=some a→w.heap.size≤a.block)→k ((q,()),()) w'):Ad prog F.Ej [vW me] w false pX k:=by
 refine Ej.ok ?_
 refine Ae λp w2 e2 k2 u2=>k2.c0 rfl (Dn.cl λw5 u5=>Ae λp6 w7 e7 k7 u7=>h (some ⟨p6,0,none⟩,1,1) w7 ((u2.trans u5).trans u7) (bF k7 rfl rfl) λa ha=>by cases ha;exact Nat.le_trans (u2.trans u5).size (Nat.le_of_eq e7))
end Go.Proofs.YtppeepkmnijdpaaGreatDoor
