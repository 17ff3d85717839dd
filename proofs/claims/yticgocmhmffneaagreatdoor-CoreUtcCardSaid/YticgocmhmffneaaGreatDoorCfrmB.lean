import Derived.Test.YticgocmhmffneaaGreatDoorCfrmA
import Derived.Test.YticgocmhmffneaaGreatDoorCfloP
import Derived.Test.YticgocmhmffneaaGreatDoorCsrc2
import Derived.Test.YticgocmhmffneaaGreatDoorCrefP
namespace Go.Proofs.YticgocmhmffneaaGreatDoor
open Go Go.Eng Tryz
open Go.IntKind (wrap)
set_option linter.unusedSimpArgs false
set_option linter.unusedVariables false
set_option maxRecDepth 100000
set_option maxHeartbeats 8000000
structure sG(w:World)(O:NP)(p:Nat)(xs:List Nat):Prop where
 ex: ∃s:Sl,Az w p [.slice s.1 s.2.1 s.2.2]∧OwnB w 0 s xs∧ ∀a,s.1=some a→a.block≠p∧O a.block
 op:O p
 lt: ∀z,O z→z<w.heap.size
theorem sG.upd{S O:NP}{w w':World}{p:Nat}{xs:List Nat}(h:sG w O p xs)(u:Am S w w')(hS: ∀z,O z→ ¬S z):sG w' O p xs:=by
 obtain⟨⟨s,k,o,d⟩,op,lt⟩:=h
 exact⟨⟨s,k.upd u (hS p op),o.upd u λa ha=>hS _ (d a ha).2,d⟩,op,λz hz=>Nat.lt_of_lt_of_le (lt z hz) u.size⟩
theorem sG.Ai{O:NP}{w w':World}{p:Nat}{xs:List Nat}(h:sG w O p xs)(u:Af w w'):sG w' O p xs:=h.upd u λ_ _ x=>x
theorem sG.new{w:World}{p:Nat}(k:Az w p [.slice none 0 0]):sG w (λz=>z=p) p []:=
 ⟨⟨(none,0,0),k,Gs.nil _ _ _ _,λa ha=>by cases ha⟩,rfl,λz hz=>by rw[hz];exact k.lt⟩
theorem Akq{v m:Nat}(hm:m≤7):wrap .u8 (Qv .u64 (v:Int) (wrap .i64 (8*(m:Int))))=((v/256^m%256:Nat):Int):=by
 rw[Ah (by unfold I64;omega),show 8*(m:Int)=((8*m:Nat):Int) by omega,bJ (k:=.u64) (8*m) (by show 8*m≤64;omega),IntKind.wrap_u8,
  show((2^(8*m):Nat):Int)=((256^m:Nat):Int) by rw[Nat.pow_mul]]
 omega
abbrev RP:List (Bool×List CK):=[(false,[.p])]
theorem Bv.cl{O:NP}{p n v:Nat}{xs:List Nat}(hn:n≤8)(hx:xs.length≤900000){w:World}(hP:sG w O p xs){k:TR RP→WP}(h: ∀w' O',sG w' O' p (xs++Ym n v)→Nx O w O' w'→k ((some ⟨p,0,none⟩,()),()) w'):
  Ae prog F.Bv [.pointer (some ⟨p,0,none⟩),iV (n:Int),.int .u64 (v:Int)] w false RP k:=by
 refine Bv.ok ?_
 unfold Bv.wp
 refine Jl rfl ?_
 have h0:(if 8<(if 0>(n:Int) then 0 else(n:Int)) then 8 else(if 0>(n:Int) then 0 else(n:Int)))=(n:Int):=by
  rw[if_neg (by omega),if_neg (by omega)]
 rw[h0]
 refine Ci.by (λz W=> ∃j:Nat,j≤n∧z=((n:Int)-1-j,())∧ ∃O',sG W O' p (xs++(Ym n v).take j)∧Nx O w O' W) (λz=>(z.1+1).toNat) ⟨0,by omega,?_,O,by simpa using hP,Nx.of (Af.refl _)⟩ ?_
 ·rw[Ah (by unfold I64;omega)];simp
 ·rintro z W ⟨j,hj,rfl,O1,hP,hU⟩ _
  refine Dx (λc=>?_) λc=>?_
  ·have c:(n:Int)-1-j≥0:=c
   obtain⟨⟨s,kp,o,dj⟩,op,lt1⟩:=hP
   have hlt:p<W.heap.size:=kp.lt
   have hm:(n:Int)-1-j=((n-1-j:Nat):Int):=by omega
   show Jg W _
   rw[Be,Ac]
   refine Az.sl0 (w:=W.drew) kp ?_
   have e8:wrap .i64 (8*((n:Int)-1-j))=8*((n:Int)-1-j):=Ah (by unfold I64;omega)
   rw[Vg (by show 0≤wrap .i64 (8*((n:Int)-1-j));rw[e8];omega)]
   show Bf [.int .u8 (wrap .u8 (Qv .u64 (v:Int) (wrap .i64 (8*((n:Int)-1-j)))))] _ _ _
   rw[hm,Akq (by omega)]
   refine Ad λq w8 e8' k8 g8=>⟨⟨kp.hold (w:=W.drew) g8 (λx=>x) 0 (by simp),trivial⟩,?_⟩
   have o8:OwnB w8 0 s (xs++(Ym n v).take j):=o.Ai ((Af.drew W).trans g8)
   have lp:(Ym n v)[j]? =some (v/256^(n-1-j)%256):=by
    unfold Ym
    rw[List.getElem?_map,List.getElem?_range (by omega)];rfl
   have ltk:(xs++(Ym n v).take j).length=xs.length+j:=by rw[List.length_append,List.length_take,Zk];omega
   refine Vx (s:=s) (x:=(some ⟨q,0,none⟩,1,1)) (base:=0) (e:=T.uint8) (size:=1) (n:=(xs++(Ym n v).take j).length) (xs:=dV (xs++(Ym n v).take j)) (news:=dV [v/256^(n-1-j)%256]) (by kernel_rfl) (by kernel_rfl) (by decide) o8 (k8.row rfl) (Za _) (by rw[ltk];show xs.length+j+1≤1000000000;omega) (Nat.zero_le _) λy w10 o10 u10 hb10=>⟨trivial,?_⟩
   have k10:Az w10 p [.slice s.1 s.2.1 s.2.2]:=(kp.Ai ((Af.drew W).trans g8)).upd u10 λ⟨a,ha,hb⟩=>(dj a ha).1 hb
   have g8':=(Af.drew W).trans g8
   have U10:Am (λz=> ∃a,s.1=some a∧a.block=z) W w10:=Am.trans (Am.Bj g8') u10 λ_ _ x=>x
   rw[Ac]
   refine k10.Fg [.slice y.1 y.2.1 y.2.2] rfl rfl λw12 k12 u12=>⟨trivial,⟨j+1,by omega,?_,λz=>O1 z∨ ∃a,y.1=some a∧a.block=z,⟨⟨y,k12,?_,?_⟩,.inl op,?_⟩,?_⟩,?_⟩
   ·show(wrap .i64 (((n-1-j:Nat):Int)-1),())=((n:Int)-1-((j+1:Nat):Int),())
    rw[Ah (by unfold I64;omega)];congr 1;omega
   ·have e:xs++(Ym n v).take (j+1)=(xs++(Ym n v).take j)++[v/256^(n-1-j)%256]:=by
     rw[List.append_assoc,List.take_add_one,lp];rfl
    rw[e]
    have o10:Gs w10 0 T.uint8 1 y ((xs++(Ym n v).take j).length+1) (dV (xs++(Ym n v).take j)++dV [v/256^(n-1-j)%256]):=o10
    have o12:=o10.upd u12 λa ha h=>by
     rcases hb10 a ha with ⟨a0,h0,hb⟩|hb
     ·exact(dj a0 h0).1 (by omega)
     ·have:=g8'.size;omega
    unfold OwnB
    rw[oV,List.length_append]
    exact o12
   ·intro a ha
    refine⟨?_,.inr ⟨a,ha,rfl⟩⟩
    rcases hb10 a ha with ⟨a0,h0,hb⟩|hb
    ·have:=(dj a0 h0).1;omega
    ·have:=g8'.size;omega
   ·rintro z (hz|⟨a,ha,rfl⟩)
    ·exact Nat.lt_of_lt_of_le (lt1 z hz) (Nat.le_trans U10.size u12.size)
    ·exact Nat.lt_of_lt_of_le (o10.blk ha).2.1 u12.size
   ·refine hU.trans ⟨Am.trans (U10.mono λz ⟨a,ha,hb⟩=>hb▸(dj a ha).2) u12 λz hz h=>by rw[h];exact op,?_⟩
    rintro z (hz|⟨a,ha,rfl⟩)
    ·exact .inl hz
    ·rcases hb10 a ha with ⟨a0,h0,hb⟩|hb
     ·exact .inl (hb▸(dj a0 h0).2)
     ·exact .inr (Nat.le_trans g8'.size hb)
   ·show(wrap .i64 (((n-1-j:Nat):Int)-1)+1).toNat<(((n-1-j:Nat):Int)+1).toNat
    rw[Ah (by unfold I64;omega)];omega
  ·have c: ¬(n:Int)-1-j≥0:=c
   have:j=n:=by omega
   subst this
   refine h W O1 ?_ hU
   rwa [List.take_of_length_le (by rw[Zk];omega)] at hP
theorem Fj.cl{O:NP}{p:Nat}{xs:List Nat}(hx:xs.length≤900000){w:World}(hP:sG w O p xs){k:TR jG→WP}(h: ∀s' w',OwnB w' w.heap.size s' xs→Af w w'→k (((s'.1,s'.2.1,s'.2.2),()),()) w'):
  Ae prog F.Fj [.pointer (some ⟨p,0,none⟩)] w false jG k:=by
 refine Fj.ok ?_
 unfold Fj.wp
 obtain⟨⟨s,kp,o,_⟩,_,_⟩:=hP
 refine Jl rfl ?_
 rw[Ac]
 refine kp.sl0 ?_
 have hl:=o.row.Abk
 rw[List.length_map] at hl
 refine Vx (s:=(none,0,0)) (x:=s) (base:=w.heap.size) (e:=T.uint8) (size:=1) (n:=0) (xs:=[]) (news:=dV xs) (by kernel_rfl) (by kernel_rfl) (by decide) (Gs.nil _ _ _ _) o.row (Za _) (by omega) (Nat.le_refl _) λy w4 o4 u4 _=>?_
 refine h y w4 ?_ (u4.mono λz ⟨a,ha,_⟩=>by cases ha)
 have e:0+s.2.1=xs.length:=by omega
 rw[e] at o4
 exact o4
abbrev RPI:List (Bool×List CK):=[(false,[.p]),(false,[KI])]
abbrev Si:List (Bool×List CK):=[(false,[KI])]
abbrev Wh:List (Bool×List CK):=[(false,[.b])]
abbrev ckC(d n:Int):List Value:=[iV d,.int .u32 (n%4294967296),iV n]
theorem Adq(n:Int):wrap .u32 n=n%4294967296:=by simp[wrap,IntKind.bits,IntKind.signed]
theorem Xz.cl{d:Int}(h0:0≤d)(h1:d≤10){w:World}{k:TR RPI→WP}(h: ∀b w',w.heap.size=b→Az w' b (ckC d 0)→Af w w'→k ((some ⟨b,0,none⟩,()),(0,()),()) w'):Ae prog F.Xz [iV d] w true RPI k:=by
 refine Xz.ok ?_
 unfold Xz.wp
 refine Dx (λc=>absurd (show d<0 from c) (by omega)) λ_=>Dx (λc=>absurd (show d>10 from c) (by omega)) λ_=>?_
 exact Ad λb w' e k1 u=>h b w' e k1 u
theorem Nr.cl{b:Nat}{d n raw:Int}(h0:0≤raw)(h1:raw<4294967296){w:World}(hB:Az w b (ckC d n)){k:TR []→WP}(h: ∀w',Az w' b (ckC d raw)→Am (λz=>z=b) w w'→k () w'):Ae prog F.Nr [.pointer (some ⟨b,0,none⟩),.int .u32 raw] w true [] k:=by
 refine Nr.ok ?_
 unfold Nr.wp
 refine Vt rfl ?_
 rw[Ac,Ah (by unfold I64;omega)]
 refine hB.sN 1 [.int .u32 raw] (by simp) rfl λw2 k2 u2=>?_
 rw[Ac]
 refine k2.sN 2 [iV raw] (by simp[splice]) rfl λw4 k4 u4=>h w4 ?_ (Am.trans u2 u4 λ_ _ x=>x)
 have e:raw%4294967296=raw:=by omega
 unfold ckC
 rw[e];exact k4
theorem Ez.cl{b:Nat}{d n:Int}{w:World}(hB:Az w b (ckC d n)){k:TR Si→WP}(h:k ((n,()),()) w):Ae prog F.Ez [.pointer (some ⟨b,0,none⟩)] w false Si k:=by
 refine Ez.ok ?_
 unfold Ez.wp
 refine Jl rfl ?_
 rw[Ac]
 exact hB.c1 2 rfl h
def oM(d t:Int):Bool:=decide (1000-d≤t)&&decide (t≤1000+d)
theorem mF{d t:Int}:oM d t=true↔1000-d≤t∧t≤1000+d:=by unfold oM;simp
theorem Adj{d t:Int}(h: ¬(1000-d≤t∧t≤1000+d)):oM d t=false:=by
 cases hb:oM d t
 ·rfl
 ·exact absurd (mF.1 hb) h
theorem Iq.cl{b:Nat}{d n t:Int}(h0:0≤d)(h1:d≤10){w:World}(hB:Az w b (ckC d n)){k:TR Wh→WP}(h:k ((oM d t,()),()) w):Ae prog F.Iq [.pointer (some ⟨b,0,none⟩),iV t] w false Wh k:=by
 refine Iq.ok ?_
 unfold Iq.wp
 refine Vt rfl ?_
 rw[Ac]
 refine hB.c0 rfl ?_
 rw[Ah (by unfold I64;omega)]
 refine Dx (λc=>?_) λc=>?_
 ·have c:t≥1000-d:=c
  rw[Ac]
  refine hB.c0 rfl ?_
  rw[Ah (by unfold I64;omega)]
  have e:decide (t≤1000+d)=oM d t:=by unfold oM;rw[decide_eq_true c,Bool.true_and]
  rw[e];exact h
 ·have c: ¬t≥1000-d:=c
  rw[Adj (by omega)] at h;exact h
def goT(d n t:Int):Int:=if oM d t=true then if n+t>1125899906842624 then 8 else 0 else 1
theorem Ug.cl{n t:Int}(h0:0≤n)(h1:n≤1125899906842624)(t0:0≤t)(t1:t<4294967296){w:World}{k:TR [(false,[KI]),(false,[.b])]→WP}(h:k (if n+t>1125899906842624 then((0,()),(false,()),()) else((n+t,()),(true,()),())) w):
  Ae prog F.Ug [iV n,.int .u32 (wrap .u32 (n%4294967296+wrap .u32 t))] w true [(false,[KI]),(false,[.b])] k:=by
 refine Ug.ok ?_
 unfold Ug.wp
 refine Dx (λc=>absurd (show n<0 from c) (by omega)) λ_=>Dx (λc=>absurd (show n>_ from c) (by omega)) λ_=>?_
 have e:wrap .i64 (n+wrap .i64 (wrap .u32 (wrap .u32 (n%4294967296+wrap .u32 t)-wrap .u32 n)))=n+t:=by
  have e1:wrap .u32 (wrap .u32 (n%4294967296+wrap .u32 t)-wrap .u32 n)=t:=by rw[Adq,Adq,Adq,Adq];omega
  rw[e1,Ah (n:=t) (by unfold I64;omega),Ah (by unfold I64;omega)]
 rw[e]
 refine Dx (λc=>?_) λc=>?_
 ·rw[if_pos c] at h;exact h
 ·rw[if_neg c] at h;exact h
theorem Qd.cl{b:Nat}{d n t:Int}(h0:0≤d)(h1:d≤10)(n0:0≤n)(n1:n≤1125899906842624){w:World}(hB:Az w b (ckC d n)){k:TR Si→WP}
  (h: ∀w',Az w' b (ckC d (if goT d n t=0 then n+t else n))→Am (λz=>z=b) w w'→k ((goT d n t,()),()) w'):Ae prog F.Qd [.pointer (some ⟨b,0,none⟩),iV t] w false Si k:=by
 refine Qd.ok ?_
 unfold Qd.wp
 refine Jl rfl (Iq.cl h0 h1 hB ?_)
 unfold goT at h
 refine Ee (λc=>?_) λc=>?_
 ·have c:oM d t=false:=c
  rw[c] at h
  exact h w (by simpa using hB) (Am.refl _ _)
 ·have c:oM d t=true:=c
  rw[c,if_pos rfl] at h
  have ft:=mF.1 c
  rw[Be,Ac]
  refine hB.drew.c1 2 rfl ?_
  rw[Ac]
  refine hB.drew.c1 1 (c:=.i .u32) (x:=n%4294967296) rfl (Ug.cl n0 n1 (by omega) (by omega) ⟨⟨hB.hold (w:=w.drew) (Af.refl w.drew) (λx=>x) 1 (by simp),trivial⟩,?_⟩)
  by_cases ho:n+t>1125899906842624
  ·rw[if_pos ho]
   rw[if_pos ho] at h
   exact Vt rfl (h w.drew (by simpa using hB.drew) (Am.drew (Am.refl _ _)))
  ·rw[if_neg ho]
   rw[if_neg ho] at h
   refine Jl rfl ?_
   rw[Ac]
   refine hB.drew.c1 1 (c:=.i .u32) (x:=n%4294967296) rfl ?_
   rw[Ac]
   refine hB.drew.sN 1 [_] (by simp) rfl λw13 k13 u13=>?_
   rw[Ac]
   refine k13.sN 2 [_] (by simp[splice]) rfl λw15 k15 u15=>h w15 ?_ (Am.trans (Am.drew (Am.refl _ w)) (Am.trans u13 u15 λ_ _ x=>x) λ_ _ x=>x)
   have e:wrap .u32 (n%4294967296+wrap .u32 t)=(n+t)%4294967296:=by rw[Adq,Adq];omega
   have k15:Az w15 b [iV d,.int .u32 (wrap .u32 (n%4294967296+wrap .u32 t)),iV (n+t)]:=k15
   rw[e] at k15
   exact k15
abbrev yJ(me lev par:Int):List Value:=[iV me,iV lev,iV par]
theorem Wp.cl{me:Int}(h0:0≤me)(h1:me<64){w:World}{k:TR RPI→WP}(h: ∀b w',w.heap.size=b→Az w' b (yJ me (-1) (-1))→Af w w'→k ((some ⟨b,0,none⟩,()),(0,()),()) w'):Ae prog F.Wp [iV me] w true RPI k:=by
 refine Wp.ok ?_
 unfold Wp.wp
 refine Dx (λc=>absurd (show me<0 from c) (by omega)) λ_=>Dx (λc=>absurd (show me≥64 from c) (by omega)) λ_=>?_
 exact Ad λb w' e k1 u=>h b w' e k1 u
theorem Gf.cl{b:Nat}{me lev par:Int}{w:World}(hB:Az w b (yJ me lev par)){k:TR []→WP}(h: ∀w',Az w' b (yJ me (-1) (-1))→Am (λz=>z=b) w w'→k () w'):Ae prog F.Gf [.pointer (some ⟨b,0,none⟩)] w true [] k:=by
 refine Gf.ok ?_
 unfold Gf.wp
 refine Vt rfl ?_
 rw[Ac]
 refine hB.sN 1 [_] (by simp) rfl λw2 k2 u2=>?_
 rw[Ac]
 exact k2.sN 2 [_] (by simp[splice]) rfl λw4 k4 u4=>h w4 k4 (Am.trans u2 u4 λ_ _ x=>x)
theorem En.cl{b:Nat}{me lev par:Int}{w:World}(hB:Az w b (yJ me lev par)){k:TR Si→WP}(h:k ((par,()),()) w):Ae prog F.En [.pointer (some ⟨b,0,none⟩)] w false Si k:=by
 refine En.ok ?_
 unfold En.wp
 refine Jl rfl ?_
 rw[Ac]
 exact hB.c1 2 rfl h
theorem Ja.cl{b:Nat}{me lev par:Int}{w:World}(hB:Az w b (yJ me lev par)){k:TR Si→WP}(h:k ((lev,()),()) w):Ae prog F.Ja [.pointer (some ⟨b,0,none⟩)] w false Si k:=by
 refine Ja.ok ?_
 unfold Ja.wp
 refine Jl rfl ?_
 rw[Ac]
 exact hB.c1 1 rfl h
structure Pr where
 me:Int
 to:Int
 sent:Int
 waits:Bool
 waited:Int
 tries:Int
 rest:Int
abbrev gG(p:Pr):List Value:=[iV p.me,iV p.to,iV p.sent,.bool p.waits,iV p.waited,iV p.tries,iV p.rest]
def prN(me:Int):Pr:=⟨me,0,0,false,0,0,0⟩
theorem Xq.cl{me:Int}(h0:0≤me)(h1:me<64){w:World}{k:TR RPI→WP}(h: ∀b w',w.heap.size=b→Az w' b (gG (prN me))→Af w w'→k ((some ⟨b,0,none⟩,()),(0,()),()) w'):Ae prog F.Xq [iV me] w true RPI k:=by
 refine Xq.ok ?_
 unfold Xq.wp
 refine Dx (λc=>absurd (show me<0 from c) (by omega)) λ_=>Dx (λc=>absurd (show me≥64 from c) (by omega)) λ_=>?_
 exact Ad λb w' e k1 u=>h b w' e k1 u
theorem Pe.cl{b:Nat}{p:Pr}{w:World}(hB:Az w b (gG p)){k:TR []→WP}(h: ∀w',Az w' b (gG (prN p.me))→Am (λz=>z=b) w w'→k () w'):Ae prog F.Pe [.pointer (some ⟨b,0,none⟩)] w true [] k:=by
 refine Pe.ok ?_
 unfold Pe.wp
 refine Vt rfl ?_
 rw[Ac]
 refine hB.c0 rfl ?_
 rw[Ac]
 exact hB.Fg _ rfl rfl λw4 k4 u4=>h w4 k4 u4
theorem Nv.cl{b:Nat}{p:Pr}{w:World}(hB:Az w b (gG p)){k:TR Wh→WP}(h:k ((p.waits,()),()) w):Ae prog F.Nv [.pointer (some ⟨b,0,none⟩)] w false Wh k:=by
 refine Nv.ok ?_
 unfold Nv.wp
 refine Vt rfl ?_
 rw[Ac]
 exact hB.c1 3 rfl h
theorem Hz.quiet{b:Nat}{p:Pr}{w:World}(hB:Az w b (gG p))(hw:p.waits=false)(hr:0≤p.rest∧p.rest≤1000){k:TR Wh→WP}(h: ∀w',Az w' b (gG {p with rest:=max 0 (p.rest-1)})→Am (λz=>z=b) w w'→k ((false,()),()) w'):
  Ae prog F.Hz [.pointer (some ⟨b,0,none⟩)] w false Wh k:=by
 refine Hz.ok ?_
 unfold Hz.wp
 refine Jl rfl ?_
 rw[Ac]
 refine hB.c1 3 (c:=.b) (x:=p.waits) rfl ?_
 rw[hw]
 refine Vt rfl ?_
 rw[Ac]
 refine hB.c1 6 rfl ?_
 rw[Ac]
 refine hB.sN 6 [_] (by simp) rfl λw6 k6 u6=>h w6 ?_ u6
 have e:(if 0>wrap .i64 (p.rest-1) then 0 else wrap .i64 (p.rest-1))=max 0 (p.rest-1):=by
  rw[Ah (by unfold I64;omega)];split<;>omega
 have k6:Az w6 b [iV p.me,iV p.to,iV p.sent,.bool p.waits,iV p.waited,iV p.tries,iV (if 0>wrap .i64 (p.rest-1) then 0 else wrap .i64 (p.rest-1))]:=k6
 rw[e] at k6
 exact k6
def sK(a b c:Int):Bool:=decide (1≤a)&&decide (a≤64)&&decide (1≤b)&&decide (b≤a)&&decide (0≤c)&&decide (c<a)
theorem iK{a b c:Int}:sK a b c=true↔1≤a∧a≤64∧1≤b∧b≤a∧0≤c∧c<a:=by unfold sK;simp[and_assoc]
theorem Ah0{a b c:Int}(h: ¬(1≤a∧a≤64∧1≤b∧b≤a∧0≤c∧c<a)):sK a b c=false:=by
 cases hb:sK a b c
 ·rfl
 ·exact absurd (iK.1 hb) h
theorem Ie.cl{a b c:Int}{w:World}{k:TR Wh→WP}(h: ∀w',Af w w'→k ((sK a b c,()),()) w'):Ae prog F.Ie [.agg #[iV a,iV b,iV c]] w false Wh k:=by
 refine Ie.ok ?_
 unfold Ie.wp
 refine Ad λp w4 e k4 u4=>?_
 have no: ¬(1≤a∧a≤64∧1≤b∧b≤a∧0≤c∧c<a)→k ((false,()),()) w4:=λhn=>by have:=h w4 u4;rw[Ah0 hn] at this;exact this
 refine k4.c0 rfl (Dx (λc1=>k4.c0 rfl (Dx (λc2=>k4.c1 1 rfl (Dx (λc3=>k4.c1 1 rfl (k4.c0 rfl (Dx (λc4=>k4.c1 2 rfl (Dx (λc5=>k4.c1 2 rfl (k4.c0 rfl ?_)) λn=>no λq=>n q.2.2.2.2.1)) λn=>no λq=>n q.2.2.2.1))) λn=>no λq=>n q.2.2.1)) λn=>no λq=>n q.2.1)) λn=>no λq=>n q.1)
 have:=h w4 u4
 have e:sK a b c=decide (c<a):=by
  unfold sK
  rw[decide_eq_true (show 1≤a from c1),decide_eq_true (show a≤64 from c2),decide_eq_true (show 1≤b from c3),decide_eq_true (show b≤a from c4),decide_eq_true (show 0≤c from c5)];rfl
 rw[e] at this
 exact this
def miG(a c step:Int):Bool:=decide (0≤step)&&(step%a==c)
theorem Om.cl{a b c step:Int}(hg:sK a b c=true){w:World}{k:TR Wh→WP}(h: ∀w',Af w w'→k ((miG a c step,()),()) w'):Ae prog F.Om [.agg #[iV a,iV b,iV c],iV step] w false Wh k:=by
 refine Om.ok ?_
 unfold Om.wp
 have hp:=iK.1 hg
 refine Ad λp w4 e k4 u4=>?_
 rw[Be]
 refine k4.drew.cA (cs:=[KI,KI,KI]) (a,b,c,()) rfl (Ie.cl λw8 u8=>⟨trivial,?_⟩)
 have g8:=(u4.trans (Af.drew _)).trans u8
 rw[hg]
 have k8:=k4.drew.Ai u8
 refine Vt rfl (Dx (λc1=>k8.c0 rfl ?_) λc1=>?_)
 ·rw[Pg (by omega)]
  refine k8.c1 2 rfl ?_
  have:=h w8 g8
  have c1:step≥0:=c1
  have e:miG a c step=(Int.tmod step a==c):=by
   unfold miG;rw[decide_eq_true (show 0≤step from c1),Bool.true_and,Int.tmod_eq_emod_of_nonneg c1]
  rw[e] at this
  exact this
 ·have:=h w8 g8
  have c1: ¬step≥0:=c1
  have e:miG a c step=false:=by unfold miG;rw[decide_eq_false (by omega),Bool.false_and]
  rw[e] at this
  exact this
abbrev xK:List (Bool×List CK):=[(false,[.sl]),(false,[KI])]
def Fds(fs:List E3):Prop:=fs.length≤100∧ ∀e∈fs,0≤e.1∧e.1≤8∧0≤e.2.1∧e.2.1≤1125899906842624
theorem pK(fs:List E3):eH (Vb fs):=by
 intro x hx
 simp only[Vb,List.mem_flatMap] at hx
 obtain⟨f,_,h⟩:=hx
 exact Ak1 x h
theorem zM{fs:List E3}(h: ∀e∈fs,0≤e.1∧e.1≤8):(Vb fs).length≤fs.length*8:=by
 unfold Vb
 induction fs with
 |nil=>simp
 |cons f fs ih=>
  rw[List.flatMap_cons,List.length_append,Zk,List.length_cons]
  have:=h f (by simp)
  have:=ih λe he=>h e (by simp[he])
  omega
theorem Ag9{n:Int}(h:0≤n)(h2:n≤1125899906842624):wrap .u64 n=((n.toNat:Nat):Int):=by rw[Lp (by unfold V6;omega)];omega
theorem Adk(e:E3)(h:0≤e.2.1∧e.2.1≤1125899906842624):Vb [e]=Ym e.1.toNat e.2.1.toNat:=by
 unfold Vb
 rw[List.flatMap_cons,List.flatMap_nil,List.append_nil,Ag9 h.1 h.2,Int.toNat_natCast]
theorem Acu(a b:List E3):Vb (a++b)=Vb a++Vb b:=by unfold Vb;rw[List.flatMap_append]
theorem Zl{q:Sl}{fs:List E3}{p kd:Nat}{O:NP}{w10 w:World}(hF:Fds fs)(hE:Ku w10 q fs)(hq: ∀a,q.1=some a→ ¬O a.block)(hk:kd<256)(hP:sG w10 O p [kd])(hw:Af w w10)(hO: ∀z,O z→w.heap.size≤z){R:TR xK→WP}(h: ∀(s:Sl) w',OwnB w' w.heap.size s (aK kd fs)→Af w w'→R (((s.1,s.2.1,s.2.2),()),(0,()),()) w'):
  Ci (λ(self11:((Int)×Unit)→WP) (z12:(Int)×Unit) w13=> ∀_:Nat→Value,
Aj (decide (z12.1<(q.2.1:Int))) (
Ny q.1 q.2.1 z12.1 λa14=>
A8 [KI,KI,KI] (a14.add (z12.1.toNat*3)) 0 w13 λx15=>
Bf [iV 0,iV 0,iV 0] T.Dl w13 λp16 w17=>
Au [iV x15.1,iV x15.2.1,iV x15.2.2.1] p16 0 w17 λw18=>
ld1 KI p16 w18 λx19=>
ld1 KI (p16.add 1) w18 λx20=>
Ae prog F.Bv [.pointer (some ⟨p,0,none⟩),iV x19,.int .u64 (wrap .u64 x20)] w18 false [(false,[.p])] λr21 w22=>
self11 (wrap .i64 (z12.1+1),()) w22) (
Ae prog F.Fj [.pointer (some ⟨p,0,none⟩)] w13 false [(false,[.sl])] λr23 w24=>
Ae prog F.Tz [.slice r23.1.1.1 r23.1.1.2.1 r23.1.1.2.2] w24 false [(false,[.sl])] λr25 w26=>
R (((r25.1.1.1,r25.1.1.2.1,r25.1.1.2.2),()),(0,()),()) w26)) (0,()) w10:=by
 have hl:=hE.len
 have h100:=hF.1
 have h1: ∀e∈fs,0≤e.1∧e.1≤8:=λe he=>⟨(hF.2 e he).1,(hF.2 e he).2.1⟩
 refine Ci.by (λz W=> ∃i:Nat,i≤fs.length∧z=((i:Int),())∧ ∃O',sG W O' p (kd::Vb (fs.take i))∧Nx O w10 O' W∧Ku W q fs∧(∀a,q.1=some a→ ¬O' a.block)) (λz=>((fs.length:Int)-z.1).toNat) ⟨0,by omega,rfl,O,hP,Nx.of (Af.refl _),hE,hq⟩ ?_
 rintro z W ⟨i,hi,rfl,O',hP,hX,hE,hq⟩ _
 have hlen:(kd::Vb (fs.take i)).length≤900:=by
  have h2:=zM (fs:=fs.take i) λe he=>h1 e (List.mem_of_mem_take he)
  have h3:=hF.1
  rw[List.length_take] at h2
  rw[List.length_cons];omega
 refine Dx (λc=>?_) λc=>?_
 ·have c:(i:Int)<(q.2.1:Int):=c
  have hi':i<fs.length:=by omega
  have he:fs[i]? =some fs[i]:=List.getElem?_eq_getElem hi'
  have hm:fs[i]∈fs:=List.getElem_mem hi'
  generalize hge:fs[i]=e at he hm
  have hf:=hF.2 e hm
  refine hE.ix (z:=(i:Int)) rfl he λad ha=>hE.A8 ha he ?_
  refine Ad λb w17 e17 k17 u17=>k17.Fg [_,_,_] rfl rfl λw18 k18 u18=>k18.c0 (c:=KI) (x:=e.1) rfl (k18.c1 1 (c:=KI) (x:=e.2.1) rfl ?_)
  have g18:Af W w18:=Af.fresh (Af.refl _) u17 u18 e17
  rw[Ag9 hf.2.2.1 hf.2.2.2,show e.1=((e.1.toNat:Nat):Int) by omega]
  refine Bv.cl (by omega) (by omega) (hP.Ai g18) λw22 O2 P22 X22=>⟨⟨i+1,by omega,?_,O2,?_,(hX.Ai g18).trans X22,?_,?_⟩,?_⟩
  ·show(wrap .i64 ((i:Int)+1),())=_
   rw[Ah (by unfold I64;omega)];rfl
  ·have e2:fs.take (i+1)=fs.take i++[e]:=by rw[List.take_add_one,he];rfl
   rw[e2,Acu,Adk e ⟨hf.2.2.1,hf.2.2.2⟩,←List.cons_append]
   exact P22
  ·exact Row.upd (hE.Ai g18) X22.u hq
  ·intro a ha h2
   rcases X22.sub _ h2 with h3|h3
   ·exact hq a ha h3
   ·obtain⟨v,hv⟩: ∃v,w18.cell? (a.add 0)=some v:=by
     have hne:flat3 fs≠[]:=by
      intro h0
      have:=Uc fs
      rw[h0] at this;simp at this;omega
     obtain⟨a',ha',hc⟩:=(hE.Ai g18).at_ hne
     rw[ha] at ha';cases ha'
     have hl0:0<(flat3 fs).length:=by rw[Uc];omega
     exact⟨_,hc 0 _ (List.getElem?_eq_getElem hl0)⟩
    have:=cell_lt hv
    rw[add_block] at this
    omega
  ·show((fs.length:Int)-wrap .i64 ((i:Int)+1)).toNat<((fs.length:Int)-(i:Int)).toNat
   rw[Ah (by unfold I64;omega)];omega
 ·have c: ¬(i:Int)<(q.2.1:Int):=c
  have:i=fs.length:=by omega
  subst this
  rw[List.take_length] at hP hlen
  have gW:Af w W:=Am.trans hw hX.u λz hz h=>by have:=hO z h;omega
  refine Fj.cl (by omega) hP λs w24 o24 g24=>?_
  have hb:eH (kd::Vb fs):=by
   intro x hx
   rcases List.mem_cons.1 hx with rfl|hx
   ·exact hk
   ·exact pK fs x hx
  refine Tz.cl hb o24.row (by omega) λs' w26 o26 g26=>h s' w26 (Gs.Zq o26 λa ha=>?_) ((gW.trans g24).trans g26)
  have:=(o26.blk ha).1
  have:=(gW.trans g24).size
  omega
theorem Y6{fs:List E3}(h:okF fs=true)(hl:fs.length≤100)(hs: ∀e∈fs,0≤e.1∧e.1≤8∧e.2.2≤1125899906842624):Fds fs:=by
 unfold okF at h
 rw[List.all_eq_true] at h
 exact⟨hl,λe he=>by have:=Rq.1 (h e he);have:=hs e he;omega⟩
theorem Aek(s:S6): ∀e∈Z4 s,0≤e.1∧e.1≤8∧e.2.2≤1125899906842624:=by
 intro e he
 simp only[Z4,List.mem_cons,List.not_mem_nil,or_false] at he
 rcases he with rfl|rfl|rfl|rfl|rfl|rfl<;>refine⟨?_,?_,?_⟩<;>dsimp only<;>omega
theorem G8.cl{s:S6}{w:World}{k:TR xK→WP}(hn:okF (Z4 s)=false→ ∀w',Af w w'→k (((none,0,0),()),(1,()),()) w')
  (h:okF (Z4 s)=true→ ∀(y:Sl) w',OwnB w' w.heap.size y (aK 1 (Z4 s))→Af w w'→k (((y.1,y.2.1,y.2.2),()),(0,()),()) w'):Ae prog F.Il [.iface T.Dy (vS s)] w true xK k:=by
 refine G8.ok ?_
 unfold G8.wp
 refine Fp.cl (s:=s) λw2 u2=>Ee (λc=>hn c w2 u2) λc=>?_
 have c:okF (Z4 s)=true:=c
 refine Ad λp w4 e4 k4 u4=>Fv.cl (s:=s) rfl ?_
 have P4:=sG.new k4
 refine Bv.cl (n:=1) (v:=1) (by decide) (by simp) P4 λw8 O8 P8 X8=>?_
 have g8:Af w w8:=Am.trans (u2.trans u4) X8.u λz hz h=>by have:=u2.size;omega
 have hO: ∀z,O8 z→w2.heap.size≤z:=λz hz=>by
  rcases X8.sub z hz with h1|h1
  ·omega
  ·have:=u4.size;omega
 refine Dh.clF (s:=s) λq w10 u10 hE hqf=>?_
 have hq: ∀a,q.1=some a→ ¬O8 a.block:=λa ha hz=>by
  have:=hqf a ha
  have:=P8.lt _ hz
  omega
 exact Zl (kd:=1) (Y6 c (by show 6≤100;decide) (Aek s)) hE hq (by decide) (P8.Ai u10) (g8.trans u10) (λz hz=>Nat.le_trans u2.size (hO z hz)) (h c)
def lW(me:Int):List E3:=[(1,me,63)]
abbrev vW(me:Int):Value:=.agg #[iV me]
theorem D8.clF{me:Int}{w:World}{k:TR jG→WP}(h: ∀(q:Sl) w',Af w w'→Ku w' q (lW me)→(∀a,q.1=some a→w.heap.size≤a.block)→k ((q,()),()) w'):Ae prog F.D8 [vW me] w false jG k:=by
 refine D8.ok ?_
 unfold D8.wp
 refine Ad λp w2 e2 k2 u2=>k2.c0 rfl (D5.cl λw5 u5=>Ad λp6 w7 e7 k7 u7=>h (some ⟨p6,0,none⟩,1,1) w7 ((u2.trans u5).trans u7) (Yq k7 rfl rfl) λa ha=>by cases ha;exact Nat.le_trans (u2.trans u5).size (Nat.le_of_eq e7))
theorem Fz.cl{v:Value}{me:Int}(hv:v=vW me){w:World}{k:TR [(false,[.i .u8])]→WP}(h:k ((3,()),()) w):Ae prog F.Fa [.iface T.Gp v] w false [(false,[.i .u8])] k:=by
 subst hv
 refine Fz.ok ?_
 unfold Fz.wp
 exact h
theorem Gq.cl{s:Int}{w:World}{k:TR [(false,[.b])]→WP}(h: ∀w',Af w w'→k ((okF (lW s),()),()) w'):Ae prog F.Ew [.iface T.Gp (vW s)] w false [(false,[.b])] k:=by
 refine Gq.ok ?_
 unfold Gq.wp
 refine Fz.cl (me:=s) rfl (Jl rfl (D8.clF (me:=s) λq w4 u4 hE _=>?_))
 have hl:=hE.len
 have h6:(lW s).length=1:=rfl
 refine Ci.by (λz w'=>Af w4 w'∧ ∃i:Nat,z=((i:Int),())∧i≤(lW s).length∧ ∀e∈(lW s).take i,Yy e=true) (λz=>(1000-z.1).toNat) ⟨Af.refl _,0,rfl,by omega,by simp⟩ ?_
 rintro z w7 ⟨g,i,rfl,hi,hgood⟩ _
 have out: ∀w',Af w4 w'→okF (lW s)=false→k ((false,()),()) w':=λw' g h0=>by
  have:=h w' (u4.trans g)
  rw[h0] at this;exact this
 refine Dx (λc=>?_) λc=>?_
 ·have hi':i<(lW s).length:=by have c:(i:Int)<(q.2.1:Int):=c;omega
  have he:(lW s)[i]? =some (lW s)[i]:=List.getElem?_eq_getElem hi'
  generalize (lW s)[i]=e at he
  have hE7:=hE.Ai g
  refine hE7.ix (z:=(i:Int)) rfl he λad ha=>hE7.A8 ha he ?_
  refine Ad λp10 w11 e10 k10 u11=>k10.Fg _ rfl rfl λw12 k12 u12=>k12.i1 1 rfl ?_
  have g12:=Af.fresh g u11 u12 e10
  refine Dx (λc=>out w12 g12 (Zo he ?_)) λc1=>k12.i1 1 rfl (k12.i1 2 rfl (Dx (λc=>out w12 g12 (Zo he ?_)) λc2=>⟨⟨g12,i+1,?_,by omega,?_⟩,?_⟩))
  ·have c:e.2.1<0:=c
   cases hb:Yy e
   ·rfl
   ·have:=Rq.1 hb;omega
  ·have c:e.2.1>e.2.2:=c
   cases hb:Yy e
   ·rfl
   ·have:=Rq.1 hb;omega
  ·show(wrap .i64 ((i:Int)+1),())=_
   rw[Ah (by unfold I64;omega)];rfl
  ·have c1: ¬e.2.1<0:=c1
   have c2: ¬e.2.1>e.2.2:=c2
   rw[List.take_add_one,he]
   intro x hx
   rcases List.mem_append.1 hx with hx|hx
   ·exact hgood x hx
   ·have:x=e:=by simpa using hx
    subst this
    exact Rq.2 ⟨by omega,by omega⟩
  ·show(1000-wrap .i64 ((i:Int)+1)).toNat<(1000-(i:Int)).toNat
   rw[Ah (by unfold I64;omega)];omega
 ·have hi':i=(lW s).length:=by have c: ¬(i:Int)<(q.2.1:Int):=c;omega
  subst hi'
  rw[List.take_length] at hgood
  have:=h w7 (u4.trans g)
  rw[bV hgood] at this
  exact this
theorem Ad5(s:Int): ∀e∈lW s,0≤e.1∧e.1≤8∧e.2.2≤1125899906842624:=by
 intro e he
 simp only[lW,List.mem_cons,List.not_mem_nil,or_false] at he
 subst he
 refine⟨?_,?_,?_⟩<;>dsimp only<;>omega
theorem G9.cl{s:Int}{w:World}{k:TR xK→WP}(hn:okF (lW s)=false→ ∀w',Af w w'→k (((none,0,0),()),(1,()),()) w')
  (h:okF (lW s)=true→ ∀(y:Sl) w',OwnB w' w.heap.size y (aK 3 (lW s))→Af w w'→k (((y.1,y.2.1,y.2.2),()),(0,()),()) w'):Ae prog F.Il [.iface T.Gp (vW s)] w true xK k:=by
 refine G9.ok ?_
 unfold G9.wp
 refine Gq.cl (s:=s) λw2 u2=>Ee (λc=>hn c w2 u2) λc=>?_
 have c:okF (lW s)=true:=c
 refine Ad λp w4 e4 k4 u4=>Fz.cl (me:=s) rfl ?_
 have P4:=sG.new k4
 refine Bv.cl (n:=1) (v:=3) (by decide) (by simp) P4 λw8 O8 P8 X8=>?_
 have g8:Af w w8:=Am.trans (u2.trans u4) X8.u λz hz h=>by have:=u2.size;omega
 have hO: ∀z,O8 z→w2.heap.size≤z:=λz hz=>by
  rcases X8.sub z hz with h1|h1
  ·omega
  ·have:=u4.size;omega
 refine D8.clF (me:=s) λq w10 u10 hE hqf=>?_
 have hq: ∀a,q.1=some a→ ¬O8 a.block:=λa ha hz=>by
  have:=hqf a ha
  have:=P8.lt _ hz
  omega
 exact Zl (kd:=3) (Y6 c (by show 1≤100;decide) (Ad5 s)) hE hq (by decide) (P8.Ai u10) (g8.trans u10) (λz hz=>Nat.le_trans u2.size (hO z hz)) (h c)
end Go.Proofs.YticgocmhmffneaaGreatDoor
