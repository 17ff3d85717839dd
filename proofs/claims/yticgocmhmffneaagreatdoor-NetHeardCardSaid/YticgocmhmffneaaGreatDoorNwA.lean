import Derived.Test.YticgocmhmffneaaGreatDoorMtD
import Derived.Test.YticgocmhmffneaaGreatDoorEngX
namespace Go.Proofs.YticgocmhmffneaaGreatDoor
open Go Go.Eng Tryz
open Go.IntKind (wrap)
set_option linter.unusedSimpArgs false
set_option linter.unusedVariables false
set_option maxRecDepth 100000
set_option maxHeartbeats 8000000
theorem Az.cast{w:World}{b:Nat}{l l':List Value}(h:Az w b l)(e:l=l'):Az w b l':=e▸h
def bls(f:Nat→Bool):List Value:=(List.range 4096).map fun z=>.bool (f z)
theorem Anx:List.replicate 4096 (Value.bool false)=bls fun _=>false:=by
  unfold bls
  apply List.ext_getElem?
  intro i
  rw[List.getElem?_map,List.getElem?_replicate]
  by_cases h:i<4096
  · rw[if_pos h,List.getElem?_range h];rfl
  · rw[if_neg h,List.getElem?_eq_none (by simpa using Nat.le_of_not_lt h)];rfl
def upB(f:Nat→Bool)(o:Nat)(b:Bool):Nat→Bool:=fun z=>if z=o then b else f z
theorem Oc(f:Nat→Bool):(bls f).length=4096:=by unfold bls;simp
theorem Wj(f:Nat→Bool){o:Nat}(h:o<4096):(bls f)[o]? =some (.bool (f o)):=by
  unfold bls
  rw[List.getElem?_map,List.getElem?_range h];rfl
theorem Anc(f:Nat→Bool){o:Nat}(h:o<4096)(b:Bool):(bls f).set o (.bool b)=bls (upB f o b):=by
  apply List.ext_getElem?
  intro i
  rw[List.getElem?_set]
  by_cases hi:i<4096
  · rw[Wj _ hi,Wj _ hi,Oc]
    unfold upB
    by_cases e:o=i
    · subst e
      rw[if_pos rfl,if_pos h,if_pos rfl]
    · rw[if_neg e,if_neg fun q=>e q.symm]
  · have n1: ∀g,(bls g)[i]? =none:=fun g=>List.getElem?_eq_none (by rw[Oc];omega)
    rw[n1,n1,Oc,if_neg (by omega)]
def U8(n:Int)(f:Nat→Bool):List Value:=iV n::bls f
theorem U8.len(n:Int)(f:Nat→Bool):(U8 n f).length=4097:=by unfold U8;rw[List.length_cons,Oc]
theorem U8.get(n:Int)(f:Nat→Bool){o:Nat}(h:o<4096):(U8 n f)[1+o]? =some (.bool (f o)):=by
  unfold U8
  rw[Nat.add_comm,List.getElem?_cons_succ,Wj f h]
theorem U8.set(n:Int)(f:Nat→Bool){o:Nat}(h:o<4096)(b:Bool):splice (U8 n f) (1+o) [.bool b]=U8 n (upB f o b):=by
  unfold U8
  show(Value.int .i64 n::bls f).set (1+o) (.bool b)=_
  rw[Nat.add_comm,List.set_cons_succ,Anc f h]
theorem Aak.h{w:World}{p:Nat}{n:Int}{f:Nat→Bool}(h:Az w p (U8 n f))(hn:n≤64){i k:Int}{on:Bool}{K:TR Si→WP}
    (h0:Ac7 n i k=false→K ((1,()),()) w) (h1:Ac7 n i k=true→ ∀w',Az w' p (U8 n (upB (upB f (64*i.toNat+k.toNat) on) (64*k.toNat+i.toNat) on))→Am (fun z=>z=p) w w'→K ((0,()),()) w'):Ae prog F.Aak [pB p,iV i,iV k,.bool on] w false Si K:=by
  refine Aak.ok ?_
  unfold Aak.wp
  have no: ¬(0≤i∧i<n∧0≤k∧k<n∧i≠k)→K ((1,()),()) w:=fun q=>h0 (by
    cases e:Ac7 n i k with
    |false=>rfl
    |true=>
      have:=Acb.1 e
      exact absurd ⟨this.1.1,this.1.2,this.2.1.1,this.2.1.2,this.2.2⟩ q)
  refine Dx (fun c=>no fun q=>by omega) fun c1=>Dx (fun c=>no fun q=>by omega) fun c2=>?_
  rw[Ac]
  refine h.c0 (c:=KI) (x:=n) rfl (Dx (fun c=>no fun q=>by have c:i≥n:=c;omega) fun c3=>?_)
  rw[Ac]
  refine h.c0 (c:=KI) (x:=n) rfl (Dx (fun c=>no fun q=>by have c:k≥n:=c;omega) fun c4=>Yl (fun c=>no fun q=>q.2.2.2.2 c) fun c5=>?_)
  have c3: ¬i≥n:=c3
  have c4: ¬k≥n:=c4
  have y:Ac7 n i k=true:=Acb.2 ⟨⟨by omega,by omega⟩,⟨by omega,by omega⟩,c5⟩
  rw[Ac,Tq ⟨by omega,by omega⟩,Tq ⟨by omega,by omega⟩,add_add,add_add]
  have e1:1+(i.toNat*64+k.toNat*1)=1+(64*i.toNat+k.toNat):=by omega
  have e2:1+(k.toNat*64+i.toNat*1)=1+(64*k.toNat+i.toNat):=by omega
  rw[e1]
  refine h.sN _ [.bool on] (by rw[U8.len];show _+1≤_;omega) rfl fun w8 k8 u8=>?_
  rw[U8.set _ _ (by omega)] at k8
  rw[Ac,Tq ⟨by omega,by omega⟩,Tq ⟨by omega,by omega⟩,add_add,add_add,e2]
  refine k8.sN _ [.bool on] (by rw[U8.len];show _+1≤_;omega) rfl fun w12 k12 u12=>?_
  rw[U8.set _ _ (by omega)] at k12
  exact h1 y w12 k12 (u8.trans u12 fun _ _ x=>x)
theorem Ju.g{a b c d:Int}{w:World}{K:TR RPp→WP}(hk: ∀p w',Af w w'→K ((p,()),()) w'):Ae prog F.Ju [iV a,iV b,iV c,uV d] w false RPp K:=by
  refine Ju.ok ?_
  unfold Ju.wp
  exact Ad fun p w2 e k u=>hk _ w2 u
theorem Ha.g{a b c d e f:Int}{w:World}{K:TR RPp→WP}(hk: ∀p w',Af w w'→K ((p,()),()) w'):Ae prog F.Ha [iV a,iV b,iV c,iV d,iV e,uV f] w false RPp K:=by
  refine Ha.ok ?_
  unfold Ha.wp
  exact Ju.g fun p w2 u2=>Ad fun p w4 e k u=>hk _ w4 (u2.trans u)
theorem Kq.g{a:Int}{w:World}{K:TR RPp→WP}(hk: ∀p w',Af w w'→K ((p,()),()) w'):Ae prog F.Kq [iV a] w false RPp K:=by
  refine Kq.ok ?_
  unfold Kq.wp
  exact Ad fun p w2 e k u=>hk _ w2 u
theorem vJ{p:Nat}{W:World}{cs:List Value}{k:WP}(h:Az W p cs)(hl:cs.length=22)(o:Nat)(v:Value)(ho:o<22)(hv:okc v=true)(hk: ∀W' cs',Az W' p cs'→cs'.length=22→Am (fun z=>z=p) W W'→k W'):Au [v] (Addr.add ⟨p,0,none⟩ o) 0 W k:=
  h.sN o [v] (by rw[hl];show o+1≤22;omega) (by simp[hv]) fun w' k' u=>hk w' _ k' (by rw[I8];exact hl) u
theorem Hm.g{s:nS}{w:World}{K:TR RPp→WP}(hk: ∀p w',Af w w'→K ((p,()),()) w'):Ae prog F.Hm [.agg (kD s).toArray] w false RPp K:=by
  refine Hm.ok ?_
  unfold Hm.wp
  refine Ad fun p1 w2 e1 k1 u1=>k1.cA (cs:=KSt) (stT s) rfl (Ad fun p4 w5 e4 k4 u4=>?_)
  refine Aw.ok ?_
  unfold Aw.wp
  rw[Ac]
  have z4:p4<w5.heap.size:=k4.lt
  refine k4.cN 0 (cs:=KSt) (stT s) rfl (Ad fun p3 w6 e3 k3 u3=>k3.Fg (encs KSt (stT s)) rfl rfl fun w7 k7 u7=>k7.c1 4 (c:=KI) (x:=s.drift) rfl (Ad fun p8 w8 e8 k8 u8=>?_))
  have n34:p3≠p4:=by omega
  have Xf:=((k4.Ai u3).upd u7 fun e=>n34 e.symm).Ai u8
  have f8:Af w5 w8:=(Af.fresh (Af.refl _) u3 u7 e3).trans u8
  have k7:=k7.Ai u8
  rw[Ac]
  refine Xf.sN 13 [.pointer (some ⟨p8,0,none⟩)] (by show 14≤22;decide) rfl fun w10 k10 u10=>?_
  have U10:Am (fun z=>z=p4) w5 w10:=(Am.Bj f8).trans u10 fun _ _ x=>x
  have q10:=k7.upd u10 n34
  rw[Be]
  have k10:=k10.drew
  have q10:=q10.drew
  have U10:=U10.Ai (Af.drew w10)
  generalize w10.drew=w11 at*
  refine q10.c0 (c:=KI) (x:=s.me) rfl (q10.c1 1 (c:=KI) (x:=s.tmo) rfl (q10.c1 2 (c:=KI) (x:=s.ign) rfl (q10.c1 3 (c:=KI) (x:=s.need) rfl (q10.c1 4 (c:=KI) (x:=s.drift) rfl ?_))))
  rw[Ac]
  refine k10.c1 12 (c:=KU) (x:=0) rfl (Ha.g fun pf w20 u20=>⟨trivial,?_⟩)
  rw[Ac]
  refine vJ (k10.Ai u20) rfl 14 (.pointer pf) (by decide) rfl fun w22 c22 k22 l22 u22=>⟨trivial,?_⟩
  have U22:=(U10.Ai u20).trans u22 fun _ _ x=>x
  have q22:=(q10.Ai u20).upd u22 n34
  refine q22.c0 (c:=KI) (x:=s.me) rfl (Kq.g fun pl w25 u25=>?_)
  rw[Ac]
  refine vJ (k22.Ai u25) l22 15 (.pointer pl) (by decide) rfl fun w27 c27 k27 l27 u27=>?_
  have U27:=(U22.Ai u25).trans u27 fun _ _ x=>x
  have q27:=(q22.Ai u25).upd u27 n34
  refine q27.c0 (c:=KI) (x:=s.me) rfl (Ad fun p29 w30 e29 k29 u29=>?_)
  rw[Ac]
  refine vJ (k27.Ai u29) l27 16 (.pointer (some ⟨p29,0,none⟩)) (by decide) rfl fun w32 c32 k32 l32 u32=>?_
  have U32:=(U27.Ai u29).trans u32 fun _ _ x=>x
  have q32:=(q27.Ai u29).upd u32 n34
  refine q32.c1 8 (c:=KI) (x:=s.lim) rfl (Ad fun p34 w35 e34 k34 u34=>?_)
  rw[Ac]
  refine vJ (k32.Ai u34) l32 17 (.pointer (some ⟨p34,0,none⟩)) (by decide) rfl fun w37 c37 k37 l37 u37=>Ad fun p38 w39 e38 k38 u38=>?_
  have U37:=(U32.Ai u34).trans u37 fun _ _ x=>x
  rw[Ac]
  refine vJ (k37.Ai u38) l37 18 (.pointer (some ⟨p38,0,none⟩)) (by decide) rfl fun w41 c41 k41 l41 u41=>Ad fun p42 w43 e42 k42 u42=>?_
  have U41:=(U37.Ai u38).trans u41 fun _ _ x=>x
  rw[Ac]
  refine vJ (k41.Ai u42) l41 19 (.pointer (some ⟨p42,0,none⟩)) (by decide) rfl fun w45 c45 k45 l45 u45=>?_
  have U45:=(U41.Ai u42).trans u45 fun _ _ x=>x
  rw[Ac]
  refine vJ k45 l45 20 (.slice none 0 0) (by decide) rfl fun w47 c47 k47 l47 u47=>?_
  rw[Ac]
  refine vJ k47 l47 21 (.slice none 0 0) (by decide) rfl fun w49 c49 k49 l49 u49=>?_
  have U49:=(U45.trans u47 fun _ _ x=>x).trans u49 fun _ _ x=>x
  exact hk _ w49 (Af.fresh u1 u4 U49 e4)
theorem Amb.h{S:dI}{so:Sl}{w:World}(hg:Wq S=true)(hR:Row w so 1 (Na S.own)){K:TR RPp→WP}
    (hk: ∀pn pl cs w',Az w' pn cs→cs[11]? =some (.pointer (some ⟨pl,0,none⟩))→Az w' pl (U8 S.nodes fun _=>false)→w.heap.size≤pn→w.heap.size≤pl→pn≠pl→Af w w'→K ((some ⟨pn,0,none⟩,()),()) w'):
    Ae prog F.Amb [.agg (Q4 S so).toArray] w false RPp K:=by
  refine Amb.ok (s0:=S.nodes) (s1:=S.tmo) (s2:=S.ign) (s3:=S.need) (s4:=S.drift) (s5:=S.rnd) (s6:=S.opn) (s7:=S.lim) (s8:=S.jit) (s9:=S.gate) (s10:=so) ?_
  unfold Amb.wp
  have hn:=(Tm.1 hg).1
  refine Ad fun p1 w2 e1 k1 u1=>?_
  change Az w2 p1 (Q4 S so) at k1
  refine k1.cA (cs:=KTs) (tsT S so) rfl (k1.c0 (c:=KI) (x:=S.nodes) rfl (Ad fun p5 w6 e5 k5 u5=>Ad fun p7 w8 e7 k7 u7=>?_))
  have k5:Az w6 p5 (U8 S.nodes fun _=>false):=Az.cast (Az.cast k5 (l':=iV S.nodes::List.replicate 4096 (.bool false)) (by kernel_rfl)) (by rw[Anx];rfl)
  have l1:=k1.lt
  have l5:=k5.lt
  have k1':=(k1.Ai u5).Ai u7
  have xP:=k5.Ai u7
  have l7:=k7.lt
  have n17:p1≠p7:=by omega
  have n57:p5≠p7:=by omega
  have s1:=u1.size
  have s5:=u5.size
  have s7:=u7.size
  have F8:Af w w8:=(u1.trans u5).trans u7
  refine Ci.by (fun z W=> ∃(i:Nat) (cs:List Value) (sn:Sl) (vs:List Value),i≤S.nodes.toNat∧z=((i:Int),())∧Az W p7 cs∧cs.length=17∧cs[11]? =some (.pointer (some ⟨p5,0,none⟩))∧cs[12]? =some (bP sn)∧Gs W w8.heap.size T.Bz 1 sn vs.length vs∧vs.length≤i∧Am (fun z=>z=p7) w8 W) (fun z=>S.nodes.toNat-z.1.toNat) ⟨0,_,(none,0,0),[],by omega,rfl,k7,rfl,rfl,rfl,Gs.nil _ _ _ _,Nat.le_refl _,Am.refl _ _⟩ ?_
  rintro z W ⟨i,cs,sn,vs,hi,rfl,K7,hl,h11,h12,O,hv,U⟩ _
  have K1:=k1'.upd U n17
  refine K1.c0 (c:=KI) (x:=S.nodes) rfl (Dx (fun c=>?_) fun c=>?_)
  · have hil:i<S.nodes.toNat:=by have c:(i:Int)<S.nodes:=c;omega
    have ni:wrap .i64 ((i:Int)+1)=((i+1:Nat):Int):=by rw[Ah (by unfold I64;omega)];rfl
    rw[Be]
    have K7:=K7.drew
    have K1:=K1.drew
    have O:=O.Ai (Af.drew W)
    have U:=U.Ai (Af.drew W)
    generalize W.drew=w13 at*
    have gsz:=U.size
    have F13:Af w w13:=Am.trans F8 U fun j hj e=>by omega
    have H1:=fun{T:NP} {w':World} (u:Am T w13 w') (hT: ¬T p1) (j:Nat) (hj:j<11)=>K1.hold u hT j (by exact hj)
    have H7:=fun{T:NP} {w':World} (u:Am T w13 w') (hT: ¬T p7)=>K7.hold u hT 12 (by omega)
    refine K7.c1 12 (c:=.sl) (x:=sn) h12 (K1.cA (cs:=KTs) (tsT S so) rfl (Oy.q (Row.Ai hR F13) fun w17 u17=>?_))
    refine⟨⟨H1 u17 (fun x=>x) 0 (by decide),H1 u17 (fun x=>x) 1 (by decide),H1 u17 (fun x=>x) 2 (by decide),H1 u17 (fun x=>x) 3 (by decide),H1 u17 (fun x=>x) 4 (by decide),H1 u17 (fun x=>x) 5 (by decide),H1 u17 (fun x=>x) 6 (by decide),H1 u17 (fun x=>x) 7 (by decide),H1 u17 (fun x=>x) 8 (by decide),H1 u17 (fun x=>x) 9 (by decide),H1 u17 (fun x=>x) 10 (by decide),H7 u17 (fun x=>x),trivial⟩,?_⟩
    refine Hm.g (s:=Nu S i) fun pq w19 u19=>?_
    have f19:=u17.trans u19
    refine⟨⟨H1 f19 (fun x=>x) 0 (by decide),H1 f19 (fun x=>x) 1 (by decide),H1 f19 (fun x=>x) 2 (by decide),H1 f19 (fun x=>x) 3 (by decide),H1 f19 (fun x=>x) 4 (by decide),H1 f19 (fun x=>x) 5 (by decide),H1 f19 (fun x=>x) 6 (by decide),H1 f19 (fun x=>x) 7 (by decide),H1 f19 (fun x=>x) 8 (by decide),H1 f19 (fun x=>x) 9 (by decide),H1 f19 (fun x=>x) 10 (by decide),H7 f19 (fun x=>x),trivial⟩,?_⟩
    refine Ad fun p20 w21 e20 k20 u20=>?_
    have f21:=f19.trans u20
    refine⟨⟨H1 f21 (fun x=>x) 0 (by decide),H1 f21 (fun x=>x) 1 (by decide),H1 f21 (fun x=>x) 2 (by decide),H1 f21 (fun x=>x) 3 (by decide),H1 f21 (fun x=>x) 4 (by decide),H1 f21 (fun x=>x) 5 (by decide),H1 f21 (fun x=>x) 6 (by decide),H1 f21 (fun x=>x) 7 (by decide),H1 f21 (fun x=>x) 8 (by decide),H1 f21 (fun x=>x) 9 (by decide),H1 f21 (fun x=>x) 10 (by decide),H7 f21 (fun x=>x),trivial⟩,?_⟩
    have z21:=f21.size
    have O21:=O.Ai f21
    refine Vx (s:=sn) (x:=(some ⟨p20,0,none⟩,1,1)) (e:=T.Bz) (size:=1) (base:=w8.heap.size) (n:=vs.length) (xs:=vs) (news:=[.pointer pq]) (by kernel_rfl) (by kernel_rfl) (by decide) O21
      ⟨rfl,fun _=>⟨_,rfl,k20.news⟩⟩ (fun u hu=>by rw[List.mem_singleton.1 hu];rfl) (by show vs.length+1≤_;omega) (by omega) fun y w23 o23 u23 hb=>?_
    have far: ∀q,q<w8.heap.size→ ¬ ∃a,sn.1=some a∧a.block=q:=fun q hq ⟨a,ha,e⟩=>by have:=(O.blk ha).1;omega
    have V23:Am (fun z=> ∃a,sn.1=some a∧a.block=z) w13 w23:=Am.trans (Am.Bj f21) u23 fun _ _ h=>h
    have f1:=far p1 (by omega)
    refine⟨⟨H1 V23 f1 0 (by decide),H1 V23 f1 1 (by decide),H1 V23 f1 2 (by decide),H1 V23 f1 3 (by decide),H1 V23 f1 4 (by decide),H1 V23 f1 5 (by decide),H1 V23 f1 6 (by decide),H1 V23 f1 7 (by decide),H1 V23 f1 8 (by decide),H1 V23 f1 9 (by decide),H1 V23 f1 10 (by decide),trivial⟩,?_⟩
    have K23:=(K7.Ai f21).upd u23 (far p7 (by omega))
    refine K23.sN 12 [bP y] (by rw[hl];show 13≤17;decide) rfl fun w24 k24 u24=>⟨trivial,?_⟩
    refine⟨⟨i+1,_,y,vs++[.pointer pq],by omega,by rw[ni],k24,by rw[I8];exact hl,?_,?_,?_,by rw[List.length_append];show vs.length+1≤i+1;omega,?_⟩,by show _-(wrap .i64 ((i:Int)+1)).toNat<_-((i:Int)).toNat;rw[ni,Int.toNat_natCast,Int.toNat_natCast];omega⟩
    · show(cs.set 12 (bP y))[11]? =_
      rw[List.getElem?_set_ne (by decide)]
      exact h11
    · show(cs.set 12 (bP y))[12]? =_
      rw[List.getElem?_set,if_pos rfl,if_pos (by omega)]
    · have o23:Gs w23 w8.heap.size T.Bz 1 y (vs++[Value.pointer pq]).length (vs++[Value.pointer pq]):=by rw[List.length_append];exact o23
      exact o23.upd u24 fun a ha e=>by have:=(o23.blk ha).1;omega
    · exact Am.trans (Am.trans (U.Ai f21) u23 fun j hj ⟨a,ha,e⟩=>absurd ⟨a,ha,e⟩ (far j hj)) u24 fun _ _ h=>h
  · exact hk p7 p5 cs W K7 h11 (xP.upd U n57) (by omega) (by omega) (fun e=>n57 e.symm) (Am.trans F8 U fun j hj e=>by omega)
end Go.Proofs.YticgocmhmffneaaGreatDoor
