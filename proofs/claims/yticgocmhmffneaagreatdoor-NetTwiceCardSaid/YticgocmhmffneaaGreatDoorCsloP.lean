import Derived.Test.YticgocmhmffneaaGreatDoorCref
import Derived.Test.YticgocmhmffneaaGreatDoorEngB
namespace Go.Proofs.YticgocmhmffneaaGreatDoor
open Go.Eng Tryz
open Go.IntKind (wrap)
set_option linter.unusedSimpArgs false
set_option linter.unusedVariables false
set_option maxRecDepth 100000
set_option maxHeartbeats 8000000
def Jm(e:E3):Bool:=decide (0≤e.1)&&decide (e.1≤1125899906842624)&&decide (-1125899906842624≤e.2.1)&&decide (e.2.1≤1125899906842624)&&decide (1≤e.2.2)&&decide (e.2.2≤63)
theorem Yz{e:E3}:Jm e=true↔0≤e.1∧e.1≤1125899906842624∧ -1125899906842624≤e.2.1∧e.2.1≤1125899906842624∧1≤e.2.2∧e.2.2≤63:=by
  simp[Jm,and_assoc]
theorem Acy{x y z:Int}{w2:World}{k:TR [(false,[.b])]→WP}(h:k ((Jm (x,y,z),()),()) w2):
    Aj (decide (x≥0)) (Aj (decide (x≤1125899906842624)) (Aj (decide (y≥Int.negSucc 1125899906842623)) (Aj (decide (y≤1125899906842624)) (Aj (decide (z≥1))
      (k ((decide (z≤63),()),()) w2) (k ((false,()),()) w2)) (k ((false,()),()) w2)) (k ((false,()),()) w2)) (k ((false,()),()) w2)) (k ((false,()),()) w2):=by
  have e:Jm (x,y,z)=(decide (x≥0)&&decide (x≤1125899906842624)&&decide (y≥Int.negSucc 1125899906842623)&&decide (y≤1125899906842624)&&decide (z≥1)&&decide (z≤63)):=rfl
  rw[e] at h
  revert h
  cases decide (x≥0)<;>cases decide (x≤1125899906842624)<;>cases decide (y≥Int.negSucc 1125899906842623)<;>cases decide (y≤1125899906842624)<;>cases decide (z≥1)<;>exact fun h=>h
theorem C9.cl{x y z:Int}{w:World}{k:TR [(false,[.b])]→WP}(h: ∀w',Af w w'→k ((Jm (x,y,z),()),()) w'):
    Ae prog F.C9 [.agg #[iV x,iV y,iV z]] w false [(false,[.b])] k:=by
  refine C9.ok ?_
  unfold C9.wp
  refine Ad fun b w1 e k1 u1=>?_
  simp only[N8,Nat.zero_add,k1.ld (c:=KI) (i:=0) (v:=iV x) (x:=x) rfl (Jk _ _),k1.ld (c:=KI) (i:=1) (v:=iV y) (x:=y) rfl (Jk _ _),k1.ld (c:=KI) (i:=2) (v:=iV z) (x:=z) rfl (Jk _ _)]
  exact Acy (h w1 u1)
def dr(Aw:Int):Int:=min (max Aw 0) 10
theorem pU(Aw:Int):0≤dr Aw∧dr Aw≤10:=by unfold dr;omega
theorem Vr.cl{Aw:Int}{w:World}{k:TR [(true,[KI,KI])]→WP}(h: ∀w',Af w w'→k ((2*dr Aw,1000-dr Aw,()),()) w'):
    Ae prog F.Vr [iV Aw] w false [(true,[KI,KI])] k:=by
  refine Vr.ok ?_
  unfold Vr.wp
  refine Ad fun b w1 e k1 u1=>Qs.cl ?_
  have ec:clamp Aw 0 10=dr Aw:=by unfold clamp dr;omega
  have hd:=pU Aw
  simp only[ec]
  rw[Ah (n:=2*dr Aw) (by unfold I64;omega),Ah (n:=1000-dr Aw) (by unfold I64;omega)]
  refine k1.st _ (by simp) rfl fun w2 k2 u2=>?_
  simp only[k2.sU (c:=KI) (o:=0) (i:=0) (v:=iV (2*dr Aw)) (x:=2*dr Aw) rfl (Jk _ _),k2.sU (c:=KI) (o:=0) (i:=1) (v:=iV (1000-dr Aw)) (x:=1000-dr Aw) rfl (Jk _ _),dY]
  exact h w2 (u1.new u2 (by omega))
theorem Jq.cl{a b t:Int}(ha:I64 a)(hb:I64 b)(ht:I64 t){w:World}{k:TR [(false,[KI])]→WP}(h: ∀w',Af w w'→k ((mdV a t b,()),()) w'):
    Ae prog F.Jq [.agg #[iV a,iV b],iV t] w false [(false,[KI])] k:=by
  refine Jq.ok ?_
  unfold Jq.wp
  refine Ad fun p w1 e k1 u1=>?_
  simp only[N8,Nat.zero_add,k1.ld (c:=KI) (i:=0) (v:=iV a) (x:=a) rfl (Jk _ _),k1.ld (c:=KI) (i:=1) (v:=iV b) (x:=b) rfl (Jk _ _)]
  exact Vl.cl ha ht hb fun w2 g2=>h w2 (u1.trans g2)
theorem Td.cl{a b c d:Int}(ha:0≤a∧I64 a)(hb:0≤b∧I64 b)(hc:0≤c∧I64 c)(hd:0≤d∧I64 d){w:World}{k:TR [(false,[.b])]→WP}(h: ∀w',Af w w'→k ((decide (a*d>c*b),()),()) w'):
    Ae prog F.Td [.agg #[iV a,iV b],.agg #[iV c,iV d]] w false [(false,[.b])] k:=by
  refine Td.ok ?_
  unfold Td.wp
  refine Ad fun p w1 e k1 u1=>Ad fun q w2 e2 k2 u2=>?_
  have k1:=k1.Ai u2
  have W: ∀{x:Int},0≤x∧I64 x→wrap .u64 x=x∧V6 x:=fun{x} hx=>⟨Lp (by unfold I64 at hx;unfold V6;omega),by unfold I64 at hx;unfold V6;omega⟩
  simp only[N8,Nat.zero_add,k1.ld (c:=KI) (i:=0) (v:=iV a) (x:=a) rfl (Jk _ _),k1.ld (c:=KI) (i:=1) (v:=iV b) (x:=b) rfl (Jk _ _),
    k2.ld (c:=KI) (i:=0) (v:=iV c) (x:=c) rfl (Jk _ _),k2.ld (c:=KI) (i:=1) (v:=iV d) (x:=d) rfl (Jk _ _)]
  rw[(W ha).1,(W hd).1]
  refine bits_Mul64.cl (W ha).2 (W hd).2 ?_
  simp only[N8,Nat.zero_add,k1.ld (c:=KI) (i:=0) (v:=iV a) (x:=a) rfl (Jk _ _),k1.ld (c:=KI) (i:=1) (v:=iV b) (x:=b) rfl (Jk _ _),
    k2.ld (c:=KI) (i:=0) (v:=iV c) (x:=c) rfl (Jk _ _),k2.ld (c:=KI) (i:=1) (v:=iV d) (x:=d) rfl (Jk _ _)]
  rw[(W hb).1,(W hc).1]
  refine bits_Mul64.cl (W hc).2 (W hb).2 ?_
  have h:=h w2 (u1.trans u2)
  simp only
  generalize a*d=X at*
  generalize c*b=Y at*
  rw[Ih];split
  · rename_i x;have x:X/18446744073709551616>Y/18446744073709551616:=of_decide_eq_true x
    rw[decide_eq_true (by omega)] at h;exact h
  · rename_i x;have x: ¬X/18446744073709551616>Y/18446744073709551616:=fun y=>x (decide_eq_true y)
    rw[Ih];split
    · rename_i y;have y:X/18446744073709551616=Y/18446744073709551616:=beq_iff_eq.1 y
      have e:decide (X%18446744073709551616>Y%18446744073709551616)=decide (X>Y):=by rw[decide_eq_decide];omega
      rw[e];exact h
    · rename_i y;have y: ¬X/18446744073709551616=Y/18446744073709551616:=fun z=>y (beq_iff_eq.2 z)
      rw[decide_eq_false (by omega)] at h;exact h
theorem Ol.cl{b:Nat}{n sx sy sxy sxx x y:Int}{w:World}(hb:Az w b [iV n,iV sx,iV sy,iV sxy,iV sxx])
    (h1:I64 (n+1)) (h2:I64 (sx+x)) (h3:I64 (sy+y)) (h4:I64 (x*y)) (h5:I64 (sxy+x*y)) (h6:I64 (x*x)) (h7:I64 (sxx+x*x)) {k:TR []→WP}
    (h: ∀w',Az w' b [iV (n+1),iV (sx+x),iV (sy+y),iV (sxy+x*y),iV (sxx+x*x)]→Am (fun z=>z=b) w w'→k () w'):
    Ae prog F.Ol [.pointer (some ⟨b,0,none⟩),iV x,iV y] w true [] k:=by
  refine Ol.ok ?_
  unfold Ol.wp
  simp only[Ac]
  refine hb.i0 rfl (hb.s0 (by simp) fun w1 k1 u1=>?_)
  rw[Ah h1] at k1
  refine k1.i1 1 rfl (k1.s1 1 (by simp) fun w2 k2 u2=>?_)
  rw[Ah h2] at k2
  refine k2.i1 2 rfl (k2.s1 2 (by simp) fun w3 k3 u3=>?_)
  rw[Ah h3] at k3
  refine k3.i1 3 rfl (k3.s1 3 (by simp) fun w4 k4 u4=>?_)
  rw[Ah h4,Ah h5] at k4
  refine k4.i1 4 rfl (k4.s1 4 (by simp) fun w5 k5 u5=>?_)
  rw[Ah h6,Ah h7] at k5
  exact h w5 k5 ((((u1.trans u2 fun _ _ x=>x).trans u3 fun _ _ x=>x).trans u4 fun _ _ x=>x).trans u5 fun _ _ x=>x)
abbrev S5:=Int×Int×Int×Int×Int
def st5(e0:E3)(s:S5)(e:E3):S5:=
  (s.1+1,s.2.1+(e.1-e0.1),s.2.2.1+(e.2.1-e0.2.1),s.2.2.2.1+(e.1-e0.1)*(e.2.1-e0.2.1),s.2.2.2.2+(e.1-e0.1)*(e.1-e0.1))
def sm(e0:E3)(es:List E3):S5:=es.foldl (st5 e0) (0,0,0,0,0)
theorem xQ(e0:E3)(es:List E3)(e:E3):sm e0 (es++[e])=st5 e0 (sm e0 es) e:=by simp[sm,List.foldl_append]
def InR(e0 e:E3):Prop:=0≤e.1-e0.1∧e.1-e0.1≤4194304∧ -4194304≤e.2.1-e0.2.1∧e.2.1-e0.2.1≤4194304
instance (e0 e:E3):Decidable (InR e0 e):=by unfold InR;exact inferInstance
structure SB(s:S5)(n:Nat):Prop where
  cnt:s.1=n
  x0:0≤s.2.1
  x1:s.2.1≤n*4194304
  y0: -(n*4194304)≤s.2.2.1
  y1:s.2.2.1≤n*4194304
  xy0: -(n*17592186044416)≤s.2.2.2.1
  xy1:s.2.2.2.1≤n*17592186044416
  xx0:0≤s.2.2.2.2
  xx1:s.2.2.2.2≤n*17592186044416
theorem kQ{x y m n:Int}(hx0:0≤x)(hx:x≤m)(hy0: -n≤y)(hy:y≤n)(hn:0≤n): -(m*n)≤x*y∧x*y≤m*n:=by
  have h1:x*y≤x*n:=Int.mul_le_mul_of_nonneg_left hy hx0
  have h2:x*n≤m*n:=Int.mul_le_mul_of_nonneg_right hx hn
  have h3:x* -n≤x*y:=Int.mul_le_mul_of_nonneg_left hy0 hx0
  rw[Int.mul_neg] at h3
  exact⟨by omega,by omega⟩
theorem SB.step{e0 e:E3}{s:S5}{n:Nat}(h:SB s n)(r:InR e0 e):SB (st5 e0 s e) (n+1):=by
  obtain⟨r0,r1,r2,r3⟩:=r
  have p:=kQ r0 r1 r2 r3 (by decide)
  have q:=Yp r0 r1 r0 r1
  obtain⟨h0,h1,h2,h3,h4,h5,h6,h7,h8⟩:=h
  constructor<;>simp only[st5]<;>omega
theorem Ac4{e0:E3}: ∀(n:Nat) (es:List E3),es.length=n→(∀e∈es,InR e0 e)→SB (sm e0 es) n
  |0,es,hl,_=>by
    have:es=[]:=List.eq_nil_of_length_eq_zero hl
    subst this
    constructor<;>simp[sm]
  |n+1,es,hl,h=>by
    have hne:es≠[]:=by intro e;subst e;cases hl
    obtain⟨l,e,rfl⟩: ∃l e,es=l++[e]:=⟨es.dropLast,es.getLast hne,(List.dropLast_concat_getLast hne).symm⟩
    rw[xQ]
    exact(Ac4 n l (by simpa using hl) fun x hx=>h x (by simp[hx])).step (h e (by simp))
theorem Aly{e0 e:E3}{A B:Prop}(hA: ¬InR e0 e→A)(hB:InR e0 e→B):
    Aj (decide (e.1-e0.1<0)) A (Aj (decide (e.1-e0.1>4194304)) A (Aj (decide (e.2.1-e0.2.1<Int.negSucc 4194303)) A (Aj (decide (e.2.1-e0.2.1>4194304)) A B))):=by
  refine Dx (fun h=>hA fun x=>?_) fun h1=>Dx (fun h=>hA fun x=>?_) fun h2=>Dx (fun h=>hA fun x=>?_) fun h3=>Dx (fun h=>hA fun x=>?_) fun h4=>hB ?_
  · have:=x.1;omega
  · have:=x.2.1;omega
  · have:=x.2.2.1;omega
  · have:=x.2.2.2;omega
  · refine⟨by omega,by omega,by omega,by omega⟩
theorem take_snoc{α:Type}{es:List α}{i:Nat}{e:α}(h:es[i]? =some e):es.take (i+1)=es.take i++[e]:=by
  rw[List.take_add_one,h];rfl
theorem Rt.cl{s:Sl}{es:List E3}{e0:E3}{w:World}(hE:Ku w s es)(hg: ∀e∈es,Jm e=true)(hn:es.length≤8)(h0:es[0]? =some e0)
    {k:TR [(true,[KI,KI,KI,KI,KI]),(false,[.b])]→WP}
    (hk:(∀e∈es,InR e0 e)→ ∀w',Af w w'→k (((sm e0 es).1,(sm e0 es).2.1,(sm e0 es).2.2.1,(sm e0 es).2.2.2.1,(sm e0 es).2.2.2.2,()),(true,()),()) w')
    (hf: ¬(∀e∈es,InR e0 e)→ ∀w',Af w w'→k ((0,0,0,0,0,()),(false,()),()) w'):
    Ae prog F.Rt [.slice s.1 s.2.1 s.2.2] w true [(true,[KI,KI,KI,KI,KI]),(false,[.b])] k:=by
  refine Rt.ok ?_
  unfold Rt.wp
  refine Ad fun p1 w1 e1 k1 u1=>Ad fun p3 w2 e3 k3 u3=>?_
  have l1:=k1.lt
  have hl:=hE.len
  have k1:=k1.Ai u3
  have g2:=u1.trans u3
  have hp:p1≠p3∧w.heap.size≤p1∧w.heap.size≤p3:=by have:=u1.size;omega
  refine Ci.by (fun z w'=>Af w w'∧Az w' p1 [iV 0,iV 0,iV 0,iV 0,iV 0]∧ ∃i:Nat,z=((i:Int),())∧i≤es.length∧(∀e∈es.take i,InR e0 e)∧
      Az w' p3 [iV (sm e0 (es.take i)).1,iV (sm e0 (es.take i)).2.1,iV (sm e0 (es.take i)).2.2.1,iV (sm e0 (es.take i)).2.2.2.1,iV (sm e0 (es.take i)).2.2.2.2])
    (fun z=>(8-z.1).toNat) ⟨g2,k1,0,rfl,by omega,by simp,k3⟩ ?_
  clear k1 k3 g2
  rintro z w3 ⟨g,k1,i,rfl,hi,hr,k3⟩ _
  refine Dx (fun c=>?_) (fun c=>?_)
  · have hi':i<es.length:=by have c:(i:Int)<(s.2.1:Int):=c;omega
    have he:es[i]? =some es[i]:=List.getElem?_eq_getElem hi'
    generalize es[i]=e at he
    have hE3:=hE.Ai g
    refine hE3.ix rfl he fun a ha=>hE3.A8 ha he ?_
    refine Ad fun p w4 e4 k4 u4=>k4.Fg _ rfl rfl fun w5 k5 u5=>?_
    rw[Be]
    have g5:Af w w5.drew:=(Am.drew (Am.new (Am.Ai g u4) u5 (fun h=>absurd g.size (by omega))))
    have hE5:=hE.Ai g5
    have ge:=Yz.1 (hg e (List.mem_of_getElem? he))
    have ge0:=Yz.1 (hg e0 (List.mem_of_getElem? h0))
    refine k5.drew.i0 rfl (hE5.ix (i:=0) rfl h0 fun a' ha'=>hE5.f0 ha' (i:=0) rfl h0 (k5.drew.i1 1 rfl (hE5.ix (i:=0) rfl h0 fun a' ha'=>hE5.f1 ha' (i:=0) rfl h0 ?_)))
    simp only
    rw[Ah (n:=e.1-e0.1) (by unfold I64;omega),Ah (n:=e.2.1-e0.2.1) (by unfold I64;omega)]
    have l4:=k1.lt
    have l3:=k3.lt
    have k1:=((k1.Ai u4).upd u5 (by omega)).drew
    have k3:=((k3.Ai u4).upd u5 (by omega)).drew
    refine Aly (fun r=>?_) (fun r=>?_)
    · refine k1.Fg _ rfl rfl fun w6 k6 u6=>k6.ld5 ?_
      exact hf (fun x=>r (x e (List.mem_of_getElem? he))) w6 (Am.new g5 u6 (by omega))
    · have sb:=Ac4 i (es.take i) (by simp;omega) hr
      have sb':=sb.step r
      obtain⟨r0,r1,r2,r3⟩:=r
      have p:=kQ r0 r1 r2 r3 (by decide)
      have q:=Yp r0 r1 r0 r1
      obtain⟨a0,a1,a2,a3,a4,a5,a6,a7,a8⟩:=sb
      refine Ol.cl k3 (by unfold I64;omega) (by unfold I64;omega) (by unfold I64;omega) (by unfold I64;omega) (by unfold I64;omega) (by unfold I64;omega) (by unfold I64;omega) fun w6 k6 u6=>?_
      have e6:wrap .i64 ((i:Int)+1)=((i+1:Nat):Int):=by rw[Ah (by unfold I64;omega)];rfl
      refine⟨⟨Am.new g5 u6 (by omega),k1.upd u6 (by omega),i+1,?_,by omega,?_,?_⟩,?_⟩
      · show(_,())=_;rw[e6]
      · intro x hx
        rw[take_snoc he] at hx
        rcases List.mem_append.1 hx with hx|hx
        · exact hr x hx
        · simp at hx;subst hx;exact⟨r0,r1,r2,r3⟩
      · rw[take_snoc he,xQ];exact k6
      · show(8-wrap .i64 ((i:Int)+1)).toNat<(8-(i:Int)).toNat
        rw[e6];omega
  · have hi':i=es.length:=by have c: ¬(i:Int)<(s.2.1:Int):=c;omega
    subst hi'
    rw[List.take_length] at hr k3
    refine k3.ld5 (k1.Fg _ rfl rfl fun w4 k4 u4=>k4.ld5 ?_)
    exact hk hr w4 (Am.new g u4 (by omega))
def Y5(e0:E3)(es:List E3):Int:=(sm e0 es).1*(sm e0 es).2.2.2.1-(sm e0 es).2.1*(sm e0 es).2.2.1
def Xc(e0:E3)(es:List E3):Int:=(sm e0 es).1*(sm e0 es).2.2.2.2-(sm e0 es).2.1*(sm e0 es).2.1
def bound(Aw a b:Int):Int×Int:=
  if 0<a∧a*(1000-dr Aw)>2*dr Aw*b then(2*dr Aw,1000-dr Aw) else if a<0∧ -a*(1000-dr Aw)>2*dr Aw*b then(-(2*dr Aw),1000-dr Aw) else(a,b)
def Xo(Aw:Int)(es:List E3):Int×Int:=
  if es.length<2∨8<es.length∨ ¬(∀e∈es,Jm e=true)∨ ¬(∀e∈es,InR (es.headD (0,0,0)) e)∨Xc (es.headD (0,0,0)) es<1 then(0,1)
  else bound Aw (Y5 (es.headD (0,0,0)) es) (Xc (es.headD (0,0,0)) es)
theorem Wi{Aw:Int}{es:List E3}(h:es.length<2∨8<es.length∨ ¬(∀e∈es,Jm e=true)∨ ¬(∀e∈es,InR (es.headD (0,0,0)) e)∨Xc (es.headD (0,0,0)) es<1):Xo Aw es=(0,1):=by
  unfold Xo;rw[if_pos h]
theorem qM{e0:E3}{es:List E3}(hn:es.length≤8)(h: ∀e∈es,InR e0 e):
    I64 ((sm e0 es).1*(sm e0 es).2.2.2.1)∧I64 ((sm e0 es).2.1*(sm e0 es).2.2.1)∧I64 ((sm e0 es).1*(sm e0 es).2.2.2.2)∧I64 ((sm e0 es).2.1*(sm e0 es).2.1)∧
    -2251799813685248≤Y5 e0 es∧Y5 e0 es≤2251799813685248∧Xc e0 es≤1125899906842624∧ -1125899906842624≤Xc e0 es∧(sm e0 es).1=es.length:=by
  obtain⟨a0,a1,a2,a3,a4,a5,a6,a7,a8⟩:=Ac4 es.length es rfl h
  have b1:=kQ (x:=(sm e0 es).1) (y:=(sm e0 es).2.2.2.1) (m:=8) (n:=140737488355328) (by omega) (by omega) (by omega) (by omega) (by omega)
  have b2:=kQ (x:=(sm e0 es).2.1) (y:=(sm e0 es).2.2.1) (m:=33554432) (n:=33554432) (by omega) (by omega) (by omega) (by omega) (by omega)
  have b3:=Yp (a:=(sm e0 es).1) (b:=(sm e0 es).2.2.2.2) (m:=8) (n:=140737488355328) (by omega) (by omega) (by omega) (by omega)
  have b4:=Yp (a:=(sm e0 es).2.1) (b:=(sm e0 es).2.1) (m:=33554432) (n:=33554432) (by omega) (by omega) (by omega) (by omega)
  unfold Y5 Xc I64
  refine⟨by omega,by omega,by omega,by omega,by omega,by omega,by omega,by omega,a0⟩
theorem Ajh{Aw:Int}:(0≤2*dr Aw∧I64 (2*dr Aw))∧(0≤1000-dr Aw∧I64 (1000-dr Aw)):=by have:=pU Aw;unfold I64;omega
theorem Xt.cl{Aw:Int}{s:Sl}{es:List E3}{w:World}(hE:Ku w s es){k:TR [(true,[KI,KI])]→WP}
    (hk: ∀w',Af w w'→k (((Xo Aw es).1,(Xo Aw es).2,()),()) w'):
    Ae prog F.Xt [iV Aw,.slice s.1 s.2.1 s.2.2] w false [(true,[KI,KI])] k:=by
  refine Xt.ok ?_
  unfold Xt.wp
  refine Ad fun p1 w1 e1 k1 u1=>Ad fun p3 w2 e3 k3 u3=>?_
  have l1:=k1.lt
  have hl:=hE.len
  refine k3.Fg _ rfl rfl fun w3 k3 v3=>?_
  have k1:=(k1.Ai u3).upd v3 (by omega)
  have hp:p1≠p3∧w.heap.size≤p1∧w.heap.size≤p3:=by have:=u1.size;omega
  have g3:Af w w3:=(u1.trans u3).new v3 (by omega)
  clear e1 u1 e3 u3 l1 v3
  have out: ∀{w':World} {x y:Int},Xo Aw es=(0,1)→Af w w'→Az w' p1 [iV x,iV y]→Az w' p3 [iV 0,iV 1]→
      A8 [KI,KI] ⟨p3,0,none⟩ 0 w' fun x6=>Au [iV x6.1,iV x6.2.1] ⟨p1,0,none⟩ 0 w' fun w7=>A8 [KI,KI] ⟨p1,0,none⟩ 0 w7 fun x8=>k ((x8.1,x8.2.1,()),()) w7:=by
    intro w' x y e g q1 q3
    refine q3.ld2 (q1.Fg _ rfl rfl fun w7 k7 u7=>k7.ld2 ?_)
    have:=hk w7 (Am.new g u7 (by omega))
    rw[e] at this;exact this
  refine Dx (fun c=>out (Wi (.inl ?_)) g3 k1 k3) fun c1=>Dx (fun c=>out (Wi (.inr (.inl ?_))) g3 k1 k3) fun c2=>?_
  · have c:(s.2.1:Int)<2:=c;omega
  · have c:(s.2.1:Int)>8:=c;omega
  have c1: ¬(s.2.1:Int)<2:=c1
  have c2: ¬(s.2.1:Int)>8:=c2
  refine Ci.by (fun z w'=>Af w w'∧Az w' p1 [iV 0,iV 0]∧Az w' p3 [iV 0,iV 1]∧ ∃i:Nat,z=((i:Int),())∧i≤es.length∧(∀e∈es.take i,Jm e=true))
    (fun z=>(8-z.1).toNat) ⟨g3,k1,k3,0,rfl,by omega,by simp⟩ ?_
  clear k1 k3 g3
  rintro z w4 ⟨g,k1,k3,i,rfl,hi,hr⟩ _
  refine Dx (fun c=>?_) (fun c=>?_)
  · have hi':i<es.length:=by have c:(i:Int)<(s.2.1:Int):=c;omega
    have he:es[i]? =some es[i]:=List.getElem?_eq_getElem hi'
    generalize es[i]=e at he
    have hE3:=hE.Ai g
    refine hE3.ix rfl he fun a ha=>hE3.A8 ha he ?_
    refine Ad fun p w5 e4 k4 u4=>k4.Fg _ rfl rfl fun w6 k5 u5=>k5.bC (C9.cl fun w7 u6=>?_)
    have l4:=k1.lt
    have l3:=k3.lt
    have k1:=((k1.Ai u4).upd u5 (by omega)).Ai u6
    have k3:=((k3.Ai u4).upd u5 (by omega)).Ai u6
    have g7:Af w w7:=Am.Ai (Am.new (Am.Ai g u4) u5 (fun h=>absurd g.size (by omega))) u6
    refine Ee (fun hb=>out (Wi (.inr (.inr (.inl fun x=>?_)))) g7 k1 k3) fun hb=>?_
    · have hb:Jm e=false:=hb
      have:=x e (List.mem_of_getElem? he);rw[hb] at this;cases this
    · have e6:wrap .i64 ((i:Int)+1)=((i+1:Nat):Int):=by rw[Ah (by unfold I64;omega)];rfl
      refine⟨⟨g7,k1,k3,i+1,?_,by omega,?_⟩,?_⟩
      · show(_,())=_;rw[e6]
      · intro x hx
        rw[take_snoc he] at hx
        rcases List.mem_append.1 hx with hx|hx
        · exact hr x hx
        · simp at hx;subst hx;exact hb
      · show(8-wrap .i64 ((i:Int)+1)).toNat<(8-(i:Int)).toNat
        rw[e6];omega
  have hi':i=es.length:=by have c: ¬(i:Int)<(s.2.1:Int):=c;omega
  subst hi'
  rw[List.take_length] at hr
  obtain⟨e0,he0⟩: ∃e0,es[0]? =some e0:=⟨_,List.getElem?_eq_getElem (show 0<es.length by omega)⟩
  have hd0:es.headD (0,0,0)=e0:=by cases es;cases he0;simpa using he0
  refine Rt.cl (hE.Ai g) hr (by omega) he0 (fun hin w5 u5=>?_) (fun hin w5 u5=>?_)
  rotate_left
  ·
    refine Ad fun p28 w6 e6 k6 u6=>k6.Fg _ rfl rfl fun w7 k7 u7=>?_
    refine k7.i0 rfl (k7.i1 4 rfl (k7.i1 1 rfl (k7.i1 1 rfl (Ee (fun _=>?_) fun h=>by cases h))))
    have l1:=k1.lt
    have l3:=k3.lt
    have s5:=u5.size
    exact out (Wi (.inr (.inr (.inr (.inl (by rw[hd0];exact hin)))))) (Am.new (Am.Ai (Am.Ai g u5) u6) u7 (fun h=>absurd g.size (by omega))) (((k1.Ai u5).Ai u6).upd u7 (by omega)) (((k3.Ai u5).Ai u6).upd u7 (by omega))
  obtain⟨b1,b2,b3,b4,b5,b6,b7,b8,b9⟩:=qM (e0:=e0) (by omega) hin
  have ea:wrap .i64 (wrap .i64 ((sm e0 es).1*(sm e0 es).2.2.2.1)-wrap .i64 ((sm e0 es).2.1*(sm e0 es).2.2.1))=Y5 e0 es:=by
    rw[Ah b1,Ah b2];exact Ah (by unfold Y5 at b5 b6;unfold I64;omega)
  have eb:wrap .i64 (wrap .i64 ((sm e0 es).1*(sm e0 es).2.2.2.2)-wrap .i64 ((sm e0 es).2.1*(sm e0 es).2.1))=Xc e0 es:=by
    rw[Ah b3,Ah b4];exact Ah (by unfold Xc at b7 b8;unfold I64;omega)
  refine Ad fun p28 w6 e6 k6 u6=>k6.Fg _ rfl rfl fun w7 k7 u7=>?_
  change Az w7 p28 [iV (sm e0 es).1,iV (sm e0 es).2.1,iV (sm e0 es).2.2.1,iV (sm e0 es).2.2.2.1,iV (sm e0 es).2.2.2.2] at k7
  have l1:=k1.lt
  have l3:=k3.lt
  have s5:=u5.size
  have g7:Af w w7:=Am.new (Am.Ai (Am.Ai g u5) u6) u7 (fun h=>absurd g.size (by omega))
  have k1:=((k1.Ai u5).Ai u6).upd u7 (by omega)
  have k3:=((k3.Ai u5).Ai u6).upd u7 (by omega)
  refine k7.i0 rfl (k7.i1 4 rfl (k7.i1 1 rfl (k7.i1 1 rfl (Ee (fun h=>by cases h) fun _=>?_))))
  rw[eb]
  refine Dx (fun c=>?_) fun c=>?_
  · exact out (Wi (.inr (.inr (.inr (.inr (by rw[hd0];exact c)))))) g7 k1 k3
  refine k7.i0 rfl (k7.i1 3 rfl (k7.i1 1 rfl (k7.i1 2 rfl ?_)))
  rw[ea]
  have hv:Xo Aw es=bound Aw (Y5 e0 es) (Xc e0 es):=by
    unfold Xo
    rw[hd0,if_neg]
    intro h
    rcases h with h|h|h|h|h
    · omega
    · omega
    · exact h hr
    · exact h hin
    · exact c h
  rw[hv] at hk
  have hD:0≤Xc e0 es∧I64 (Xc e0 es):=by unfold I64;omega
  clear out hv ea eb
  generalize Y5 e0 es=A at*
  generalize Xc e0 es=B at*
  refine Vr.cl fun w8 u8=>Ad fun p47 w9 e9 k9 u9=>k9.Fg _ rfl rfl fun w10 k10 u10=>?_
  change Az w10 p47 [iV (2*dr Aw),iV (1000-dr Aw)] at k10
  have s8:=u8.size
  have l1:=k1.lt
  have g10:Af w w10:=Am.new (Am.Ai (Am.Ai g7 u8) u9) u10 (fun h=>absurd g7.size (by omega))
  have k1:=((k1.Ai u8).Ai u9).upd u10 (by omega)
  have hp47:p1≠p47:=by omega
  have hw47:w.heap.size≤p47:=by have:=g7.size;omega
  clear k3 k6 k7 k9 u5 u6 u7 u8 u9 u10 g g7 e6 e9 l1 l3 s5 s8
  refine Cc.by (fun z w'=>z.1=decide (0<A∧A*(1000-dr Aw)>2*dr Aw*B)∧Af w w'∧Az w' p1 [iV 0,iV 0]∧Az w' p47 [iV (2*dr Aw),iV (1000-dr Aw)]) ?_ ?_
  · refine Dx (fun h=>k10.ld2 ?_) fun h=>⟨?_,g10,k1,k10⟩
    · refine Td.cl (by unfold I64;omega) hD Ajh.1 Ajh.2 fun w11 u11=>⟨?_,g10.trans u11,k1.Ai u11,k10.Ai u11⟩
      show decide _=decide _
      rw[decide_eq_decide]
      exact⟨fun x=>⟨h,x⟩,fun x=>x.2⟩
    · symm;exact decide_eq_false fun x=>h x.1
  clear k1 k10 g10
  rintro⟨z,u⟩ w10 ⟨hz,g10,k1,k10⟩ _
  simp only at hz
  refine bM (fun h=>?_) fun h=>?_
  · rw[show z=true from h] at hz
    have hz:=of_decide_eq_true hz.symm
    refine k10.ld2 (k1.Fg _ rfl rfl fun w11 k11 u11=>k11.ld2 ?_)
    have:=hk w11 (Am.new g10 u11 (by omega))
    unfold bound at this
    rw[if_pos hz] at this;exact this
  rw[show z=false from h] at hz
  have hz:=of_decide_eq_false hz.symm
  refine Cc.by (fun z w'=>z.1=decide (A<0∧ -A*(1000-dr Aw)>2*dr Aw*B)∧Af w w'∧Az w' p1 [iV 0,iV 0]∧Az w' p47 [iV (2*dr Aw),iV (1000-dr Aw)]) ?_ ?_
  · have wA:wrap .i64 (0-A)= -A:=by rw[Ah (by unfold I64;omega)];omega
    rw[wA]
    refine Dx (fun h=>k10.ld2 ?_) fun h=>⟨?_,g10,k1,k10⟩
    · refine Td.cl (by unfold I64;omega) hD Ajh.1 Ajh.2 fun w11 u11=>⟨?_,g10.trans u11,k1.Ai u11,k10.Ai u11⟩
      show decide _=decide _
      rw[decide_eq_decide]
      exact⟨fun x=>⟨h,x⟩,fun x=>x.2⟩
    · symm;exact decide_eq_false fun x=>h x.1
  clear k1 k10 g10
  rintro⟨z,u⟩ w10 ⟨hz2,g10,k1,k10⟩ _
  simp only at hz2
  refine bM (fun h=>?_) fun h=>?_
  · rw[show z=true from h] at hz2
    have hz2:=of_decide_eq_true hz2.symm
    have wD:wrap .i64 (0-2*dr Aw)= -(2*dr Aw):=by have:=pU Aw;rw[Ah (by unfold I64;omega)];omega
    refine k10.i0 rfl (k10.i1 1 rfl ?_)
    rw[wD]
    refine k1.Fg _ rfl rfl fun w11 k11 u11=>k11.ld2 ?_
    have:=hk w11 (Am.new g10 u11 (by omega))
    unfold bound at this
    rw[if_neg hz,if_pos hz2] at this;exact this
  · rw[show z=false from h] at hz2
    have hz2:=of_decide_eq_false hz2.symm
    refine k1.Fg _ rfl rfl fun w11 k11 u11=>k11.ld2 ?_
    have:=hk w11 (Am.new g10 u11 (by omega))
    unfold bound at this
    rw[if_neg hz,if_neg hz2] at this;exact this
structure SV(Aw:Int)(v:Int×Int):Prop where
  d0:1≤v.2
  d1:v.2≤1125899906842624
  n0: -2251799813685248≤v.1
  n1:v.1≤2251799813685248
  up:v.1*(1000-dr Aw)≤2*dr Aw*v.2
  dn: -v.1*(1000-dr Aw)≤2*dr Aw*v.2
theorem Aex(Aw:Int)(es:List E3):SV Aw (Xo Aw es):=by
  have hd:=pU Aw
  unfold Xo
  split
  · exact⟨by decide,by decide,by decide,by decide,by simp only;omega,by simp only;omega⟩
  · rename_i h
    have hin: ∀e∈es,InR (es.headD (0,0,0)) e:=Classical.byContradiction fun x=>h (.inr (.inr (.inr (.inl x))))
    have hn: ¬8<es.length:=fun x=>h (.inr (.inl x))
    have hB: ¬Xc (es.headD (0,0,0)) es<1:=fun x=>h (.inr (.inr (.inr (.inr x))))
    obtain⟨_,_,_,_,b5,b6,b7,b8,_⟩:=qM (e0:=es.headD (0,0,0)) (by omega) hin
    generalize Y5 (es.headD (0,0,0)) es=A at*
    generalize Xc (es.headD (0,0,0)) es=B at*
    have cd:0≤2*dr Aw*B:=Int.mul_nonneg (by omega) (by omega)
    have cc:0≤2*dr Aw*(1000-dr Aw):=Int.mul_nonneg (by omega) (by omega)
    unfold bound
    split
    · exact⟨by simp only;omega,by simp only;omega,by simp only;omega,by simp only;omega,Int.le_refl _,by simp only;rw[Int.neg_mul];omega⟩
    · rename_i h1
      split
      · exact⟨by simp only;omega,by simp only;omega,by simp only;omega,by simp only;omega,by simp only;rw[Int.neg_mul];omega,by simp only;rw[Int.neg_neg];omega⟩
      · rename_i h2
        refine⟨by simp only;omega,by simp only;omega,by simp only;omega,by simp only;omega,?_,?_⟩
        · simp only
          by_cases x:0<A
          · have: ¬A*(1000-dr Aw)>2*dr Aw*B:=fun y=>h1 ⟨x,y⟩
            omega
          · have:=Int.mul_le_mul_of_nonneg_right (show A≤0 by omega) (show 0≤1000-dr Aw by omega)
            omega
        · simp only
          by_cases x:A<0
          · have: ¬ -A*(1000-dr Aw)>2*dr Aw*B:=fun y=>h2 ⟨x,y⟩
            omega
          · have:=Int.mul_le_mul_of_nonneg_right (show-A≤0 by omega) (show 0≤1000-dr Aw by omega)
            omega
end Go.Proofs.YticgocmhmffneaaGreatDoor
