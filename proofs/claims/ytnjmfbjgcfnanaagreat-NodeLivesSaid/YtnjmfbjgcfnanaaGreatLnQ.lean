import Derived.Test.YtnjmfbjgcfnanaaGreatLnA
namespace Go.Proofs.YtnjmfbjgcfnanaaGreat
open Go Go.Eng Tryz
set_option linter.unusedSimpArgs false
set_option linter.unusedVariables false
set_option maxRecDepth 100000
set_option maxHeartbeats 8000000
theorem law26_great.cl{c:Cl}{w:World}{k:TR Wh→WP}(hk: ∀w',Af w w'→k ((decide ((c.bs.2.1:Int)>200)||decide ((c.lab.size:Int)>100),()),()) w'):Ae prog F.law26_great [vCl c] w false Wh k:=by
  refine law26_great.ok ?_
  unfold law26_great.wp
  refine Ad fun p1 w2 e1 k1 u1=>?_
  change Az w2 p1 (encs KCl (cT c)) at k1
  refine k1.c1 18 (c:=.sl) (x:=c.bs) rfl (Dx (fun q=>?_) fun q=>k1.c1 19 (c:=.s) (x:=c.lab) rfl ?_)
  · have:=hk w2 u1
    rw[decide_eq_true q] at this
    exact this
  · have:=hk w2 u1
    rw[decide_eq_false q] at this
    exact this
theorem Afw(x:Jf KSs):((x.1==x.1)&&((x.2.1==x.2.1)&&((x.2.2.1==x.2.2.1)&&((x.2.2.2.1==x.2.2.2.1)&&((x.2.2.2.2.1==x.2.2.2.2.1)&&((x.2.2.2.2.2.1==x.2.2.2.2.2.1)&&((x.2.2.2.2.2.2.1==x.2.2.2.2.2.2.1)&&((x.2.2.2.2.2.2.2.1==x.2.2.2.2.2.2.2.1)&&((x.2.2.2.2.2.2.2.2.1==x.2.2.2.2.2.2.2.2.1)&&((x.2.2.2.2.2.2.2.2.2.1==x.2.2.2.2.2.2.2.2.2.1)&&((x.2.2.2.2.2.2.2.2.2.2.1==x.2.2.2.2.2.2.2.2.2.2.1)&&((x.2.2.2.2.2.2.2.2.2.2.2.1==x.2.2.2.2.2.2.2.2.2.2.2.1)&&true))))))))))))=true:=by
  obtain⟨a,b,c,d,e,f,g,h,i,j,k,l,_⟩:=x
  simp only[beq_self_eq_true,Bool.and_self,Bool.and_true]
def CR(w:World)(x:Jf KCl):Prop:= ∃(c:Cl) (xs:List Nat),x=cT c∧(0≤c.raw∧c.raw<4294967296)∧Ur w c.bs xs∧c.bs.2.1≤c.bs.2.2∧eH xs
theorem Ur.fresh{w:World}{s:Sl}{xs:List Nat}(h:Ur w s xs)(hn:xs≠[]){a:Addr}(ha:s.1=some a):a.block<w.heap.size:=by
  cases xs with
  |nil=>exact absurd rfl hn
  |cons x t=>
    have:=cell_lt (Row.ld h ha (k:=0) rfl)
    rwa [add_block] at this
abbrev vSt(s:nS):Value:=.agg (kD s).toArray
abbrev shS:Shp:=.cons 1 (.i .i64) (.cons 1 (.i .i64) (.cons 1 (.i .i64) (.cons 1 (.i .i64) (.cons 1 (.i .i64) (.cons 1 (.i .i64) (.cons 1 (.i .i64) (.cons 1 (.i .i64) (.cons 1 (.i .i64) (.cons 1 (.i .i64) (.cons 1 (.b) (.nil)))))))))))
theorem Agw{w:World}{cs:List Value}(h:zL w shS cs): ∃s:nS,cs=kD s:=by
  obtain⟨_,_,rfl,_,⟨a0,rfl,_⟩,_,_,rfl,_,⟨a1,rfl,_⟩,_,_,rfl,_,⟨a2,rfl,_⟩,_,_,rfl,_,⟨a3,rfl,_⟩,_,_,rfl,_,⟨a4,rfl,_⟩,_,_,rfl,_,⟨a5,rfl,_⟩,_,_,rfl,_,⟨a6,rfl,_⟩,_,_,rfl,_,⟨a7,rfl,_⟩,_,_,rfl,_,⟨a8,rfl,_⟩,_,_,rfl,_,⟨a9,rfl,_⟩,_,_,rfl,_,⟨b,rfl⟩,hn⟩:=h
  have hn:_=[]:=hn
  subst hn
  exact⟨⟨a0,a1,a2,a3,a4,a5,a6,a7,a8,a9,b⟩,rfl⟩
theorem Aml{n:Int}(h:(Lit.int .u32 n).wf=true):0≤n∧n<4294967296:=by
  have h:((Lit.int .u32 n).wf=true):=h
  simp[Lit.wf,IntKind.min,IntKind.max,IntKind.signed,IntKind.bits] at h
  omega
theorem Aov{n:Int}(h:(Lit.int .u8 n).wf=true):0≤n∧n<256:=by
  have h:((Lit.int .u8 n).wf=true):=h
  simp[Lit.wf,IntKind.min,IntKind.max,IntKind.signed,IntKind.bits] at h
  omega
theorem sF: ∀{w:World} (rows:List (List Value)),(∀r∈rows,r.length=1∧zL w (.i .u8) r)→ ∃xs:List Nat,rows.flatten=dV xs∧eH xs
  |w,[],_=>⟨[],rfl,fun x hx=>by cases hx⟩
  |w,r::rows,h=>by
    obtain⟨xs,e,hx⟩:=sF (w:=w) rows fun q hq=>h q (by simp[hq])
    obtain⟨_,m,rfl,hm⟩:=h r (by simp)
    have hm:=Aov hm
    refine⟨m.toNat::xs,?_,fun x hq=>?_⟩
    · rw[List.flatten_cons,e]
      have:((m.toNat:Nat):Int)=m:=by omega
      show[Value.int .u8 m]++dV xs=Value.int .u8 ((m.toNat:Nat):Int)::dV xs
      rw[this];rfl
    · rcases List.mem_cons.1 hq with rfl|hq
      · omega
      · exact hx x hq
theorem rJ{w:World}{s:Sl}(h:zL w (.sl 1 (.i .u8)) [bP s]): ∃xs:List Nat,Ur w s xs∧s.2.1≤s.2.2∧eH xs:=by
  obtain⟨s',e,hc,_,rows,hl,hr,ho⟩:=h
  have e:s'=s:=by
    simp only[List.cons.injEq,Value.slice.injEq,and_true] at e
    obtain⟨a,b,c⟩:=s
    obtain⟨a',b',c'⟩:=s'
    simp only at e
    rw[e.1,e.2.1,e.2.2]
  subst e
  obtain⟨xs,ex,hx⟩:=sF rows ho
  rw[ex] at hr
  exact⟨xs,hr,hc,hx⟩
abbrev Amb:Shp:=.cons 1 (.i .i64) (.cons 1 (.i .i64) (.cons 1 (.i .i64) (.cons 1 (.i .u32) (.cons 14 (.cons 1 (.i .i64) (.cons 1 (.i .i64) (.cons 1 (.i .i64) (.cons 1 (.i .i64) (.cons 1 (.i .u16) (.cons 1 (.i .u16) (.cons 1 (.i .i64) (.cons 1 (.i .i64) (.cons 1 (.i .i64) (.cons 1 (.i .i64) (.cons 1 (.i .i64) (.cons 1 (.i .i64) (.cons 1 (.i .i64) (.cons 1 (.i .i64) (.nil))))))))))))))) (.cons 1 (.sl 1 (.i .u8)) (.cons 1 (.s) (.nil)))))))
theorem Adw{w:World}{r:List Value}(h:zL w Amb r): ∃x:Jf KCl,r=encs KCl x∧CR w x:=by
  obtain⟨_,_,rfl,_,⟨kd,rfl,_⟩,_,_,rfl,_,⟨n,rfl,_⟩,_,_,rfl,_,⟨jit,rfl,_⟩,_,_,rfl,_,⟨raw,rfl,hraw⟩,_,_,rfl,_,⟨_,_,rfl,_,⟨x0,rfl,_⟩,_,_,rfl,_,⟨x1,rfl,_⟩,_,_,rfl,_,⟨x2,rfl,_⟩,_,_,rfl,_,⟨x3,rfl,_⟩,_,_,rfl,_,⟨x4,rfl,_⟩,_,_,rfl,_,⟨x5,rfl,_⟩,_,_,rfl,_,⟨x6,rfl,_⟩,_,_,rfl,_,⟨x7,rfl,_⟩,_,_,rfl,_,⟨x8,rfl,_⟩,_,_,rfl,_,⟨x9,rfl,_⟩,_,_,rfl,_,⟨x10,rfl,_⟩,_,_,rfl,_,⟨x11,rfl,_⟩,_,_,rfl,_,⟨x12,rfl,_⟩,_,_,rfl,_,⟨x13,rfl,_⟩,hx⟩,_,_,rfl,_,hsl,_,_,rfl,_,⟨lab,rfl,_⟩,hn⟩:=h
  have hn:_=[]:=hn
  have hx:_=[]:=hx
  subst hn hx
  obtain⟨s,rfl,hr⟩:=hsl
  obtain⟨ys,h1,h2,h3⟩:=rJ (w:=w) (s:=s) ⟨s,rfl,hr⟩
  exact⟨cT ⟨kd,n,jit,raw,(x0,x1,x2,x3,x4,x5,x6,x7,x8,x9,x10,x11,x12,x13,()),s,lab⟩,rfl,⟨kd,n,jit,raw,(x0,x1,x2,x3,x4,x5,x6,x7,x8,x9,x10,x11,x12,x13,()),s,lab⟩,ys,rfl,Aml hraw,h1,h2,h3⟩
theorem Aae{w:World}{s:Sl}(h:zL w (.sl 20 Amb) [bP s]): ∃xs:List (Jf KCl),aP w s KCl xs∧ ∀x∈xs,CR w x:=by
  obtain⟨s',e,hc,_,rows,hl,hr,ho⟩:=h
  have e:s'=s:=by
    simp only[List.cons.injEq,Value.slice.injEq,and_true] at e
    obtain⟨a,b,c⟩:=s
    obtain⟨a',b',c'⟩:=s'
    simp only at e
    rw[e.1,e.2.1,e.2.2]
  subst e
  obtain⟨xs,ex,_,hx⟩:=qQ (cs:=KCl) (Q:=fun _=>True) (R:=CR w) rows fun r hr=>by
    obtain⟨x,h1,h2⟩:=Adw (ho r hr).2
    exact⟨x,h1,h2⟩
  rw[ex] at hr
  exact⟨xs,hr,hx⟩
end Go.Proofs.YtnjmfbjgcfnanaaGreat
