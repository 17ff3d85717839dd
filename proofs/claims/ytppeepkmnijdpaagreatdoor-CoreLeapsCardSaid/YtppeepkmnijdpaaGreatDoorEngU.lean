import Derived.Test.YtppeepkmnijdpaaGreatDoorEngB
namespace Go.Eng
open Go Go.RowKit
set_option linter.unusedSimpArgs false
set_option linter.unusedVariables false
set_option maxRecDepth 100000
set_option maxHeartbeats 8000000
def Dp(w:World)(base:Nat)(e:TypeId)(size:Nat)(s:Sl)(n:Nat)(xs:List Value):Prop:=w.ownsRow base e size (.slice s.1 s.2.1 s.2.2) n xs
theorem Dp.nil(w:World)(base:Nat)(e:TypeId)(size:Nat):Dp w base e size (none,0,0) 0 []:=Ap6 w base e size
theorem Dp.row{w:World}{base size n:Nat}{e:TypeId}{s:Sl}{xs:List Value}(h:Dp w base e size s n xs):Row w s size xs:=Afq h
theorem Dp.vN{w:World}{base n:Nat}{e:TypeId}{s:Sl}{es:List E3}(h:Dp w base e 3 s n (flat3 es)):Nu w s es:=Afq h
theorem Dp.len{w:World}{base size n:Nat}{e:TypeId}{s:Sl}{xs:List Value}(h:Dp w base e size s n xs):s.2.1=n:=by
 rcases h.2 with ⟨h0,h1⟩|⟨g,cap,cur,hv,_⟩
 ·simp only[Value.slice.injEq] at h0;omega
 ·simp only[Value.slice.injEq] at hv;exact hv.2.1
theorem Dp.blk{w:World}{base size n:Nat}{e:TypeId}{s:Sl}{xs:List Value}(h:Dp w base e size s n xs){a:Addr}(ha:s.1=some a):base≤a.block∧a.block<w.heap.size∧a=⟨a.block,0,Option.none⟩:=by
 rcases h.2 with ⟨h0,h1⟩|⟨g,cap,cur,hv,hb,hg,_⟩
 ·simp only[Value.slice.injEq] at h0;rw[h0.1] at ha;cases ha
 ·simp only[Value.slice.injEq] at hv;rw[hv.1] at ha;cases ha
  exact⟨hb,(Array.getElem?_eq_some_iff.1 hg).1,rfl⟩
theorem Dp.cells{w:World}{base size n:Nat}{e:TypeId}{s:Sl}{xs:List Value}(h:Dp w base e size s n xs){a:Addr}(ha:s.1=some a): ∃cs,Ar w a.block cs:=by
 rcases h.2 with ⟨h0,h1⟩|⟨g,cap,cur,hv,hb,hg,_⟩
 ·simp only[Value.slice.injEq] at h0;rw[h0.1] at ha;cases ha
 ·simp only[Value.slice.injEq] at hv;rw[hv.1] at ha;cases ha
  exact⟨cur.toList,e,by rw[hg,Array.toArray_toList]⟩
theorem Dp.gJ{w:World}{base base' size n:Nat}{e:TypeId}{s:Sl}{xs:List Value}(h:Dp w base e size s n xs)(hb: ∀a,s.1=some a→base'≤a.block):Dp w base' e size s n xs:=by
 refine⟨h.1,?_⟩
 rcases h.2 with ⟨h0,h1⟩|⟨g,cap,cur,hv,hbg,rest⟩
 ·exact .inl ⟨h0,h1⟩
 ·simp only[Value.slice.injEq] at hv
  exact .inr ⟨g,cap,cur,by simp[hv],hb _ hv.1,rest⟩
theorem Dp.kept{w w':World}{base size n:Nat}{e:TypeId}{s:Sl}{xs:List Value}(h:Dp w base e size s n xs)(hk: ∀a o,s.1=some a→w.heap[a.block]? =some o→o.isCells=true→w'.heap[a.block]? =some o):Dp w' base e size s n xs:=by
 refine⟨h.1,?_⟩
 rcases h.2 with ⟨h0,h1⟩|⟨g,cap,cur,hv,hbg,hg,rest⟩
 ·exact .inl ⟨h0,h1⟩
 ·have h1:=hv
  simp only[Value.slice.injEq] at h1
  exact .inr ⟨g,cap,cur,hv,hbg,hk _ _ h1.1 hg rfl,rest⟩
theorem Dp.upd{w w':World}{S:NP}{base size n:Nat}{e:TypeId}{s:Sl}{xs:List Value}(h:Dp w base e size s n xs)(u:Ap S w w')(hS: ∀a,s.1=some a→ ¬S a.block):Dp w' base e size s n xs:=
 h.kept λa o ha ho _=>by rw[u.block _ (Array.getElem?_eq_some_iff.1 ho).1 (hS a ha)];exact ho
theorem Dp.Ai{w w':World}{base size n:Nat}{e:TypeId}{s:Sl}{xs:List Value}(h:Dp w base e size s n xs)(u:Ah w w'):Dp w' base e size s n xs:=h.upd u λ_ _ x=>x
theorem nU{P:Program}{w:World}{t ty e:TypeId}{i:TypeInfo}(ht:P.underlying t=some (.slice e))(hi:P.info? e=some i)(b:Option Addr)(n c c':Nat)(h:n≤c):
  (Builtin.append_ #[t,t] ty #[.slice b n c,.slice none 0 c']).run P w=.ok (.slice b n c) w:=by
 cases b<;>simp[Builtin.append_,run_underlying ht,sizeOf,typeInfo,hi,Builtin.lenOf,Builtin.firstCells,loadCells,loadCellsFrom,storeCells,h]
theorem S9{P:Program}{w:World}{t ty e:TypeId}{base size n:Nat}{s x:Sl}{xs news:List Value}{k:Sl→WP}
  (ht:P.underlying t=some (.slice e)) (hi:zN P e size=true) (hsz:0<size) (hown:Dp w base e size s n xs) (hrow:Row w x size news) (h1: ∀u∈news,u.oneCell'=true)
  (hb:n+x.2.1≤1000000000) (hbase:base≤w.heap.size)
  (hk: ∀s' w',Dp w' base e size s' (n+x.2.1) (xs++news)→Ap (λb=> ∃a,s.1=some a∧a.block=b) w w'→
   (∀a,s'.1=some a→(∃a0,s.1=some a0∧a.block=a0.block)∨w.heap.size≤a.block)→k s' w'):
  Qj ((Builtin.append_ #[t,t] ty #[.slice s.1 s.2.1 s.2.2,.slice x.1 x.2.1 x.2.2]).run P w) k:=by
 unfold zN at hi
 split at hi
 case h_2=>cases hi
 rename_i i hi'
 simp only[Bool.and_eq_true,beq_iff_eq,decide_eq_true_eq] at hi
 obtain⟨⟨i1,i2⟩,i3⟩:=hi
 split at i3
 case h_2=>cases i3
 rename_i z hz
 have i3:=beq_iff_eq.1 i3
 obtain⟨x1,x2,x3⟩:=x
 cases x1 with
 |none=>
  have hn:news=[]:=by
   by_cases h:news=[]
   ·exact h
   ·obtain⟨a,ha,_⟩:=hrow.at_ h;cases ha
  subst hn
  have hx2:x2=0:=by
   have:=hrow.len
   simp only[List.length_nil] at this
   rcases Nat.mul_eq_zero.1 this with h|h
   ·exact h
   ·omega
  subst hx2
  have hcap:s.2.1≤s.2.2:=by
   rcases hown.2 with ⟨h0,_⟩|⟨g,cap,cur,hv,_,_,hc,_⟩
   ·simp only[Value.slice.injEq] at h0;omega
   ·simp only[Value.slice.injEq] at hv;rw[hv.2.1,hv.2.2];exact hc
  rw[nU ht hi' _ _ _ _ hcap]
  exact hk s w (by simpa using hown) (Ap.refl _ _) λa ha=>.inl ⟨a,ha,rfl⟩
 |some p=>
  have hl:news.length=x2*size:=hrow.len.symm
  have hnews: ∀j u,news[j]? =some u→w.cell? (p.add j)=some u:=λj u hj=>hrow.ld rfl hj
  have h63:n+x2≤maxLen:=by unfold maxLen;show n+x2≤_;have:n+x2≤1000000000:=hb;omega
  have hbb:n+x2≤1000000000:=hb
  have hbytes:(n+x2)*i.bytes≤140737488355328:=by have:=Nat.mul_le_mul hbb i2;omega
  have typed: ∀(v':Value) (w':World) (b0:Nat),w'.ownsRow b0 e size v' (n+x2) (xs++news)→ ∃s':Sl,v'=.slice s'.1 s'.2.1 s'.2.2:=by
   intro v' w' b0 h
   rcases h.2 with ⟨h0,_⟩|⟨g',cap',cur,hv,_⟩
   ·exact⟨(none,0,0),h0⟩
   ·exact⟨(_,_,_),hv⟩
  rcases hown.2 with ⟨h0,hn0⟩|⟨g,cap,cur,hv,hbg,hg,hnc,hcm,hcs,htake⟩
  ·have hown2:w.ownsRow w.heap.size e size (.slice s.1 s.2.1 s.2.2) n xs:=⟨hown.1,.inl ⟨h0,hn0⟩⟩
   obtain⟨v',w',hr,hown',hgr,_⟩:=run_append_own (P:=P) w w.heap.size t ty e i z size i.bytes ht hi' hz i1 rfl i3 hsz _ n xs hown2 p x2 x3 news hl hnews h1 h63 hbytes (Nat.le_refl _)
   obtain⟨s',rfl⟩:=typed _ _ _ hown'
   have hO:Dp w' w.heap.size e size s' (n+x2) (xs++news):=hown'
   rw[hr]
   refine hk s' w' (hO.gJ λa ha=>Nat.le_trans hbase (hO.blk ha).1) ⟨hgr.os,hgr.tape,hgr.output,hgr.size,λb hb hn=>hgr.block b hb λe=>?_⟩ λa ha=>.inr (hO.blk ha).1
   rw[h0] at e;cases e
  ·obtain⟨v',w',hr,hown',hgr,_⟩:=run_append_own (P:=P) w base t ty e i z size i.bytes ht hi' hz i1 rfl i3 hsz _ n xs hown p x2 x3 news hl hnews h1 h63 hbytes hbase
   obtain⟨s',rfl⟩:=typed _ _ _ hown'
   have hs:=hv
   simp only[Value.slice.injEq] at hs
   have hblk: ∀a,s'.1=some a→(∃a0,s.1=some a0∧a.block=a0.block)∨w.heap.size≤a.block:=by
    intro a ha
    by_cases hroom:n+x2≤cap
    ·have hfit:n*i.size+news.length≤cur.size:=by rw[hl,hcs,i1,←Nat.add_mul];exact Nat.mul_le_mul_right _ hroom
     have hr2:=run_append_room (P:=P) w t ty e i ht hi' g n cap cur hg p x2 x3 news (by rw[i1];exact hl) hnews h1 hroom hfit
     rw[←hv,hr] at hr2
     simp only[Result.ok.injEq,Value.slice.injEq] at hr2
     rw[hr2.1.1] at ha;cases ha
     exact .inl ⟨_,hs.1,rfl⟩
    ·have holds: ∀j u,xs[j]? =some u→w.cell? ((⟨g,0,none⟩:Addr).add j)=some u:=λj u hj=>hown.row.ld hs.1 hj
     have hr2:=run_append_grow (P:=P) w t ty e i z ht hi' hz ⟨g,0,none⟩ n cap xs (by rw[i1];exact hown.1) holds p x2 x3 news (by rw[i1];exact hl) hnews (by omega) (by unfold maxLen at h63;omega) (growslice_fits (by omega) hbytes)
     rw[←hv,hr] at hr2
     simp only[Result.ok.injEq,Value.slice.injEq] at hr2
     rw[hr2.1.1] at ha;cases ha
     exact .inr (Nat.le_refl _)
   rw[hr]
   refine hk s' w' hown' ⟨hgr.os,hgr.tape,hgr.output,hgr.size,λb hb hn=>hgr.block b hb λe=>hn ?_⟩ hblk
   rw[hv] at e
   simp only[Value.ownBlock,Option.some.injEq] at e
   exact⟨_,hs.1,e.symm⟩
theorem Dp.cap{w:World}{base size n:Nat}{e:TypeId}{s:Sl}{xs:List Value}(h:Dp w base e size s n xs):s.2.1≤s.2.2:=by
 rcases h.2 with ⟨h0,_⟩|⟨g,cap,cur,hv,_,_,hc,_⟩
 ·simp only[Value.slice.injEq] at h0;omega
 ·simp only[Value.slice.injEq] at hv;rw[hv.2.1,hv.2.2];exact hc
theorem Afj{cs:List Value}{t:TypeId}{w:World}{k:Addr→WP}(size n:Nat)(hl:cs.length=n*size)(hm:n≤1000000000)
  (h: ∀b w',w.heap.size=b→Dp w' b t size (some ⟨b,0,none⟩,n,n) n cs→Ah w w'→k ⟨b,0,none⟩ w'):Bj cs t w k:=by
 refine h _ _ rfl ⟨hl,.inr ⟨w.heap.size,n,cs.toArray,rfl,Nat.le_refl _,?_,Nat.le_refl _,by unfold maxLen;omega,by simpa using hl,?_⟩⟩ ((Ah.refl w).alloc _)
 ·show(w.heap.push _)[w.heap.size]? =_
  rw[Array.getElem?_push,if_pos rfl]
 ·rw[←hl];simp
theorem Ads(l:Nat): ∀es:List E3,flat3 (es.drop l)=(flat3 es).drop (l*3):=by
 induction l with
 |zero=>intro es;simp
 |succ l ih=>
  intro es
  cases es with
  |nil=>simp[flat3]
  |cons e es=>rw[List.drop_succ_cons,ih,show(l+1)*3=l*3+3 by omega];simp[flat3]
theorem Nu.from{w:World}{s:Sl}{es:List E3}(h:Nu w s es)(hc:s.2.1≤s.2.2){l:Nat}(hl:l≤es.length):Nu w (slA s.1 s.2.2 l 3,s.2.1-l,s.2.2-l) (es.drop l):=by
 have hn:=h.len
 refine⟨by rw[Qw,List.length_drop];show(s.2.1-l)*3=_;rw[hn],λhx=>?_⟩
 have hlt:l<es.length:=by
  rcases Nat.lt_or_ge l es.length with h|h
  ·exact h
  ·rw[List.drop_of_length_le h] at hx;exact absurd rfl hx
 obtain⟨a,ha,hk⟩:=h.at_ (by intro e;have:=congrArg List.length e;rw[Qw,List.length_nil] at this;omega)
 refine⟨a.add (l*3),?_,λk v hv=>?_⟩
 ·show slA s.1 s.2.2 l 3=_
  unfold slA
  rw[if_neg (by omega),ha];rfl
 ·rw[Ads,List.getElem?_drop] at hv
  rw[add_add];exact hk _ _ hv
theorem wU(es:List E3): ∀u∈flat3 es,u.oneCell'=true:=by
 induction es with
 |nil=>intro u h;cases h
 |cons e es ih=>
  intro u h
  simp only[flat3,List.mem_cons] at h
  rcases h with rfl|rfl|rfl|h
  ·rfl
  ·rfl
  ·rfl
  ·exact ih u h
theorem Turn.Ai{B:Nat}{w w':World}(h:Ah w w'):Turn B w w':=⟨h.os,h.tape,h.output,h.size,λk o hk _=>by rw[h.block k (Array.getElem?_eq_some_iff.1 hk).1 λx=>x];exact hk⟩
theorem Ar.turn{B:Nat}{w w':World}{b:Nat}{cs:List Value}(h:Ar w b cs)(t:Turn B w w'):Ar w' b cs:=by
 obtain⟨ty,e⟩:=h
 exact⟨ty,t.block _ _ e (.inr rfl)⟩
theorem Dp.turn{B:Nat}{w w':World}{base size n:Nat}{e:TypeId}{s:Sl}{xs:List Value}(h:Dp w base e size s n xs)(t:Turn B w w'):Dp w' base e size s n xs:=
 h.kept λa o _ ho hc=>t.block _ _ ho (.inr hc)
theorem Ap.turn{B:Nat}{S:NP}{w0 w w':World}(h:Ap S w0 w)(t:Turn B w w')(hB:w0.heap.size≤B):Ap S w0 w':=
 ⟨t.os.trans h.os,t.tape.trans h.tape,t.output.trans h.output,Nat.le_trans h.size t.size,λk hk hn=>by
  have h1:=h.block k hk hn
  have h2:w0.heap[k]? =some w0.heap[k]:=Array.getElem?_eq_getElem hk
  rw[h2] at h1⊢
  exact t.block k _ h1 (.inl (by omega))⟩
theorem Rnd.of{B:Nat}{M S:NP}{w w':World}(u:Ap S w w')(h: ∀k,S k→k<w.heap.size→(k<B→M k)∧(B≤k→ ∃cs,Ar w k cs)):Rnd B M w w':=
 ⟨u.os,u.tape,u.output,u.size,λk o hk hM ho=>by
  have hlt:=(Array.getElem?_eq_some_iff.1 ho).1
  rw[u.block k hlt λhS=>hM ((h k hS hlt).1 hk)];exact ho,
  λk o hk ho hc=>by
   have hlt:=(Array.getElem?_eq_some_iff.1 ho).1
   rw[u.block k hlt λhS=>?_];exact ho
   obtain⟨cs,ty,e⟩:=(h k hS hlt).2 hk
   rw[e] at ho
   injection ho with ho
   subst ho
   cases hc⟩
theorem Rnd.Auy{B b:Nat}{M:NP}{w w':World}(u:Ap (λz=>z=b) w w')(hb:b<B)(hM:M b):Rnd B M w w':=
 Rnd.of u λk hk _=>by subst hk;exact⟨λ_=>hM,λh=>by omega⟩
theorem Rnd.Ai{B:Nat}{M:NP}{w w':World}(u:Ah w w'):Rnd B M w w':=Rnd.of u λk hk _=>hk.elim
theorem Mark.upd{S:NP}{w w':World}{D:Nat}(h:Mark w D)(u:Ap S w w')(hS: ¬S D):Mark w' D:=by
 unfold Mark at*
 rw[u.block D (Array.getElem?_eq_some_iff.1 h).1 hS];exact h
theorem Mark.Ai{w w':World}{D:Nat}(h:Mark w D)(u:Ah w w'):Mark w' D:=h.upd u λx=>x
theorem Mark.lt{w:World}{D:Nat}(h:Mark w D):D<w.heap.size:=(Array.getElem?_eq_some_iff.1 h).1
theorem jZ{D:Nat}{w:World}{k:WP}(h:Mark w D)(hk: ∀w',(∀B,B≤D→Turn B w w')→k w'):tkK D w k:=by
 refine⟨h,hk _ λB hB=>⟨rfl,rfl,rfl,by simp[World.putObj],λj o hj ho=>?_⟩⟩
 have:j≠D:=by
  intro e;subst e
  unfold Mark at h
  rw[h] at hj
  injection hj with hj
  subst hj
  rcases ho with ho|ho
  ·omega
  ·cases ho
 rw[World.putObj_heap_other this];exact hj
theorem Aec{P:Program}{gf:FuncId}{lb:Array Value}{rs:List (Bool×List CK)}{V:TR rs→Prop}{xs:List (TR rs)}{M:NP}{w:World}(hc:callable P gf=true)
  (h: ∀(l:Nat) (J Jx:List (TR rs)→WP) (W:World),Ah w W→
   (∀pre W1 W2,J pre W1→Ah W1 W2→J pre W2)→(∀pre W1 W2,Jx pre W1→Ah W1 W2→Jx pre W2)→
   (∀(pre:List (TR rs)) (x:TR rs) (W1:World) (k:Bool→WP),V x→J pre W1→pre.length<xs.length→(∀W2,J (pre++[x]) W2→uZ w.heap.size M W1 W2→k true W2)→(∀W2,Jx (pre++[x]) W2→k false W2)→
    yiS P l (dP rs x) W1 k)→
   J [] W→Ad P gf (.func (.yield l) #[] #[]::lb.toList) W true [] λ_ W'=>J xs W'∨ ∃pre,pre<+:xs∧Jx pre W'):
  ItS P (.func (.func gf) #[] lb) rs V xs M w:=by
 refine⟨rfl,hc,λl J Jx W hW hJ hJx hY h0=>?_⟩
 have up: ∀{A B:World},Ah A B→A.grownBy B none:=λg=>⟨g.os,g.tape,g.output,g.size,λk hk _=>g.block k hk λx=>x⟩
 have hcl:=h l (λpre W=> ∃zs:List {x:TR rs//V x},zs.map (·.1)=pre∧J zs W) (λpre W=> ∃zs:List {x:TR rs//V x},zs.map (·.1)=pre∧Jx zs W) W
  ⟨hW.os,hW.tape,hW.output,hW.size,λk hk _=>hW.block k hk⟩
  (λpre W1 W2 ⟨zs,e,hz⟩ g=>⟨zs,e,hJ zs W1 W2 none hz (up g) λr h=>by cases h⟩)
  (λpre W1 W2 ⟨zs,e,hz⟩ g=>⟨zs,e,hJx zs W1 W2 none hz (up g) λr h=>by cases h⟩)
  (λpre x W1 k hV ⟨zs,e,hz⟩ hl hk1 hk2=>by
   subst e
   obtain⟨fn,tm,as,bo,hy,hR⟩:=hY zs ⟨x,hV⟩ W1 hz (by simpa using hl)
   refine⟨fn,tm,as,bo,hy,Als (RoundIn.mono hR ?_)⟩
   rintro e W2 (⟨rfl,h1,h2⟩|⟨rfl,h1⟩)
   ·exact⟨true,rfl,hk1 W2 ⟨zs++[⟨x,hV⟩],by simp,h1⟩ h2⟩
   ·exact⟨false,rfl,hk2 W2 ⟨zs++[⟨x,hV⟩],by simp,h1⟩⟩)
  ⟨[],rfl,h0⟩
 have e:(#[Value.func (.yield l) #[] #[]]++lb)=(Value.func (.yield l) #[] #[]::lb.toList).toArray:=by apply Array.ext';simp
 rw[e]
 refine oG.2 (Calls.mono hcl ?_)
 rintro e W' ⟨r,rfl,(⟨zs,hz,hj⟩|⟨pre,hp,zs,hz,hj⟩)⟩
 ·exact⟨⟨_,rfl⟩,.inl ⟨zs,hz,hj⟩⟩
 ·exact⟨⟨_,rfl⟩,.inr ⟨zs,by show zs.map (·.1)<+:xs;rw[hz];exact hp,hj⟩⟩
theorem uZ.blk{B:Nat}{M:NP}{w w':World}{b:Nat}{cs:List Value}(h:Ar w b cs)(u:uZ B M w w')(hb:b<B)(hM: ¬M b):Ar w' b cs:=by
 obtain⟨t,e⟩:=h
 exact⟨t,u b _ hb hM e⟩
theorem uZ.cell{B:Nat}{M:NP}{w w':World}{p:Addr}{v:Value}(h:w.cell? p=some v)(u:uZ B M w w')(hb:p.block<B)(hM: ¬M p.block):w'.cell? p=some v:=by
 unfold World.cell? at h⊢
 split at h
 ·rename_i e;rw[u _ _ hb hM e];exact h
 ·cases h
theorem uZ.row{B:Nat}{M:NP}{w w':World}{s:Sl}{size:Nat}{xs:List Value}(h:Row w s size xs)(u:uZ B M w w')(hb:xs≠[]→ ∀a,s.1=some a→a.block<B∧ ¬M a.block):Row w' s size xs:=
 ⟨h.len,λhx=>by
  obtain⟨a,e,ha⟩:=h.at_ hx
  exact⟨a,e,λk v hk=>uZ.cell (ha k v hk) u (by rw[add_block];exact(hb hx a e).1) (by rw[add_block];exact(hb hx a e).2)⟩⟩
theorem Row.ix{w:World}{s:Sl}{xs:List Int}(h:Row w s 1 (xs.map (Value.int .i64))){z:Int}{i:Nat}{x:Int}(hz:z=i)(hi:xs[i]? =some x){k:Int→Prop}(hk:k x):
  Hf s.1 s.2.1 z λa=>ld1 KI (a.add (z.toNat*1)) w k:=by
 subst hz
 have hm:(xs.map (Value.int .i64))[i]? =some (iV x):=by rw[List.getElem?_map,hi];rfl
 have hl:=h.len
 have hlt:=(List.getElem?_eq_some_iff.1 hi).1
 rw[List.length_map] at hl
 obtain⟨a,ha⟩:=h.addr (by rw[List.length_map];omega)
 rw[ha,Ip (by omega),Int.toNat_natCast,Nat.mul_one]
 exact Tt (h.ld ha hm) (Ko _ _) hk
theorem Ar.sl0{w:World}{b:Nat}{s:Sl}(h:Ar w b [.slice s.1 s.2.1 s.2.2]){k:Sl→Prop}(hk:k s):ld1 .sl ⟨b,0,none⟩ w k:=by
 rw[h.ld (c:=.sl) (i:=0) (v:=.slice s.1 s.2.1 s.2.2) (x:=s) rfl rfl];exact hk
theorem Ar.p0{w:World}{b:Nat}{q:Option Addr}(h:Ar w b [.pointer q]){k:Option Addr→Prop}(hk:k q):ld1 .p ⟨b,0,none⟩ w k:=by
 rw[h.ld (c:=.p) (i:=0) (v:=.pointer q) (x:=q) rfl rfl];exact hk
theorem Ar.b0{w:World}{b:Nat}{q:Bool}(h:Ar w b [.bool q]){k:Bool→Prop}(hk:k q):ld1 .b ⟨b,0,none⟩ w k:=by
 rw[h.ld (c:=.b) (i:=0) (v:=.bool q) (x:=q) rfl rfl];exact hk
theorem Ar.hold{S:NP}{w w':World}{b:Nat}{cs:List Value}(h:Ar w b cs)(u:Ap S w w')(hS: ¬S b)(i:Nat)(hi:i<cs.length):
  w'.cell? (Addr.add ⟨b,0,none⟩ i)=some ((w.cell? (Addr.add ⟨b,0,none⟩ i)).getD undef):=by
 rw[Lr,Nat.zero_add,(h.upd u hS).cell,h.cell,List.getElem?_eq_getElem hi];rfl
theorem Ar.Zo{S:NP}{w w':World}{b:Nat}{cs:List Value}(h:Ar w b cs)(u:Ap S w w')(hS: ¬S b)(o i:Nat)(hi:o+i<cs.length):
  w'.cell? (Addr.add (Addr.add ⟨b,0,none⟩ o) i)=some ((w.cell? (Addr.add (Addr.add ⟨b,0,none⟩ o) i)).getD undef):=by
 rw[add_add];exact h.hold u hS (o+i) hi
theorem Ar.ldp{w:World}{b:Nat}{cs:List Value}(h:Ar w b cs)(o:Nat){x y:Int}(e0:cs[o]? =some (iV x))(e1:cs[o+1]? =some (iV y)){k:Ky [KI,KI]→Prop}(hk:k (x,y,())):
  Bc [KI,KI] (Addr.add ⟨b,0,none⟩ o) 0 w k:=by
 rw[Lr,Nat.zero_add,h.ldc (c:=KI) (o:=o) (i:=0) (v:=iV x) (x:=x) e0 (Ko _ _),h.ldc (c:=KI) (o:=o) (i:=1) (v:=iV y) (x:=y) e1 (Ko _ _),lM];exact hk
theorem iC{B:Nat}{w w':World}{A:Prop}(g:Ah w w')(h:A):Turn B w w'∧(∀(k:Nat) (o:Obj),w.heap[k]? =some o→w'.heap[k]? =some o)∧A:=
 ⟨Turn.Ai g,λk o hk=>by rw[g.block k (Array.getElem?_eq_some_iff.1 hk).1 λx=>x];exact hk,h⟩
theorem Ah.fresh{w0 w w1 w2:World}{b:Nat}(g:Ah w0 w)(u:Ah w w1)(u2:Ap (λz=>z=b) w1 w2)(hb:w.heap.size=b):Ah w0 w2:=
 Ap.new (Ap.Ai g u) u2 λh=>absurd g.size (by omega)
end Go.Eng
