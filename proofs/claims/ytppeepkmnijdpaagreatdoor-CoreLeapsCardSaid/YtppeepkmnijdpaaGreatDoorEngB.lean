import Derived.Test.YtppeepkmnijdpaaGreatDoorEngF
import Derived.Below
import Derived.Laws.AppendOwn
namespace Go.Eng
open Go
open Go.IntKind (wrap)
set_option linter.unusedSimpArgs false
set_option linter.unusedVariables false
set_option maxRecDepth 100000
set_option maxHeartbeats 8000000
structure Ap(S:NP)(w w':World):Prop where
 os:w'.os=w.os
 tape:w'.tape=w.tape
 output:w'.output=w.output
 size:w.heap.size≤w'.heap.size
 block: ∀k,k<w.heap.size→ ¬S k→w'.heap[k]? =w.heap[k]?
abbrev Ah(w w':World):Prop:=Ap (λ_=>False) w w'
theorem Ap.refl(S:NP)(w:World):Ap S w w:=⟨rfl,rfl,rfl,Nat.le_refl _,λ_ _ _=>rfl⟩
theorem Ap.trans{S S':NP}{a b c:World}(h:Ap S a b)(k:Ap S' b c)(hS: ∀i,i<a.heap.size→S' i→S i):Ap S a c:=
 ⟨k.os.trans h.os,k.tape.trans h.tape,k.output.trans h.output,Nat.le_trans h.size k.size,λi hi hn=>(k.block i (Nat.lt_of_lt_of_le hi h.size) (λx=>hn (hS i hi x))).trans (h.block i hi hn)⟩
theorem Ap.mono{S S':NP}{a b:World}(h:Ap S a b)(hS: ∀i,S i→S' i):Ap S' a b:=⟨h.os,h.tape,h.output,h.size,λi hi hn=>h.block i hi λx=>hn (hS i x)⟩
theorem Ap.Ai{S:NP}{a b c:World}(h:Ap S a b)(k:Ah b c):Ap S a c:=h.trans k λ_ _ x=>x.elim
theorem Ap.drew{S:NP}{a b:World}(h:Ap S a b):Ap S a b.drew:=⟨h.os,h.tape,h.output,h.size,h.block⟩
theorem Ap.alloc{S:NP}{a b:World}(h:Ap S a b)(o:Obj):Ap S a (b.alloc o):=
 h.Ai ⟨rfl,rfl,rfl,by show b.heap.size≤(b.heap.push o).size;rw[Array.size_push];omega,λk hk _=>by show(b.heap.push o)[k]? =_;rw[Array.getElem?_push,if_neg (by omega)]⟩
theorem Ap.setCell{S:NP}{a b:World}(h:Ap S a b)(p:Addr)(v:Value)(hp:p.block<a.heap.size→S p.block):Ap S a (b.setCell p v):=
 ⟨h.os,h.tape,h.output,by simpa [World.setCell] using h.size,λk hk hn=>by
  rw[←h.block k hk hn]
  have:p.block≠k:=λe=>hn (e▸hp (e▸hk))
  simp only[World.setCell]
  rw[Array.getElem?_modify,if_neg this]⟩
theorem Ah.below{a b:World}(h:Ah a b):RowKit.Below a.heap.size a b:=⟨h.os,h.tape,h.output,h.size,λk hk=>h.block k hk λx=>x⟩
theorem Ah.refl(a:World):Ah a a:=Ap.refl _ a
theorem Ah.drew(a:World):Ah a a.drew:=(Ap.refl _ a).drew
theorem Ah.trans{a b c:World}(h:Ah a b)(k:Ah b c):Ah a c:=Ap.Ai h k
theorem Bh.by{α:Type}{A:(α→WP)→Prop}{B:α→WP}(J:α→WP)(h:A J)(hB: ∀x w,J x w→B x w):Bh A B:=⟨J,h,hB⟩
theorem Aw.by{α:Type}{B:(α→WP)→α→WP}{x0:α}{w0:World}(I:α→WP)(m:α→Nat)(h0:I x0 w0)(hr: ∀x w,I x w→B (λx' w'=>I x' w'∧m x'<m x) x w):Aw B x0 w0:=
 ⟨I,λx _=>m x,h0,hr⟩
theorem Gm{b:Int}{p:Prop}(h:b≠0):Zm b p=p:=by simp[Zm,h]
theorem Nj{b:Int}{p:Prop}(h:0≤b):dK b p=p:=by unfold dK;rw[if_neg (by omega)]
theorem Aq(w:World)(k:WP):I8 w k=k w.drew:=rfl
def I64(n:Int):Prop:= -9223372036854775808≤n∧n≤9223372036854775807
def Tn(n:Int):Prop:=0≤n∧n≤18446744073709551615
instance (n:Int):Decidable (I64 n):=by unfold I64;exact inferInstance
instance (n:Int):Decidable (Tn n):=by unfold Tn;exact inferInstance
theorem wR(n:Int):wrap .i64 n=(n+9223372036854775808)%18446744073709551616-9223372036854775808:=IntKind.wrap_i64 n
theorem Af{n:Int}(h:I64 n):wrap .i64 n=n:=by unfold I64 at h;rw[wR];omega
theorem wu64(n:Int):wrap .u64 n=n%18446744073709551616:=by simp[wrap,IntKind.bits,IntKind.signed]
theorem I9{n:Int}(h:Tn n):wrap .u64 n=n:=by unfold Tn at h;rw[wu64];omega
theorem negS(n:Nat):Int.negSucc n= -((n:Int)+1):=rfl
theorem p64:(2:Nat)^64=18446744073709551616:=by decide
theorem ofInt_u64{x:Int}(h:Tn x):(BitVec.ofInt 64 x).toNat=x.toNat:=by
 unfold Tn at h
 rw[BitVec.toNat_ofInt,p64]
 omega
theorem Ac9{x:Int}(h:Tn x)(n:Nat)(hn:n≤64):Ez .and .u64 x (2^n-1:Nat)=x%(2^n:Nat):=by
 have h1:=ofInt_u64 h
 have hp:2^n≤2^64:=Nat.pow_le_pow_right (by decide) hn
 rw[p64] at hp
 have hpos:0<2^n:=Nat.two_pow_pos n
 have hm:Tn (((2^n-1:Nat)):Int):=by unfold Tn;omega
 have h2:=ofInt_u64 hm
 show wrap .u64 ((BitVec.ofInt 64 x&&&BitVec.ofInt 64 _).toNat:Int)=_
 rw[BitVec.toNat_and,h1,h2,Int.toNat_natCast,Nat.and_two_pow_sub_one_eq_mod]
 unfold Tn at h
 have e:((x.toNat%2^n:Nat):Int)=x%(2^n:Nat):=by rw[Int.natCast_emod,Int.toNat_of_nonneg h.1]
 rw[e]
 refine I9 ?_
 unfold Tn
 have g1:=Int.emod_nonneg x (b:=((2^n:Nat):Int)) (by omega)
 have g2:=Int.emod_lt_of_pos x (b:=((2^n:Nat):Int)) (by omega)
 omega
theorem tC{x:Int}(h:Tn x):Ez .and .u64 x 4294967295=x%4294967296:=Ac9 h 32 (by decide)
theorem Avx{x:Int}(h:Tn x):Ez .and .u64 x 1=x%2:=Ac9 h 1 (by decide)
theorem dH{k:IntKind}{x:Int}(n:Nat)(hn:n≤k.bits):I7 k x (n:Int)=x/(2^n:Nat):=by
 unfold I7
 rw[Int.toNat_natCast,Nat.min_eq_left hn,Int.fdiv_eq_ediv_of_nonneg _ (by exact_mod_cast Nat.zero_le _)]
 norm_cast
theorem Adn(x:Int):I7 .u64 x 32=x/4294967296:=dH (k:=.u64) 32 (by decide)
theorem Akt{a b:Int}(n:Nat)(ha:Tn a)(hb:0≤b)(hd:a%(2^n:Nat)=0)(hlt:b<(2^n:Nat))(hs:Tn (a+b)):Ez .or .u64 a b=a+b:=by
 have hbU:Tn b:=by unfold Tn at*;omega
 show wrap .u64 ((BitVec.ofInt 64 a|||BitVec.ofInt 64 b).toNat:Int)=_
 rw[BitVec.toNat_or,ofInt_u64 ha,ofInt_u64 hbU]
 have e:a.toNat|||b.toNat=a.toNat+b.toNat:=by
  have h1:a.toNat=(a.toNat/2^n)<<<n:=by
   rw[Nat.shiftLeft_eq]
   have:a.toNat%2^n=0:=by
    have:((a.toNat%2^n:Nat):Int)=0:=by rw[Int.natCast_emod,Int.toNat_of_nonneg ha.1];exact hd
    omega
   have:=Nat.div_add_mod a.toNat (2^n)
   rw[Nat.mul_comm] at this;omega
  rw[h1,←Nat.shiftLeft_add_eq_or_of_lt (by omega)]
 rw[e]
 unfold Tn at*
 have:((a.toNat+b.toNat:Nat):Int)=a+b:=by omega
 rw[this]
 exact I9 (by unfold Tn;omega)
def Ar(w:World)(b:Nat)(cs:List Value):Prop:= ∃t,w.heap[b]? =some (.cells cs.toArray t (0,0))
theorem Lr(b o n:Nat):Addr.add ⟨b,o,none⟩ n=⟨b,o+n,none⟩:=by
 unfold Addr.add;split
 ·rename_i h;rw[h];rfl
 ·rfl
theorem Ar.lt{w:World}{b:Nat}{cs:List Value}(h:Ar w b cs):b<w.heap.size:=by
 obtain⟨t,h⟩:=h
 exact(Array.getElem?_eq_some_iff.1 h).1
theorem Ar.new(w:World)(cs:List Value)(t:TypeId):Ar (w.alloc (.cells cs.toArray t)) w.heap.size cs:=⟨t,by
 show(w.heap.push _)[w.heap.size]? =_
 rw[Array.getElem?_push,if_pos rfl]⟩
theorem Ar.upd{S:NP}{w w':World}{b:Nat}{cs:List Value}(h:Ar w b cs)(u:Ap S w w')(hS: ¬S b):Ar w' b cs:=by
 obtain⟨t,e⟩:=h
 exact⟨t,by rw[u.block b (Ar.lt ⟨t,e⟩) hS,e]⟩
theorem Ar.Ai{w w':World}{b:Nat}{cs:List Value}(h:Ar w b cs)(u:Ah w w'):Ar w' b cs:=h.upd u (λx=>x)
theorem Ar.drew{w:World}{b:Nat}{cs:List Value}(h:Ar w b cs):Ar w.drew b cs:=h
theorem Ar.cell{w:World}{b:Nat}{cs:List Value}(h:Ar w b cs)(i:Nat):w.cell? ⟨b,i,none⟩=cs[i]? :=by
 obtain⟨t,e⟩:=h
 simp[World.cell?,e]
theorem Ar.thaw{w:World}{b:Nat}{cs:List Value}(h:Ar w b cs)(i:Nat):w.frozen? ⟨b,i,none⟩=false:=by
 obtain⟨t,e⟩:=h
 simp[World.frozen?,e]
theorem Ar.set{w:World}{b:Nat}{cs:List Value}(h:Ar w b cs)(i:Nat)(v:Value):Ar (w.setCell ⟨b,i,none⟩ v) b (cs.set i v):=by
 obtain⟨t,e⟩:=h
 refine⟨t,?_⟩
 simp[World.setCell,Array.getElem?_modify,e]
theorem Ai7{c:CK}{p:Addr}{w:World}{k:Tv c→Prop}{v:Value}{x:Tv c}(h:w.cell? p=some v)(hd:dec c v=some x):ld1 c p w k=k x:=by
 unfold ld1;rw[h,Option.bind_some,hd]
theorem Ko(k:IntKind)(n:Int):dec (.i k) (.int k n)=some n:=by simp[dec,Ap0]
theorem Ar.ld{w:World}{b:Nat}{cs:List Value}(h:Ar w b cs){c:CK}{i:Nat}{k:Tv c→Prop}{v:Value}{x:Tv c}(hi:cs[i]? =some v)(hd:dec c v=some x):ld1 c ⟨b,i,none⟩ w k=k x:=
 Ai7 (by rw[h.cell,hi]) hd
theorem lM(p:Addr)(i:Nat)(w:World)(k:Unit→Prop):Bc [] p i w k=k ():=rfl
theorem Ar.ldc{w:World}{b:Nat}{vs:List Value}(h:Ar w b vs){c:CK}{cs:List CK}{o i:Nat}{k:Ky (c::cs)→Prop}{v:Value}{x:Tv c}(hi:vs[o+i]? =some v)(hd:dec c v=some x):
  Bc (c::cs) ⟨b,o,none⟩ i w k=Bc cs ⟨b,o,none⟩ (i+1) w λxs=>k (x,xs):=by
 rw[Bc,Lr,h.cell,hi,Option.bind_some,hd]
def splice(cs:List Value)(n:Nat):List Value→List Value
 |[]=>cs
 |v::vs=>splice (cs.set n v) (n+1) vs
@[simp] theorem aB(n:Nat)(cs:List Value)(vs:List Value):(splice cs n vs).length=cs.length:=by
 induction vs generalizing cs n with
 |nil=>rfl
 |cons v vs ih=>rw[splice,ih,List.length_set]
theorem Ar.st{b:Nat}{o:Nat}{k:WP}: ∀(vs:List Value) {w:World} {cs:List Value} (h:Ar w b cs) {i:Nat} (hi:o+i+vs.length≤cs.length) (hv:vs.all okc=true)
  (hk: ∀w',Ar w' b (splice cs (o+i) vs)→Ap (λx=>x=b) w w'→k w'),Au vs ⟨b,o,none⟩ i w k
 |[],w,cs,h,i,hi,hv,hk=>hk w h (Ap.refl _ _)
 |v::vs,w,cs,h,i,hi,hv,hk=>by
  simp only[List.length_cons] at hi
  simp only[List.all_cons,Bool.and_eq_true] at hv
  rw[Au,if_pos hv.1,Lr,h.cell,List.getElem?_eq_getElem (by omega)]
  simp only
  rw[h.thaw,if_neg (by decide)]
  refine Ar.st vs (h.set (o+i) v) (by rw[List.length_set];omega) hv.2 λw' h1 h2=>hk w' h1 ?_
  exact((Ap.refl (λx=>x=b) w).setCell _ _ (λ_=>rfl)).trans h2 (λ_ _ x=>x)
theorem Ip{a:Addr}{n:Nat}{ix:Int}{k:Addr→Prop}(h:0≤ix∧ix<n):Hf (some a) n ix k=k a:=by
 simp only[Hf];rw[if_pos h]
theorem Ac(a:Addr)(k:Addr→Prop):A7 (some a) k=k a:=rfl
theorem nG{l h:Int}{n:Nat}{p:Prop}(e:0≤l∧l≤h∧h≤n):slK l h n p=p:=by unfold slK;rw[if_pos e]
theorem Ap.Ed{S:NP}{a b:World}(h:Ah a b):Ap S a b:=h.mono λ_ x=>x.elim
theorem Ap.new{S:NP}{a b c:World}(h:Ap S a b){n:Nat}(u:Ap (λx=>x=n) b c)(hn:n<a.heap.size→S n):Ap S a c:=
 h.trans u λi hi e=>by cases e;exact hn hi
theorem Ae{cs:List Value}{t:TypeId}{w:World}{k:Addr→WP}(h: ∀b w',w.heap.size=b→Ar w' b cs→Ah w w'→k ⟨b,0,none⟩ w'):Bj cs t w k:=
 h _ _ rfl (Ar.new w cs t) ((Ah.refl w).alloc _)
def Holds(w:World):TR [(false,[.b])]→WP:=λr w'=>r=((true,()),())∧Ah w w'
theorem holds{w w':World}{b:Bool}(g:Ah w w')(h:b=true):Holds w ((b,()),()) w':=⟨by rw[h],g⟩
abbrev Sl:=Option Addr×Nat×Nat
theorem add_add(a:Addr)(m n:Nat):(a.add m).add n=a.add (m+n):=by
 unfold Addr.add
 by_cases h:m=0
 ·subst h;simp
 ·by_cases h2:n=0
  ·subst h2;simp[h]
  ·rw[if_neg h,if_neg h2,if_neg (by omega)];simp;omega
theorem add_zero'(a:Addr):a.add 0=a:=rfl
structure Row(w:World)(s:Sl)(size:Nat)(xs:List Value):Prop where
 len:s.2.1*size=xs.length
 at_:xs≠[]→ ∃a,s.1=some a∧ ∀k v,xs[k]? =some v→w.cell? (a.add k)=some v
theorem cell_lt{w:World}{p:Addr}{v:Value}(h:w.cell? p=some v):p.block<w.heap.size:=by
 unfold World.cell? at h
 split at h
 ·rename_i e;exact(Array.getElem?_eq_some_iff.1 e).1
 ·cases h
theorem kY{S:NP}{w w':World}{p:Addr}{v:Value}(h:w.cell? p=some v)(u:Ap S w w')(hS: ¬S p.block):w'.cell? p=some v:=by
 rw[←h]
 exact World.cell?_of_block (w:=w) (u.block _ (cell_lt h) hS)
theorem bH{w w':World}{p:Addr}{v:Value}(h:w.cell? p=some v)(u:Ah w w'):w'.cell? p=some v:=kY h u λx=>x
theorem Row.Ai{w w':World}{s:Sl}{size:Nat}{xs:List Value}(h:Row w s size xs)(u:Ah w w'):Row w' s size xs:=
 ⟨h.len,λhx=>by obtain⟨a,e,ha⟩:=h.at_ hx;exact⟨a,e,λk v hk=>bH (ha k v hk) u⟩⟩
theorem add_block(a:Addr)(k:Nat):(a.add k).block=a.block:=by unfold Addr.add;split<;>rfl
theorem Row.upd{w w':World}{s:Sl}{size:Nat}{xs:List Value}{S:NP}(h:Row w s size xs)(u:Ap S w w')(hS: ∀a,s.1=some a→ ¬S a.block):Row w' s size xs:=
 ⟨h.len,λhx=>by obtain⟨a,e,ha⟩:=h.at_ hx;exact⟨a,e,λk v hk=>kY (ha k v hk) u (by rw[add_block];exact hS a e)⟩⟩
theorem Row.ld{w:World}{s:Sl}{size:Nat}{xs:List Value}(h:Row w s size xs){a:Addr}(ha:s.1=some a){k:Nat}{v:Value}(hk:xs[k]? =some v):w.cell? (a.add k)=some v:=by
 obtain⟨b,e,hb⟩:=h.at_ (by intro e;rw[e] at hk;cases hk)
 rw[ha] at e;cases e
 exact hb k v hk
theorem Row.addr{w:World}{s:Sl}{size:Nat}{xs:List Value}(h:Row w s size xs)(hx:0<xs.length): ∃a,s.1=some a:=by
 obtain⟨b,e,_⟩:=h.at_ (by intro e;rw[e] at hx;cases hx)
 exact⟨b,e⟩
theorem Tt{w:World}{c:CK}{p:Addr}{k:Tv c→Prop}{v:Value}{x:Tv c}(h:w.cell? p=some v)(hd:dec c v=some x)(hk:k x):ld1 c p w k:=by rw[Ai7 h hd];exact hk
abbrev E3:=Int×Int×Int
def flat3:List E3→List Value
 |[]=>[]
 |e::es=>.int .i64 e.1:: .int .i64 e.2.1:: .int .i64 e.2.2::flat3 es
theorem Qw(es:List E3):(flat3 es).length=es.length*3:=by
 induction es with
 |nil=>rfl
 |cons e es ih=>simp only[flat3,List.length_cons,ih];omega
theorem kK(a b:List E3):flat3 (a++b)=flat3 a++flat3 b:=by
 induction a with
 |nil=>rfl
 |cons e es ih=>simp[flat3,ih]
theorem Ahk{es:List E3}{i:Nat}{e:E3}(h:es[i]? =some e):(flat3 es)[i*3]? =some (.int .i64 e.1)∧(flat3 es)[i*3+1]? =some (.int .i64 e.2.1)∧(flat3 es)[i*3+2]? =some (.int .i64 e.2.2):=by
 induction es generalizing i with
 |nil=>cases h
 |cons x es ih=>
  cases i with
  |zero=>simp at h;subst h;exact⟨rfl,rfl,rfl⟩
  |succ i=>
   simp at h
   have:=ih h
   rw[show(i+1)*3=i*3+3 by omega]
   simpa [flat3] using this
def Nu(w:World)(s:Sl)(es:List E3):Prop:=Row w s 3 (flat3 es)
theorem Nu.len{w:World}{s:Sl}{es:List E3}(h:Nu w s es):s.2.1=es.length:=by
 have h1:=Row.len h
 rw[Qw] at h1
 omega
theorem Nu.Ai{w w':World}{s:Sl}{es:List E3}(h:Nu w s es)(u:Ah w w'):Nu w' s es:=Row.Ai h u
theorem Nu.addr{w:World}{s:Sl}{es:List E3}(h:Nu w s es){i:Nat}{e:E3}(hi:es[i]? =some e): ∃a,s.1=some a:=by
 refine Row.addr h ?_
 have:=(List.getElem?_eq_some_iff.1 hi).1
 rw[Qw];omega
theorem Nu.cell{w:World}{s:Sl}{es:List E3}(h:Nu w s es){a:Addr}(ha:s.1=some a){i:Nat}{e:E3}(hi:es[i]? =some e):
  w.cell? (a.add (i*3))=some (.int .i64 e.1)∧w.cell? (a.add (i*3+1))=some (.int .i64 e.2.1)∧w.cell? (a.add (i*3+2))=some (.int .i64 e.2.2):=by
 obtain⟨g0,g1,g2⟩:=Ahk hi
 exact⟨Row.ld h ha g0,Row.ld h ha g1,Row.ld h ha g2⟩
theorem Nu.ix{w:World}{s:Sl}{es:List E3}(h:Nu w s es){z:Int}{i:Nat}{e:E3}(hz:z=i)(hi:es[i]? =some e){k:Addr→Prop}(hk: ∀a,s.1=some a→k a):Hf s.1 s.2.1 z k:=by
 subst hz
 obtain⟨a,ha⟩:=h.addr hi
 have:=(List.getElem?_eq_some_iff.1 hi).1
 have hl:=h.len
 rw[ha,Ip (by omega)]
 exact hk a ha
theorem Nu.Bc{w:World}{s:Sl}{es:List E3}(h:Nu w s es){a:Addr}(ha:s.1=some a){i:Nat}{e:E3}(hi:es[i]? =some e){k:Ky [.i .i64,.i .i64,.i .i64]→Prop}(hk:k (e.1,e.2.1,e.2.2,())):
  Bc [.i .i64,.i .i64,.i .i64] (a.add (((i:Int)).toNat*3)) 0 w k:=by
 obtain⟨g0,g1,g2⟩:=h.cell ha hi
 simp only[Eng.Bc,add_add,Int.toNat_natCast]
 rw[Nat.add_zero,g0,g1,g2]
 simp only[Option.bind_some,Ko]
 exact hk
def zN(P:Program)(e:TypeId)(size:Nat):Bool:=
 match P.info? e with
 |some i=>i.size==size&&decide (i.bytes≤10000)&&(match i.zero with|some z=>z.cells.size==size|none=>false)
 |none=>false
theorem Ap6(w:World)(base:Nat)(e:TypeId)(size:Nat):w.ownsRow base e size (.slice none 0 0) 0 []:=⟨by simp,.inl ⟨rfl,rfl⟩⟩
theorem Ar.news{w:World}{b:Nat}{cs:List Value}(h:Ar w b cs): ∀j u,cs[j]? =some u→w.cell? (Addr.add ⟨b,0,none⟩ j)=some u:=λj u hj=>by rw[Lr,Nat.zero_add,h.cell,hj]
theorem Afq{w:World}{base size n:Nat}{e:TypeId}{s:Sl}{xs:List Value}(h:w.ownsRow base e size (.slice s.1 s.2.1 s.2.2) n xs):Row w s size xs:=by
 obtain⟨s1,s2,s3⟩:=s
 rcases h.2 with ⟨h0,h1⟩|⟨g',cap',cur,hv,hbg,hg,hn,hm,hc,ht⟩
 ·simp only[Value.slice.injEq] at h0
  obtain⟨rfl,rfl,rfl⟩:=h0
  have:=h.1
  subst h1
  exact⟨by rw[this],λhx=>absurd (List.eq_nil_of_length_eq_zero (by rw[this];simp)) hx⟩
 ·simp only[Value.slice.injEq] at hv
  obtain⟨rfl,rfl,rfl⟩:=hv
  refine⟨h.1.symm,λ_=>⟨_,rfl,λk v hk=>?_⟩⟩
  rw[Lr,Nat.zero_add]
  simp only[World.cell?,hg]
  have hk':k<xs.length:=(List.getElem?_eq_some_iff.1 hk).1
  rw[←ht,List.getElem?_take_of_lt (by rw[h.1] at hk';exact hk')] at hk
  simpa using hk
theorem oO(pre:List Value): ∀(cs vs:List Value),cs.length=vs.length→splice (pre++cs) pre.length vs=pre++vs
 |[],[],_=>rfl
 |c::cs,v::vs,h=>by
  have:=oO (pre++[v]) cs vs (by simpa using h)
  rw[splice,List.set_append_right _ _ (Nat.le_refl _),Nat.sub_self,List.set_cons_zero]
  simpa using this
theorem Ar.E5{b:Nat}{k:WP}(vs:List Value){w:World}{cs:List Value}(h:Ar w b cs)(hl:cs.length=vs.length)(hv:vs.all okc=true)
  (hk: ∀w',Ar w' b vs→Ap (λx=>x=b) w w'→k w'):Au vs ⟨b,0,none⟩ 0 w k:=
 h.st vs (by omega) hv λw' h1 h2=>hk w' (by have:=oO [] cs vs hl;simp only[List.nil_append,List.length_nil] at this;rw[←this];exact h1) h2
theorem Ar.ld2{w:World}{b:Nat}{x y:Int}(h:Ar w b [.int .i64 x,.int .i64 y]){k:Ky [.i .i64,.i .i64]→Prop}(hk:k (x,y,())):Bc [.i .i64,.i .i64] ⟨b,0,none⟩ 0 w k:=by
 rw[h.ldc (c:=.i .i64) (o:=0) (i:=0) (v:=.int .i64 x) (x:=x) rfl (Ko _ _),h.ldc (c:=.i .i64) (o:=0) (i:=1) (v:=.int .i64 y) (x:=y) rfl (Ko _ _),lM];exact hk
theorem Ar.Xd{w:World}{b:Nat}{x y z:Int}(h:Ar w b [.int .i64 x,.int .i64 y,.int .i64 z]){k:Ky [.i .i64,.i .i64,.i .i64]→Prop}(hk:k (x,y,z,())):Bc [.i .i64,.i .i64,.i .i64] ⟨b,0,none⟩ 0 w k:=by
 rw[h.ldc (c:=.i .i64) (o:=0) (i:=0) (v:=.int .i64 x) (x:=x) rfl (Ko _ _),h.ldc (c:=.i .i64) (o:=0) (i:=1) (v:=.int .i64 y) (x:=y) rfl (Ko _ _),h.ldc (c:=.i .i64) (o:=0) (i:=2) (v:=.int .i64 z) (x:=z) rfl (Ko _ _),lM];exact hk
theorem Ar.ld5{w:World}{b:Nat}{x y z u v:Int}(h:Ar w b [.int .i64 x,.int .i64 y,.int .i64 z,.int .i64 u,.int .i64 v]){k:Ky [.i .i64,.i .i64,.i .i64,.i .i64,.i .i64]→Prop}(hk:k (x,y,z,u,v,())):Bc [.i .i64,.i .i64,.i .i64,.i .i64,.i .i64] ⟨b,0,none⟩ 0 w k:=by
 rw[h.ldc (c:=.i .i64) (o:=0) (i:=0) (v:=.int .i64 x) (x:=x) rfl (Ko _ _),h.ldc (c:=.i .i64) (o:=0) (i:=1) (v:=.int .i64 y) (x:=y) rfl (Ko _ _),h.ldc (c:=.i .i64) (o:=0) (i:=2) (v:=.int .i64 z) (x:=z) rfl (Ko _ _),
  h.ldc (c:=.i .i64) (o:=0) (i:=3) (v:=.int .i64 u) (x:=u) rfl (Ko _ _),h.ldc (c:=.i .i64) (o:=0) (i:=4) (v:=.int .i64 v) (x:=v) rfl (Ko _ _),lM];exact hk
theorem Ar.i1{w:World}{b:Nat}{cs:List Value}(h:Ar w b cs)(o:Nat){x:Int}(e:cs[o]? =some (.int .i64 x)){k:Int→Prop}(hk:k x):ld1 (.i .i64) (Addr.add ⟨b,0,none⟩ o) w k:=by
 rw[Lr,Nat.zero_add,h.ld (c:=.i .i64) e (Ko _ _)];exact hk
theorem Ar.i0{w:World}{b:Nat}{cs:List Value}(h:Ar w b cs){x:Int}(e:cs[0]? =some (.int .i64 x)){k:Int→Prop}(hk:k x):ld1 (.i .i64) ⟨b,0,none⟩ w k:=by
 rw[h.ld (c:=.i .i64) e (Ko _ _)];exact hk
theorem Ar.s1{w:World}{b:Nat}{cs:List Value}(h:Ar w b cs)(o:Nat){x:Int}(ho:o<cs.length){k:WP}
  (hk: ∀w',Ar w' b (cs.set o (.int .i64 x))→Ap (λx=>x=b) w w'→k w'):Au [.int .i64 x] (Addr.add ⟨b,0,none⟩ o) 0 w k:=by
 rw[Lr,Nat.zero_add]
 exact h.st _ (by simp;omega) rfl λw' h1 h2=>hk w' h1 h2
theorem Ar.s0{w:World}{b:Nat}{cs:List Value}(h:Ar w b cs){x:Int}(ho:0<cs.length){k:WP}
  (hk: ∀w',Ar w' b (cs.set 0 (.int .i64 x))→Ap (λx=>x=b) w w'→k w'):Au [.int .i64 x] ⟨b,0,none⟩ 0 w k:=h.st _ (by simp;omega) rfl λw' h1 h2=>hk w' h1 h2
theorem Nu.f0{w:World}{s:Sl}{es:List E3}(h:Nu w s es){a:Addr}(ha:s.1=some a){z:Int}{i:Nat}{e:E3}(hz:z=i)(hi:es[i]? =some e){k:Int→Prop}(hk:k e.1):ld1 (.i .i64) (a.add (z.toNat*3)) w k:=by
 subst hz;rw[Int.toNat_natCast];exact Tt (h.cell ha hi).1 (Ko _ _) hk
theorem Nu.f1{w:World}{s:Sl}{es:List E3}(h:Nu w s es){a:Addr}(ha:s.1=some a){z:Int}{i:Nat}{e:E3}(hz:z=i)(hi:es[i]? =some e){k:Int→Prop}(hk:k e.2.1):ld1 (.i .i64) ((a.add (z.toNat*3)).add 1) w k:=by
 subst hz;rw[Int.toNat_natCast,add_add];exact Tt (h.cell ha hi).2.1 (Ko _ _) hk
theorem Nu.drew{w:World}{s:Sl}{es:List E3}(h:Nu w s es):Nu w.drew s es:=h.Ai (Ah.drew w)
theorem We{c:Bool}{A B:Prop}(h:c=true)(k:A):Aj c A B:=by subst h;exact k
theorem Le{c:Bool}{A B:Prop}(h:c=false)(k:B):Aj c A B:=by subst h;exact k
theorem Cf{p:Prop}[Decidable p]{A B:Prop}(h1:p→A)(h2: ¬p→B):Aj (decide p) A B:=by
 by_cases h:p
 ·rw[decide_eq_true h];exact h1 h
 ·rw[decide_eq_false h];exact h2 h
theorem Vh{x y:Int}{A B:Prop}(h1:x=y→A)(h2:x≠y→B):Aj (x==y) A B:=by
 by_cases h:x=y
 ·subst h;rw[beq_self_eq_true];exact h1 rfl
 ·rw[beq_eq_false_iff_ne.2 h];exact h2 h
theorem dS{x y:Int}{A B:Prop}(h1:x≠y→A)(h2:x=y→B):Aj (x !=y) A B:=by
 by_cases h:x=y
 ·subst h;rw[bne_self_eq_false];exact h2 rfl
 ·rw[bne_iff_ne.2 h];exact h1 h
theorem bQ{c:Bool}{A B:Prop}(h1:c=true→A)(h2:c=false→B):Aj c A B:=by cases c;exact h2 rfl;exact h1 rfl
theorem En{c:Bool}{A B:Prop}(h1:c=false→A)(h2:c=true→B):Aj (!c) A B:=by cases c;exact h1 rfl;exact h2 rfl
end Go.Eng
