import Derived.Test.YtnjmfbjgcfnanaaGreatCdivP
namespace Go.Proofs.YtnjmfbjgcfnanaaGreat
open Go.Eng Tryz
open Go.IntKind (wrap)
set_option linter.unusedSimpArgs false
set_option linter.unusedVariables false
set_option maxRecDepth 100000
set_option maxHeartbeats 8000000
def iU(x:Int):Prop:=0≤x∧x<4294967296
theorem iU.U{x:Int}(h:iU x):V6 x:=by unfold iU at h;unfold V6;omega
theorem Amk{A B x c:Int}(hA:iU A)(hB:iU B)(hx:iU x)(hc:iU c):
    wrap .u64 (wrap .u64 (x+wrap .u64 (A*B))+c)=x+A*B+c∧V6 (x+A*B+c)∧iU ((x+A*B+c)%4294967296)∧iU ((x+A*B+c)/4294967296):=by
  unfold iU at*
  have:=Yp hA.1 (show A≤4294967295 by omega) hB.1 (show B≤4294967295 by omega)
  refine⟨?_,by unfold V6;omega,by omega,by omega⟩
  simp only[wu64];omega
def L4(d:Nat→Int):List Value:=[.int .u64 (d 0),.int .u64 (d 1),.int .u64 (d 2),.int .u64 (d 3)]
def up(d:Nat→Int)(k:Nat)(v:Int):Nat→Int:=fun n=>if n=k then v else d n
def pr(a b:Int)(i:Nat):Int:=if i=0 then a else b
theorem Ahs(d:Nat→Int){k:Nat}(h:k<4):(L4 d)[k]? =some (.int .u64 (d k)):=by
  rcases k with _|_|_|_|k<;>first|rfl|omega
theorem Af5(d:Nat→Int){k:Nat}(v:Int)(h:k<4):splice (L4 d) (0+k+0) [.int .u64 v]=L4 (up d k v):=by
  rcases k with _|_|_|_|k<;>first|rfl|omega
theorem Ahx(a b:Int){k:Nat}(h:k<2):[Value.int .u64 a,.int .u64 b][k]? =some (.int .u64 (pr a b k)):=by
  rcases k with _|_|k<;>first|rfl|omega
theorem Acr(d:Nat→Int)(k:Nat)(v:Int):up d k v k=v:=by simp[up]
theorem yF(d:Nat→Int){k n:Nat}(v:Int)(h:n≠k):up d k v n=d n:=by simp[up,h]
theorem Ap7{d:Nat→Int}(h: ∀k,iU (d k))(k:Nat){v:Int}(hv:iU v): ∀n,iU (up d k v n):=fun n=>by
  unfold up;split
  · exact hv
  · exact h n
theorem Ue.cl{a b:Int}(ha:V6 a)(hb:V6 b){w:World}{k:TR [(true,[.i .u64,.i .u64,.i .u64,.i .u64])]→WP}
    (h: ∀(d0 d1 d2 d3:Int) w',Af w w'→iU d0→iU d1→iU d2→iU d3→d0+d1*4294967296+d2*18446744073709551616+d3*79228162514264337593543950336=a*b→k ((d0,d1,d2,d3,()),()) w'):
    Ae prog F.Ue [.int .u64 a,.int .u64 b] w false [(true,[.i .u64,.i .u64,.i .u64,.i .u64])] k:=by
  refine Ue.ok ?_
  unfold Ue.wp
  simp only[gX ha,gX hb,yD,Vg (show(0:Int)≤32 by decide)]
  have hA0:iU (a%4294967296):=by unfold iU;omega
  have hA1:iU (a/4294967296):=by unfold iU;unfold V6 at ha;omega
  have hB0:iU (b%4294967296):=by unfold iU;omega
  have hB1:iU (b/4294967296):=by unfold iU;unfold V6 at hb;omega
  have eab:a*b=a%4294967296*(b%4294967296)+(a%4294967296*(b/4294967296)+a/4294967296*(b%4294967296))*4294967296+a/4294967296*(b/4294967296)*18446744073709551616:=by
    have ex:a=a%4294967296+a/4294967296*4294967296:=by omega
    have ey:b=b%4294967296+b/4294967296*4294967296:=by omega
    conv=>lhs;rw[ex,ey]
    generalize a%4294967296=A0
    generalize a/4294967296=A1
    generalize b%4294967296=B0
    generalize b/4294967296=B1
    simp only[Int.add_mul,Int.mul_add]
    have c1:A1*4294967296*(B1*4294967296)=A1*B1*18446744073709551616:=by
      rw[Int.mul_assoc A1,Int.mul_left_comm 4294967296,←Int.mul_assoc,←Int.mul_assoc];omega
    have c2:A1*4294967296*B0=A1*B0*4294967296:=Int.mul_right_comm _ _ _
    have c3:A0*(B1*4294967296)=A0*B1*4294967296:=(Int.mul_assoc _ _ _).symm
    rw[c1,c2,c3];omega
  rw[eab] at h
  generalize a%4294967296=A0 at*
  generalize a/4294967296=A1 at*
  generalize b%4294967296=B0 at*
  generalize b/4294967296=B1 at*
  clear eab ha hb
  refine Ad fun b1 w1 e1 k1 u1=>Ad fun b3 w2 e3 k3 u2=>?_
  have s1:=k1.lt
  refine k3.st _ (by simp) rfl fun w3 k3 u3=>Ad fun b6 w4 e6 k6 u4=>?_
  have s3:=k3.lt
  have k3:=k3.Ai u4
  refine k6.st _ (by simp) rfl fun w5 k6 u5=>Ad fun b9 w6 e9 k9 u6=>?_
  have s6:=k6.lt
  have k3:=(k3.upd u5 (by omega)).Ai u6
  have k6:=k6.Ai u6
  have k1:=((((k1.Ai u2).upd u3 (by omega)).Ai u4).upd u5 (by omega)).Ai u6
  have g6:Af w w6:=((((u1.Ai u2).new u3 (by omega)).Ai u4).new u5 (by omega)).Ai u6
  change Az w6 b3 [.int .u64 A0,.int .u64 A1] at k3
  change Az w6 b6 [.int .u64 B0,.int .u64 B1] at k6
  have hb:b9≠b1∧b9≠b3∧b9≠b6:=by omega
  have hb1:w.heap.size≤b1∧w.heap.size≤b9:=by have:=g6.size;omega
  clear e1 u1 e3 u2 u3 e6 u4 s1 s3 u5 e9 u6 s6
  have hA: ∀i,iU (pr A0 A1 i):=fun i=>by unfold pr;split;exact hA0;exact hA1
  have hB: ∀i,iU (pr B0 B1 i):=fun i=>by unfold pr;split;exact hB0;exact hB1
  refine Ci.by (fun z w'=>Af w w'∧Az w' b1 [.int .u64 0,.int .u64 0,.int .u64 0,.int .u64 0]∧Az w' b3 [.int .u64 A0,.int .u64 A1]∧Az w' b6 [.int .u64 B0,.int .u64 B1]∧
    ∃(i:Nat) (d:Nat→Int),z=((i:Int),())∧i≤2∧Az w' b9 (L4 d)∧(∀n,iU (d n))∧
      (i=0→d 0=0∧d 1=0∧d 2=0∧d 3=0)∧(i=1→d 3=0∧d 0+d 1*4294967296+d 2*18446744073709551616=A0*B0+A0*B1*4294967296)∧
      (i=2→d 0+d 1*4294967296+d 2*18446744073709551616+d 3*79228162514264337593543950336=A0*B0+(A0*B1+A1*B0)*4294967296+A1*B1*18446744073709551616))
    (fun z=>(2-z.1).toNat) ⟨g6,k1,k3,k6,0,fun _=>0,rfl,by omega,k9,fun _=>by(unfold iU;simp only;omega),fun _=>⟨rfl,rfl,rfl,rfl⟩,fun h=>(by cases h),fun h=>(by cases h)⟩ ?_
  clear k1 k3 k6 k9 g6
  rintro z w7 ⟨g,k1,k3,k6,i,e,rfl,hi,k9,he,i0,i1,i2⟩ _
  rw[Ih];split
  case isFalse n=>
    have n:i=2:=by simp at n;omega
    simp only[k9.sU (c:=.i .u64) (o:=0) (i:=0) (v:=.int .u64 (e 0)) (x:=e 0) rfl (Jk _ _),k9.sU (c:=.i .u64) (o:=0) (i:=1) (v:=.int .u64 (e 1)) (x:=e 1) rfl (Jk _ _),k9.sU (c:=.i .u64) (o:=0) (i:=2) (v:=.int .u64 (e 2)) (x:=e 2) rfl (Jk _ _),k9.sU (c:=.i .u64) (o:=0) (i:=3) (v:=.int .u64 (e 3)) (x:=e 3) rfl (Jk _ _),dY]
    refine k1.st _ (by simp) rfl fun w8 k1 u8=>?_
    change Az w8 b1 (L4 e) at k1
    simp only[k1.sU (c:=.i .u64) (o:=0) (i:=0) (v:=.int .u64 (e 0)) (x:=e 0) rfl (Jk _ _),k1.sU (c:=.i .u64) (o:=0) (i:=1) (v:=.int .u64 (e 1)) (x:=e 1) rfl (Jk _ _),k1.sU (c:=.i .u64) (o:=0) (i:=2) (v:=.int .u64 (e 2)) (x:=e 2) rfl (Jk _ _),k1.sU (c:=.i .u64) (o:=0) (i:=3) (v:=.int .u64 (e 3)) (x:=e 3) rfl (Jk _ _),dY]
    exact h _ _ _ _ _ (g.new u8 (by omega)) (he 0) (he 1) (he 2) (he 3) (i2 n)
  rename_i n
  have n:i<2:=by simp at n;omega
  refine Ci.by (fun z w'=>Af w w'∧Az w' b1 [.int .u64 0,.int .u64 0,.int .u64 0,.int .u64 0]∧Az w' b3 [.int .u64 A0,.int .u64 A1]∧Az w' b6 [.int .u64 B0,.int .u64 B1]∧
    ∃(c:Int) (j:Nat) (d:Nat→Int),z=(c,(j:Int),())∧iU c∧j≤2∧Az w' b9 (L4 d)∧(∀n,iU (d n))∧(∀n,n≠i→n≠i+1→d n=e n)∧
      (j=0→d i=e i∧d (i+1)=e (i+1)∧c=0)∧(j=1→d (i+1)=e (i+1)∧d i+c*4294967296=e i+pr A0 A1 i*B0)∧
      (j=2→d i+d (i+1)*4294967296+c*18446744073709551616=e i+e (i+1)*4294967296+pr A0 A1 i*B0+pr A0 A1 i*B1*4294967296))
    (fun z=>(2-z.2.1).toNat) ⟨g,k1,k3,k6,0,0,e,rfl,by unfold iU;omega,by omega,k9,he,fun _ _ _=>rfl,fun _=>⟨rfl,rfl,rfl⟩,fun h=>(by cases h),fun h=>(by cases h)⟩ ?_
  clear k1 k3 k6 k9 g
  rintro z w7 ⟨g,k1,k3,k6,c,j,d,rfl,hc,hj,k9,hd,ho,j0,j1,j2⟩ _
  rw[Ih];split
  case isFalse m=>
    have m:j=2:=by simp at m;omega
    have j2:=j2 m
    have e2:wrap .i64 ((i:Int)+2)=((i+2:Nat):Int):=by rw[Ah (by unfold I64;omega)];rfl
    simp only[e2]
    rw[Tq (by omega),Int.toNat_natCast,add_eq,k9.ld (c:=.i .u64) (by rw[Nat.mul_one,Nat.zero_add];exact Ahs d (by omega)) (Jk _ _),Tq (by omega),add_eq,Nat.mul_one]
    refine k9.st _ (by simp[L4];omega) rfl fun w8 k9 u8=>?_
    rw[Af5 d _ (by omega)] at k9
    have e3:wrap .i64 ((i:Int)+1)=((i+1:Nat):Int):=by rw[Ah (by unfold I64;omega)];rfl
    have o2:=ho (i+2) (by omega) (by omega)
    have e4:wrap .u64 (d (i+2)+c)=c:=by
      rw[wu64,o2]
      have:e (i+2)=0:=by
        rcases i with _|_|i
        · exact(i0 rfl).2.2.1
        · exact(i1 rfl).1
        · omega
      unfold iU at hc;omega
    rw[e4] at k9
    rw[e3]
    refine⟨⟨g.new u8 (by omega),k1.upd u8 (by omega),k3.upd u8 (by omega),k6.upd u8 (by omega),i+1,up d (i+2) c,rfl,by omega,k9,Ap7 hd _ hc,fun x=>(by cases x),fun x=>?_,fun x=>?_⟩,by(try simp only);omega⟩
    · have:i=0:=by omega
      subst this
      have:=ho 3 (by omega) (by omega)
      have:=i0 rfl
      simp only[up,pr] at*
      simp at*
      omega
    · have:i=1:=by omega
      subst this
      have:=ho 0 (by omega) (by omega)
      have:=i1 rfl
      simp only[up,pr] at*
      simp at*
      omega
  rename_i m
  have m:j<2:=by simp at m;omega
  have e2:wrap .i64 ((i:Int)+(j:Int))=((i+j:Nat):Int):=by rw[Ah (by unfold I64;omega)];rfl
  simp only[e2,Ap]
  rw[Tq (by omega),Int.toNat_natCast,add_eq,k9.drew.ld (c:=.i .u64) (by rw[Nat.mul_one,Nat.zero_add];exact Ahs d (by omega)) (Jk _ _),
    Tq (by omega),Int.toNat_natCast,add_eq,k3.drew.ld (c:=.i .u64) (by rw[Nat.mul_one,Nat.zero_add];exact Ahx A0 A1 n) (Jk _ _),
    Tq (by omega),Int.toNat_natCast,add_eq,k6.drew.ld (c:=.i .u64) (by rw[Nat.mul_one,Nat.zero_add];exact Ahx B0 B1 m) (Jk _ _),Tq (by omega),add_eq,Nat.mul_one]
  obtain⟨t1,t2,t3,t4⟩:=Amk (hA i) (hB j) (hd (i+j)) hc
  rw[t1,gX t2]
  refine k9.drew.st _ (by simp[L4];omega) rfl fun w8 k9 u8=>?_
  have e3:wrap .i64 ((j:Int)+1)=((j+1:Nat):Int):=by rw[Ah (by unfold I64;omega)];rfl
  rw[Af5 d _ (by omega)] at k9
  rw[e3]
  refine⟨⟨(Am.drew g).new u8 (by omega),k1.drew.upd u8 (by omega),k3.drew.upd u8 (by omega),k6.drew.upd u8 (by omega),_,j+1,up d (i+j) _,rfl,t4,by omega,k9,Ap7 hd _ t3,fun x h1 h2=>by rw[yF d _ (by omega)];exact ho x h1 h2,fun x=>(by cases x),fun x=>?_,fun x=>?_⟩,by(try simp only);omega⟩
  · have:j=0:=by omega
    subst this
    have j0:=j0 rfl
    rw[show i+0=i by omega,Acr,yF d _ (by omega)]
    refine⟨j0.2.1,?_⟩
    rw[show pr B0 B1 0=B0 from rfl]
    generalize pr A0 A1 i*B0=X at*
    omega
  · have:j=1:=by omega
    subst this
    have j1:=j1 rfl
    rw[Acr,yF d _ (by omega)]
    rw[show pr B0 B1 1=B1 from rfl]
    generalize pr A0 A1 i*B0=X at*
    generalize pr A0 A1 i*B1=Y at*
    omega
def dg(d0 d1 d2 d3 k:Nat):Nat:=if k=0 then d0 else if k=1 then d1 else if k=2 then d2 else d3
theorem Amd(d0 d1 d2 d3:Nat){k:Nat}(h:k<4):[Value.int .u64 (d0:Int),.int .u64 (d1:Int),.int .u64 (d2:Int),.int .u64 (d3:Int)][k]? =some (.int .u64 ((dg d0 d1 d2 d3 k:Nat):Int)):=by
  rcases k with _|_|_|_|k<;>first|rfl|omega
theorem xH{d H n j:Nat}(hj:j<32)(e:n=d+4294967296*H):n/2^j%2=d/2^j%2:=by
  have:4294967296=2^j*(2*2^(31-j)):=by
    rw[←Nat.pow_succ',←Nat.pow_add,show j+(31-j).succ=32 by omega]
  rw[e,this,Nat.mul_assoc,Nat.add_mul_div_left _ _ (Nat.two_pow_pos j),Nat.mul_assoc,Nat.add_mul_mod_self_left]
theorem Am2{d0 d1 d2 d3 n s:Nat}(h0:d0<4294967296)(h1:d1<4294967296)(h2:d2<4294967296)(h3:d3<4294967296)
    (e:n=d0+d1*4294967296+d2*18446744073709551616+d3*79228162514264337593543950336) (hs:s<128):dg d0 d1 d2 d3 (s/32)/2^(s%32)%2=n/2^s%2:=by
  have e1:n/2^s=n/2^(32*(s/32))/2^(s%32):=by
    rw[Nat.div_div_eq_div_mul,←Nat.pow_add,Nat.div_add_mod]
  rw[e1]
  have hj:s%32<32:=Nat.mod_lt _ (by decide)
  have hk:s/32<4:=by omega
  generalize s/32=k at*
  generalize s%32=j at*
  symm
  rcases k with _|_|_|_|k
  · exact xH (H:=d1+d2*4294967296+d3*18446744073709551616) hj (by rw[show 2^(32*0)=1 by decide];simp only[dg,if_true];omega)
  · exact xH (H:=d2+d3*4294967296) hj (by rw[show 2^(32*(0+1))=4294967296 by decide];simp[dg];omega)
  · exact xH (H:=d3) hj (by rw[show 2^(32*(0+1+1))=18446744073709551616 by decide];simp[dg];omega)
  · exact xH (H:=0) hj (by rw[show 2^(32*(0+1+1+1))=79228162514264337593543950336 by decide];simp[dg];omega)
  · omega
theorem Akg{M c β:Nat}(hc:0<c)(hβ:β<2):(if 2*(M%c)+β≥c then(2*M+β)/c=2*(M/c)+1∧(2*M+β)%c=2*(M%c)+β-c else(2*M+β)/c=2*(M/c)∧(2*M+β)%c=2*(M%c)+β):=by
  have e:=Nat.div_add_mod M c
  have e1:=Nat.mod_lt M hc
  split
  · rename_i h
    have:=(Nat.div_mod_unique (a:=2*M+β) (d:=2*(M/c)+1) (c:=2*(M%c)+β-c) hc).2 ⟨by rw[Nat.mul_add,Nat.mul_left_comm];omega,by omega⟩
    exact this
  · rename_i h
    have:=(Nat.div_mod_unique (a:=2*M+β) (d:=2*(M/c)) (c:=2*(M%c)+β) hc).2 ⟨by rw[Nat.mul_left_comm];omega,by omega⟩
    exact this
theorem Vd.cl{d0 d1 d2 d3 n c:Nat}(h0:d0<4294967296)(h1:d1<4294967296)(h2:d2<4294967296)(h3:d3<4294967296)
    (e:n=d0+d1*4294967296+d2*18446744073709551616+d3*79228162514264337593543950336) (hc:0<c) (hc':c≤9223372036854775808)
    {w:World} {k:TR [(false,[.i .u64]),(false,[.i .u64]),(false,[.b])]→WP}
    (h: ∀w',Af w w'→k ((((n/c%18446744073709551616:Nat):Int),()),(((n%c:Nat):Int),()),(decide (n/c<18446744073709551616),()),()) w'):
    Ae prog F.Vd [.agg #[.int .u64 d0,.int .u64 d1,.int .u64 d2,.int .u64 d3],.int .u64 c] w true [(false,[.i .u64]),(false,[.i .u64]),(false,[.b])] k:=by
  refine Vd.ok ?_
  unfold Vd.wp
  refine Ad fun b1 w1 e1 k1 u1=>?_
  refine Ci.by (fun z w'=>w1=w'∧ ∃t:Nat,t≤128∧z=(((n/2^t/c%18446744073709551616:Nat):Int),((n/2^t%c:Nat):Int),decide (n/2^t/c<18446744073709551616),(t:Int)-1,()))
    (fun z=>(z.2.2.2.1+1).toNat) ⟨rfl,128,by omega,?_⟩ ?_
  · have:n/2^128=0:=Nat.div_eq_of_lt (by rw[show 2^128=340282366920938463463374607431768211456 by decide];omega)
    rw[this,Nat.zero_div,Nat.zero_mod,Nat.zero_mod];rfl
  rintro z w2 ⟨rfl,t,ht,rfl⟩ _
  rw[Ih];split
  case isFalse m=>
    have m:t=0:=by simp at m;omega
    subst m
    rw[Nat.pow_zero,Nat.div_one]
    exact h _ u1
  rename_i m
  have m:1≤t:=by simp at m;omega
  obtain⟨s,rfl⟩: ∃s,t=s+1:=⟨t-1,by omega⟩
  have es:(((s+1:Nat):Int)-1)=(s:Int):=by omega
  have ed:wrap .i64 (Int.tdiv (s:Int) 32)=((s/32:Nat):Int):=by rw[Int.tdiv_eq_ediv_of_nonneg (by omega),Ah (by unfold I64;omega)];rfl
  have em:wrap .u64 (Int.tmod (s:Int) 32)=((s%32:Nat):Int):=by rw[Int.tmod_eq_emod_of_nonneg (by omega),Lp (by unfold V6;omega)];rfl
  simp only[es,ed,em]
  have hdg:dg d0 d1 d2 d3 (s/32)<4294967296:=by unfold dg;split<;>(try split)<;>(try split)<;>assumption
  have hb:=Am2 h0 h1 h2 h3 e (show s<128 by omega)
  rw[Pg (by decide),Tq (by omega),Int.toNat_natCast,add_eq,k1.ld (c:=.i .u64) (by rw[Nat.mul_one,Nat.zero_add];exact Amd d0 d1 d2 d3 (by omega)) (Jk _ _),Pg (by decide),Vg (by omega)]
  rw[bJ (s%32) (by show s%32≤64;omega),←Int.natCast_ediv,and_1 (by have:=Nat.div_le_self (dg d0 d1 d2 d3 (s/32)) (2^(s%32));generalize dg d0 d1 d2 d3 (s/32)/2^(s%32)=X at*;unfold V6;omega)]
  have eb:((dg d0 d1 d2 d3 (s/32)/2^(s%32):Nat):Int)%2=((n/2^s%2:Nat):Int):=by rw[←hb];rfl
  rw[eb]
  have e2:n/2^s=2*(n/2^(s+1))+n/2^s%2:=by
    have:=Nat.div_add_mod (n/2^s) 2
    rw[Nat.div_div_eq_div_mul,←Nat.pow_succ] at this;exact this.symm
  have hβ:n/2^s%2<2:=Nat.mod_lt _ (by decide)
  generalize hM:n/2^(s+1)=M at*
  generalize hβ':n/2^s%2=β at*
  have st:=Akg (M:=M) (c:=c) hc hβ
  have hr:=Nat.mod_lt M hc
  refine Cc.by (fun z w'=>w1=w'∧z=(decide (2*(M/c)+1<18446744073709551616),())) ?_ ?_
  · rw[Ih];split
    · rename_i x;have x:9223372036854775808≤M/c%18446744073709551616:=by simp at x;omega
      refine⟨rfl,?_⟩
      rw[decide_eq_false (by omega)]
    · rename_i x;have x: ¬9223372036854775808≤M/c%18446744073709551616:=by simp at x;omega
      refine⟨rfl,?_⟩
      have:(2*(M/c)+1<18446744073709551616)↔(M/c<18446744073709551616):=by omega
      simp only[this]
  rintro z w2 ⟨rfl,rfl⟩ _
  have e3:wrap .u64 (wrap .u64 (2*((M%c:Nat):Int))+((β:Nat):Int))=((2*(M%c)+β:Nat):Int):=by simp only[wu64];omega
  simp only[e3]
  have e4:wrap .i64 ((s:Int)-1)=(s:Int)-1:=Ah (by unfold I64;omega)
  rw[e4,Ih]
  split
  · rename_i x;have x:c≤2*(M%c)+β:=by simp at x;omega
    rw[if_pos x] at st
    refine⟨⟨by first|rfl|trivial,s,by omega,?_⟩,by(try simp only);omega⟩
    rw[e2,st.1,st.2]
    have f1:wrap .u64 (wrap .u64 (2*((M/c%18446744073709551616:Nat):Int))+1)=(((2*(M/c)+1)%18446744073709551616:Nat):Int):=by simp only[wu64];omega
    have f2:wrap .u64 (((2*(M%c)+β:Nat):Int)-(c:Int))=((2*(M%c)+β-c:Nat):Int):=by simp only[wu64];omega
    rw[f1,f2]
  · rename_i x;have x: ¬c≤2*(M%c)+β:=by simp at x;omega
    rw[if_neg x] at st
    refine⟨⟨by first|rfl|trivial,s,by omega,?_⟩,by(try simp only);omega⟩
    rw[e2,st.1,st.2]
    have f1:wrap .u64 (2*((M/c%18446744073709551616:Nat):Int))=((2*(M/c)%18446744073709551616:Nat):Int):=by simp only[wu64];omega
    have f2:(2*(M/c)+1<18446744073709551616)↔(2*(M/c)<18446744073709551616):=by omega
    rw[f1]
    simp only[f2]
theorem Rk.cl{a b c:Int}(ha:I64 a)(hb:I64 b)(hc:I64 c){w:World}{k:TR [(false,[KI]),(false,[.b])]→WP}
    (h: ∀w',Af w w'→k ((mdV a b c,()),(mdB a b c,()),()) w'):
    Ae prog F.Rk [iV a,iV b,iV c] w true [(false,[KI]),(false,[.b])] k:=by
  refine Rk.ok ?_
  unfold Rk.wp
  rw[Ih];split
  · rename_i h1
    have h1:c<1:=by simpa using h1
    have:=h w (Af.refl w);rw[(Aju h1).1,(Aju h1).2] at this;exact this
  rename_i h1
  have h1: ¬c<1:=by simpa using h1
  have wc:wrap .u64 c=c:=Lp (by unfold V6;unfold I64 at hc;omega)
  refine Tn.cl ha (Tn.cl hb ?_)
  refine Ue.cl (Adl ha) (Adl hb) fun d0 d1 d2 d3 w1 g1 D0 D1 D2 D3 eD=>?_
  obtain⟨d0,rfl⟩:=Int.eq_ofNat_of_zero_le D0.1
  obtain⟨d1,rfl⟩:=Int.eq_ofNat_of_zero_le D1.1
  obtain⟨d2,rfl⟩:=Int.eq_ofNat_of_zero_le D2.1
  obtain⟨d3,rfl⟩:=Int.eq_ofNat_of_zero_le D3.1
  obtain⟨c,rfl⟩:=Int.eq_ofNat_of_zero_le (show 0≤c by omega)
  unfold iU at D0 D1 D2 D3
  have hs:=@Ade a b
  have hd:=@Ac6 a b
  rw[←eD] at hs hd
  obtain⟨n,en⟩: ∃n:Nat,n=d0+d1*4294967296+d2*18446744073709551616+d3*79228162514264337593543950336:=⟨_,rfl⟩
  have en':(d0:Int)+d1*4294967296+d2*18446744073709551616+d3*79228162514264337593543950336=(n:Int):=by omega
  rw[en'] at hs hd
  simp only[wc]
  refine Vd.cl (d0:=d0) (by omega) (by omega) (by omega) (by omega) en (by omega) (by unfold I64 at hc;omega) fun w2 g2=>?_
  have g3:=g1.trans g2
  clear g1 g2 eD en' en D0 D1 D2 D3
  have lose: ¬I64 (a*b/(c:Int))→ ∀w',Af w w'→k ((0,()),(false,()),()) w':=fun x w' g=>by
    have:=h w' g;rw[(oO x).1,(oO x).2] at this;exact this
  have win: ∀v,a*b/(c:Int)=v→I64 v→ ∀w',Af w w'→k ((v,()),(true,()),()) w':=fun v x y w' g=>by
    have:=h w' g;rw[(xW h1 x y).1,(xW h1 x y).2] at this;exact this
  have nd:=Adh (P:=(n:Int)) (c:=(c:Int)) (by omega)
  rw[←Int.natCast_ediv,←Int.natCast_emod] at nd
  have hc0:0<c:=by omega
  simp only
  have hm:n%c<c:=Nat.mod_lt _ hc0
  generalize hq:n/c=q at*
  generalize hr:n%c=r at*
  have hcast:((n:Int)/(c:Int))=(q:Int):=by rw[←hq];rfl
  rw[Ih];split
  · rename_i g;have g: ¬q<18446744073709551616:=by simp at g;omega
    refine lose ?_ w2 g3
    unfold I64
    by_cases x:(decide (a<0)==decide (b<0))=true
    · rw[hs x,hcast];omega
    · rw[hd x,nd];split<;>omega
  rename_i g;have g:q<18446744073709551616:=by simp at g;omega
  have eq:q%18446744073709551616=q:=Nat.mod_eq_of_lt g
  rw[eq]
  refine Cc.by (fun z w'=>w2=w'∧((z.1=true∧a*b/(c:Int)=(q:Int))∨(z.1=false∧a*b/(c:Int)=if(r:Int)>0 then-(q:Int)-1 else-(q:Int)))) ?_ ?_
  · rw[Ih];split
    · rename_i x;exact⟨rfl,.inl ⟨rfl,by rw[hs x,hcast]⟩⟩
    · rename_i x
      rw[Ih];split
      · rename_i y;have y:q=0:=by simp at y;omega
        refine⟨rfl,?_⟩
        rw[hd x,nd]
        by_cases z:r=0
        · left;subst z;subst y;exact⟨rfl,rfl⟩
        · right;exact⟨by simp;omega,rfl⟩
      · exact⟨rfl,.inr ⟨rfl,by rw[hd x,nd]⟩⟩
  rintro⟨z,u⟩ w3 ⟨rfl,hz⟩ _
  simp only at hz⊢
  rcases hz with ⟨rfl,e⟩|⟨rfl,e⟩
  · rw[fU]
    rw[e] at lose win
    rw[Ih];split
    · rename_i y;have y:(9223372036854775807:Int)<(q:Int):=of_decide_eq_true y
      exact lose (by unfold I64;omega) w2 g3
    · rename_i y;have y: ¬9223372036854775807<q:=by simp at y;omega
      rw[Ah (by unfold I64;omega)]
      exact win q rfl (by show _≤_∧_≤_;omega) w2 g3
  rw[Y2]
  rw[e] at lose win
  refine Cc.by (fun z w'=>w2=w'∧z=(((if r>0 then q+1 else q:Nat):Int),())∧z.1≤18446744073709551615) ?_ ?_
  · rw[Ih];split
    · rename_i y;have y:0<r:=by simp at y;omega
      rw[if_pos (by omega)] at lose
      rw[Ih];split
      · rename_i z;have z:(9223372036854775808:Int)≤(q:Int):=of_decide_eq_true z
        exact lose (by unfold I64;omega) w2 g3
      · rename_i z;have z: ¬9223372036854775808≤q:=by simp at z;omega
        have e:wrap .u64 ((q:Int)+1)=((q+1:Nat):Int):=by rw[wu64];omega
        rw[e]
        exact⟨rfl,by first|rfl|rw[if_pos y],by show((q+1:Nat):Int)≤_;omega⟩
    · rename_i y;have y: ¬0<r:=by simp at y;omega
      exact⟨rfl,by rw[if_neg y],by show(q:Int)≤_;omega⟩
  rintro z w3 ⟨rfl,rfl,hz⟩ _
  have e5:(if(r:Int)>0 then-(q:Int)-1 else-(q:Int))= -(((if r>0 then q+1 else q:Nat):Int)):=by split<;>split<;>omega
  rw[e5] at win lose
  simp only at hz⊢
  generalize (if r>0 then q+1 else q)=v at*
  rw[Ih];split
  · rename_i y;have y:9223372036854775808<v:=by simp at y;omega
    exact lose (by unfold I64;omega) w2 g3
  · rename_i y;have y: ¬9223372036854775808<v:=by simp at y;omega
    rw[Ih];split
    · rename_i z;have z:v=0:=by simp at z;omega
      subst z
      exact win 0 rfl (by decide) w2 g3
    · rename_i z;have z: ¬v=0:=by simp at z;omega
      have e7:wrap .i64 (wrap .i64 (0-wrap .i64 (wrap .u64 ((v:Int)-1)))-1)= -(v:Int):=by simp only[wu64,kJ];omega
      rw[e7]
      exact win _ rfl (by unfold I64;omega) w2 g3
end Go.Proofs.YtnjmfbjgcfnanaaGreat
