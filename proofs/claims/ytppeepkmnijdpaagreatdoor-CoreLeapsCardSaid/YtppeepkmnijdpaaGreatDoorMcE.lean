import Derived.Test.YtppeepkmnijdpaaGreatDoorMcC
import Derived.Test.YtppeepkmnijdpaaGreatDoorEngB
namespace Go.Proofs.YtppeepkmnijdpaaGreatDoor
open Go.Eng Tryz
open Go.IntKind (wrap)
set_option linter.unusedSimpArgs false
set_option linter.unusedVariables false
set_option maxRecDepth 100000
set_option maxHeartbeats 8000000
theorem Ym{a b m n:Int}(h1:0≤a)(h2:a≤m)(h3:0≤b)(h4:b≤n):0≤a*b∧a*b≤m*n:=
 ⟨Int.mul_nonneg h1 h3,Int.mul_le_mul h2 h4 h3 (by omega)⟩
theorem bits_Mul64.cl{x y:Int}(hx:Tn x)(hy:Tn y){w:World}{k:TR [(false,[.i .u64]),(false,[.i .u64])]→WP}
  (h:k ((x*y/18446744073709551616,()),(x*y%18446744073709551616,()),()) w):
  Ad prog F.bits_Mul64 [.int .u64 x,.int .u64 y] w true [(false,[.i .u64]),(false,[.i .u64])] k:=by
 refine bits_Mul64.ok ?_
 simp only[Nj (show(0:Int)≤32 by decide)]
 simp only[Adn,tC hx,tC hy]
 unfold Tn at hx hy
 have a1:0≤x%4294967296∧x%4294967296≤4294967295:=by omega
 have a2:0≤y%4294967296∧y%4294967296≤4294967295:=by omega
 have a3:0≤x/4294967296∧x/4294967296≤4294967295:=by omega
 have a4:0≤y/4294967296∧y/4294967296≤4294967295:=by omega
 have ex:x=4294967296*(x/4294967296)+x%4294967296:=by omega
 have ey:y=4294967296*(y/4294967296)+y%4294967296:=by omega
 have e:x*y=18446744073709551616*(x/4294967296*(y/4294967296))+4294967296*(x/4294967296*(y%4294967296))+4294967296*(x%4294967296*(y/4294967296))+x%4294967296*(y%4294967296):=by
  conv=>lhs;rw[ex,ey]
  simp only[Int.add_mul,Int.mul_add]
  have c1:4294967296*(x/4294967296)*(4294967296*(y/4294967296))=18446744073709551616*(x/4294967296*(y/4294967296)):=by
   rw[Int.mul_assoc,Int.mul_left_comm (x/4294967296),←Int.mul_assoc];rfl
  have c2:4294967296*(x/4294967296)*(y%4294967296)=4294967296*(x/4294967296*(y%4294967296)):=Int.mul_assoc _ _ _
  have c3:x%4294967296*(4294967296*(y/4294967296))=4294967296*(x%4294967296*(y/4294967296)):=Int.mul_left_comm _ _ _
  rw[c1,c2,c3];omega
 have b1:=Ym a3.1 a3.2 a4.1 a4.2
 have b2:=Ym a3.1 a3.2 a2.1 a2.2
 have b3:=Ym a1.1 a1.2 a4.1 a4.2
 have b4:=Ym a1.1 a1.2 a2.1 a2.2
 generalize hp11:x/4294967296*(y/4294967296)=p11 at*
 generalize hp10:x/4294967296*(y%4294967296)=p10 at*
 generalize hp01:x%4294967296*(y/4294967296)=p01 at*
 generalize hp00:x%4294967296*(y%4294967296)=p00 at*
 generalize hxy:x*y=z at*
 have f1:wrap .u64 p00=p00:=I9 (by unfold Tn;omega)
 have f2:wrap .u64 p10=p10:=I9 (by unfold Tn;omega)
 have f3:wrap .u64 p01=p01:=I9 (by unfold Tn;omega)
 have f4:wrap .u64 p11=p11:=I9 (by unfold Tn;omega)
 have f5:wrap .u64 (p10+p00/4294967296)=p10+p00/4294967296:=I9 (by unfold Tn;omega)
 rw[f1,f2,f3,f4,f5,tC (by unfold Tn;omega)]
 have f6:wrap .u64 ((p10+p00/4294967296)%4294967296+p01)=(p10+p00/4294967296)%4294967296+p01:=I9 (by unfold Tn;omega)
 rw[f6]
 have f7:wrap .u64 (wrap .u64 (p11+(p10+p00/4294967296)/4294967296)+((p10+p00/4294967296)%4294967296+p01)/4294967296)=z/18446744073709551616:=by
  simp only[wu64];omega
 have f8:wrap .u64 z=z%18446744073709551616:=wu64 z
 rw[f7,f8]
 exact h
def Aqq(o:Option UInt8)(n:Nat):Bool:=match o with
 |some t=>(n==0&&t==0)||(decide (0<n)&&decide (0<t.toNat)&&decide (t.toNat≤8)&&decide (2^(t.toNat-1)≤n)&&decide (n<2^t.toNat))
 |none=>false
theorem Aw4:(List.range 256).all (λn=>Aqq ((⟨#[0,1,2,2,3,3,3,3,4,4,4,4,4,4,4,4,5,5,5,5,5,5,5,5,5,5,5,5,5,5,5,5,6,6,6,6,6,6,6,6,6,6,6,6,6,6,6,6,6,6,6,6,6,6,6,6,6,6,6,6,6,6,6,6,7,7,7,7,7,7,7,7,7,7,7,7,7,7,7,7,7,7,7,7,7,7,7,7,7,7,7,7,7,7,7,7,7,7,7,7,7,7,7,7,7,7,7,7,7,7,7,7,7,7,7,7,7,7,7,7,7,7,7,7,7,7,7,7,8,8,8,8,8,8,8,8,8,8,8,8,8,8,8,8,8,8,8,8,8,8,8,8,8,8,8,8,8,8,8,8,8,8,8,8,8,8,8,8,8,8,8,8,8,8,8,8,8,8,8,8,8,8,8,8,8,8,8,8,8,8,8,8,8,8,8,8,8,8,8,8,8,8,8,8,8,8,8,8,8,8,8,8,8,8,8,8,8,8,8,8,8,8,8,8,8,8,8,8,8,8,8,8,8,8,8,8,8,8,8,8,8,8,8,8,8,8,8,8,8,8,8,8,8,8,8,8]⟩:ByteArray)[n]?) n)=true:=by decide+kernel
def Lu(n:Nat):Nat:=if n=0 then 0 else Nat.log2 n+1
theorem bU{n m:Nat}(h:2^m≤n):Lu n=Lu (n/2^m)+m:=by
 have h0:n≠0:=by have:=Nat.two_pow_pos m;omega
 have h1:n/2^m≠0:=by
  have:=Nat.div_pos h (Nat.two_pow_pos m);omega
 unfold Lu
 rw[if_neg h0,if_neg h1]
 have:Nat.log2 n=Nat.log2 (n/2^m)+m:=by
  have a1:=(Nat.log2_eq_iff h1 (k:=Nat.log2 (n/2^m))).1 rfl
  refine(Nat.log2_eq_iff h0).2 ⟨?_,?_⟩
  ·rw[Nat.pow_add];exact Nat.mul_le_of_le_div _ _ _ a1.1
  ·rw[show Nat.log2 (n/2^m)+m+1=(Nat.log2 (n/2^m)+1)+m by omega,Nat.pow_add]
   exact Nat.lt_mul_of_div_lt a1.2 (Nat.two_pow_pos m)
 omega
theorem mW{n m:Nat}(h:n<2^m):Lu n≤m:=by
 unfold Lu
 split
 ·omega
 ·rename_i h0
  have:=(Nat.log2_lt h0).2 h
  omega
theorem bits_Len64.cl{x:Int}(hx:Tn x){w:World}{k:TR [(false,[KI])]→WP}(h:k (((Lu x.toNat:Nat),()),()) w):
  Ad prog F.bits_Len64 [.int .u64 x] w false [(false,[KI])] k:=by
 refine bits_Len64.ok ?_
 obtain⟨n,rfl⟩:=Int.eq_ofNat_of_zero_le hx.1
 have hn:n<18446744073709551616:=by unfold Tn at hx;omega
 rw[Int.toNat_natCast] at h
 refine Bh.by (λz w'=>w=w'∧ ∃(y c:Nat),z=((y:Int),(c:Int),())∧y<4294967296∧Lu n=Lu y+c∧c≤32) ?_ ?_
 ·rw[O9,Nj (by decide)]
  split
  ·rename_i h1;simp only[decide_eq_true_eq] at h1
   refine⟨rfl,n/4294967296,32,?_,by omega,?_,by omega⟩
   ·rw[Adn];simp
   ·exact bU (m:=32) (by omega)
  ·rename_i h1;simp only[decide_eq_true_eq] at h1
   exact⟨rfl,n,0,rfl,by omega,rfl,by omega⟩
 rintro z w' ⟨rfl,y,c,rfl,hy,hb,hc⟩ _
 refine Bh.by (λz w'=>w=w'∧ ∃(y c:Nat),z=((y:Int),(c:Int),())∧y<65536∧Lu n=Lu y+c∧c≤48) ?_ ?_
 ·rw[O9,Nj (by decide)]
  split
  ·rename_i h1;simp only[decide_eq_true_eq] at h1
   refine⟨rfl,y/65536,c+16,?_,by omega,?_,by omega⟩
   ·have e1:I7 .u64 (y:Int) 16=((y/65536:Nat):Int):=by rw[show(16:Int)=((16:Nat):Int) from rfl,dH 16 (by decide)];simp
    have e2:wrap .i64 ((c:Int)+16)=((c+16:Nat):Int):=by rw[Af (by unfold I64;omega)];simp
    rw[e1,e2]
   ·have:=bU (n:=y) (m:=16) (by omega)
    rw[hb,this];simp;omega
  ·rename_i h1;simp only[decide_eq_true_eq] at h1
   exact⟨rfl,y,c,rfl,by omega,hb,by omega⟩
 rintro z w' ⟨rfl,y,c,rfl,hy,hb,hc⟩ _
 refine Bh.by (λz w'=>w=w'∧ ∃(y c:Nat),z=((y:Int),(c:Int),())∧y<256∧Lu n=Lu y+c∧c≤56) ?_ ?_
 ·rw[O9,Nj (by decide)]
  split
  ·rename_i h1;simp only[decide_eq_true_eq] at h1
   refine⟨rfl,y/256,c+8,?_,by omega,?_,by omega⟩
   ·have e1:I7 .u64 (y:Int) 8=((y/256:Nat):Int):=by rw[show(8:Int)=((8:Nat):Int) from rfl,dH 8 (by decide)];simp
    have e2:wrap .i64 ((c:Int)+8)=((c+8:Nat):Int):=by rw[Af (by unfold I64;omega)];simp
    rw[e1,e2]
   ·have:=bU (n:=y) (m:=8) (by omega)
    rw[hb,this];simp;omega
  ·rename_i h1;simp only[decide_eq_true_eq] at h1
   exact⟨rfl,y,c,rfl,by omega,hb,by omega⟩
 rintro z w' ⟨rfl,y,c,rfl,hy,hb,hc⟩ _
 have e1:wrap .u8 (y:Int)=y:=by rw[IntKind.wrap_u8];omega
 have e2:=List.all_eq_true.1 Aw4 y (List.mem_range.2 hy)
 rw[e1]
 unfold siK
 rw[if_pos (by omega),Int.toNat_natCast]
 have e3:=mW (n:=y) (m:=8) (by omega)
 revert e2
 generalize (⟨#[0,1,2,2,3,3,3,3,4,4,4,4,4,4,4,4,5,5,5,5,5,5,5,5,5,5,5,5,5,5,5,5,6,6,6,6,6,6,6,6,6,6,6,6,6,6,6,6,6,6,6,6,6,6,6,6,6,6,6,6,6,6,6,6,7,7,7,7,7,7,7,7,7,7,7,7,7,7,7,7,7,7,7,7,7,7,7,7,7,7,7,7,7,7,7,7,7,7,7,7,7,7,7,7,7,7,7,7,7,7,7,7,7,7,7,7,7,7,7,7,7,7,7,7,7,7,7,7,8,8,8,8,8,8,8,8,8,8,8,8,8,8,8,8,8,8,8,8,8,8,8,8,8,8,8,8,8,8,8,8,8,8,8,8,8,8,8,8,8,8,8,8,8,8,8,8,8,8,8,8,8,8,8,8,8,8,8,8,8,8,8,8,8,8,8,8,8,8,8,8,8,8,8,8,8,8,8,8,8,8,8,8,8,8,8,8,8,8,8,8,8,8,8,8,8,8,8,8,8,8,8,8,8,8,8,8,8,8,8,8,8,8,8,8,8,8,8,8,8,8,8,8,8,8,8,8]⟩:ByteArray)[y]? =o
 intro e2
 unfold Aqq at e2
 split at e2
 case h_2=>cases e2
 rename_i t
 have e5:t.toNat=Lu y:=by
  simp only[Bool.or_eq_true,Bool.and_eq_true,beq_iff_eq,decide_eq_true_eq] at e2
  rcases e2 with ⟨rfl,rfl⟩|⟨⟨⟨⟨g1,g2⟩,g3⟩,g4⟩,g5⟩
  ·rfl
  ·unfold Lu
   rw[if_neg (by omega)]
   have:Nat.log2 y=t.toNat-1:=(Nat.log2_eq_iff (by omega)).2 ⟨g4,by rwa [show t.toNat-1+1=t.toNat by omega]⟩
   omega
 simp only
 rw[e5,Af (n:=(Lu y:Int)) (by unfold I64;omega),Af (by unfold I64;omega)]
 have e6:((c:Int)+(Lu y:Int))=((Lu n:Nat):Int):=by omega
 rw[e6];exact h
theorem bits_LeadingZeros64.cl{x:Int}(hx:Tn x){w:World}{k:TR [(false,[KI])]→WP}(h:k ((64-(Lu x.toNat:Nat),()),()) w):
  Ad prog F.bits_LeadingZeros64 [.int .u64 x] w false [(false,[KI])] k:=by
 refine bits_LeadingZeros64.ok ?_
 refine bits_Len64.cl hx ?_
 have e:=mW (n:=x.toNat) (m:=64) (by rw[p64];unfold Tn at hx;omega)
 simp only
 rw[Af (by unfold I64;omega)];exact h
section
variable {u l Y1 Y0 q r:Int}
theorem Ajk(h1:2147483648≤Y1)(h0:0≤Y0)(hu:0≤u)(huy:u<Y1*4294967296+Y0)(hl:0≤l∧l<4294967296):
  0≤(u*4294967296+l)/(Y1*4294967296+Y0)∧(u*4294967296+l)/(Y1*4294967296+Y0)<4294967296:=by
 refine⟨Int.ediv_nonneg (by omega) (by omega),Int.ediv_lt_of_lt_mul (by omega) (by omega)⟩
theorem Ar0(h1:2147483648≤Y1)(h0:0≤Y0)(hq:q*Y1+r=u)(hb:q*Y0>4294967296*r+l):
  (u*4294967296+l)/(Y1*4294967296+Y0)≤q-1:=by
 have:(u*4294967296+l)/(Y1*4294967296+Y0)<q:=by
  refine Int.ediv_lt_of_lt_mul (by omega) ?_
  rw[Int.mul_add,←Int.mul_assoc];omega
 omega
theorem Acu(h1:2147483648≤Y1)(h0:0≤Y0)(hq:q*Y1+r=u)(hb:q*Y0≤4294967296*r+l):
  q≤(u*4294967296+l)/(Y1*4294967296+Y0):=by
 refine Int.le_ediv_of_mul_le (by omega) ?_
 rw[Int.mul_add,←Int.mul_assoc];omega
theorem Ajl(h1:2147483648≤Y1)(h0:0≤Y0∧Y0<4294967296)(hl:0≤l)(hq0:0≤q)(hq:q*Y1+r=u)(huy:u<Y1*4294967296+Y0)(hr:4294967296≤r):
  q≤(u*4294967296+l)/(Y1*4294967296+Y0):=by
 have hlt:q<4294967296:=by
  by_cases h:q<4294967296
  ·exact h
  ·have:=Int.mul_le_mul_of_nonneg_right (show 4294967296≤q by omega) (show 0≤Y1 by omega)
   omega
 have:=Ym hq0 (show q≤4294967295 by omega) h0.1 (show Y0≤4294967295 by omega)
 exact Acu h1 h0.1 hq (by omega)
end
theorem Aso{hi lo y p U L q1 q0:Int}(hy:0<y)(hp:0<p)(hT:(hi*18446744073709551616+lo)*p=U*18446744073709551616+L)
  (hq1:q1=(U*4294967296+L/4294967296)/(y*p)) (hq0:q0=((U*4294967296+L/4294967296-q1*(y*p))*4294967296+L%4294967296)/(y*p)):
  (hi*18446744073709551616+lo)/y=q1*4294967296+q0∧
  (hi*18446744073709551616+lo)%y=(((U*4294967296+L/4294967296-q1*(y*p))*4294967296+L%4294967296)-q0*(y*p))/p:=by
 have hyp:0<y*p:=Int.mul_pos hy hp
 generalize hr1:U*4294967296+L/4294967296-q1*(y*p)=r1 at*
 have a0:=Int.emod_nonneg (r1*4294967296+L%4294967296) (b:=y*p) (by omega)
 have a1:=Int.emod_lt_of_pos (r1*4294967296+L%4294967296) hyp
 have a2:=Int.mul_ediv_add_emod (r1*4294967296+L%4294967296) (y*p)
 rw[←hq0] at a2
 generalize hr0:(r1*4294967296+L%4294967296)%(y*p)=r0 at*
 generalize hT':hi*18446744073709551616+lo=T at*
 have e1:T*p=(q1*4294967296+q0)*(y*p)+r0:=by
  rw[hT,Int.add_mul]
  have:q1*4294967296*(y*p)=4294967296*(q1*(y*p)):=by rw[Int.mul_comm q1,Int.mul_assoc]
  rw[this]
  have:(y*p)*q0=q0*(y*p):=Int.mul_comm _ _
  omega
 have e2:r0=p*(T-(q1*4294967296+q0)*y):=by
  rw[Int.mul_sub,Int.mul_comm p T]
  have:p*((q1*4294967296+q0)*y)=(q1*4294967296+q0)*(y*p):=by rw[Int.mul_comm p,Int.mul_assoc]
  omega
 have e3:r1*4294967296+L%4294967296-q0*(y*p)=r0:=by
  have:(y*p)*q0=q0*(y*p):=Int.mul_comm _ _
  omega
 rw[e3]
 generalize hX:T-(q1*4294967296+q0)*y=X at*
 have x0:0≤X:=by
  by_cases h:0≤X
  ·exact h
  ·have:=Int.mul_neg_of_pos_of_neg hp (show X<0 by omega);omega
 have x1:X<y:=by
  by_cases h:X<y
  ·exact h
  ·have:=Int.mul_le_mul_of_nonneg_left (show y≤X by omega) (Int.le_of_lt hp)
   rw[Int.mul_comm p y] at this;omega
 have e4:r0/p=X:=by rw[e2];exact Int.mul_ediv_cancel_left _ (by omega)
 rw[e4]
 have:=(Int.ediv_emod_unique hy (a:=T) (q:=q1*4294967296+q0) (r:=X)).2 ⟨by rw[Int.mul_comm y];omega,x0,x1⟩
 exact this
theorem Abi{n:Nat}(h:n≠0)(hn:n<2^64):1≤Lu n∧Lu n≤64∧2^(Lu n-1)≤n∧n<2^(Lu n):=by
 have h1:=(Nat.log2_eq_iff h (k:=Nat.log2 n)).1 rfl
 have h2:=mW hn
 have e:Lu n=Nat.log2 n+1:=by unfold Lu;rw[if_neg h]
 rw[e] at h2⊢
 exact⟨by omega,by omega,by simpa using h1.1,h1.2⟩
structure DvI(U l Y1 Y0 q r:Int):Prop where
 q0:0≤q
 r0:0≤r
 r1:r<4294967296
 eq:q*Y1+r=U
 le:(U*4294967296+l)/(Y1*4294967296+Y0)≤q
section
variable {U l Y1 Y0 q r:Int}
theorem Acn(h1:2147483648≤Y1)(h1':Y1<4294967296)(h0:0≤Y0∧Y0<4294967296)(hU:0≤U)(hl:0≤l∧l<4294967296):DvI U l Y1 Y0 (U/Y1) (U-U/Y1*Y1):=by
 have e:=Int.mul_ediv_add_emod U Y1
 have e1:=Int.emod_nonneg U (b:=Y1) (by omega)
 have e2:=Int.emod_lt_of_pos U (b:=Y1) (by omega)
 rw[Int.mul_comm] at e
 refine⟨Int.ediv_nonneg hU (by omega),by omega,by omega,by omega,?_⟩
 refine Int.le_ediv_of_mul_le (by omega) ?_
 have q0:0≤(U*4294967296+l)/(Y1*4294967296+Y0):=Int.ediv_nonneg (by omega) (by omega)
 have hm:=Int.ediv_mul_le (U*4294967296+l) (b:=Y1*4294967296+Y0) (by omega)
 generalize (U*4294967296+l)/(Y1*4294967296+Y0)=Q at*
 rw[Int.mul_add,←Int.mul_assoc] at hm
 have:=Int.mul_nonneg q0 h0.1
 omega
theorem Af1(h1:2147483648≤Y1)(h1':Y1<4294967296)(h0:0≤Y0∧Y0<4294967296)(hU:0≤U)(huy:U<Y1*4294967296+Y0)(hl:0≤l∧l<4294967296)(i:DvI U l Y1 Y0 q r):
  (q≥4294967296∨wrap .u64 (q*Y0)>wrap .u64 (wrap .u64 (4294967296*r)+l)→
   wrap .u64 (q-1)=q-1∧wrap .u64 (r+Y1)=r+Y1∧(r+Y1≥4294967296→q-1=(U*4294967296+l)/(Y1*4294967296+Y0))∧(¬r+Y1≥4294967296→DvI U l Y1 Y0 (q-1) (r+Y1))∧(q-1).toNat<q.toNat)∧
  (¬q≥4294967296→ ¬wrap .u64 (q*Y0)>wrap .u64 (wrap .u64 (4294967296*r)+l)→q=(U*4294967296+l)/(Y1*4294967296+Y0)):=by
 obtain⟨hq0,hr0,hr1,hq,hQ⟩:=i
 have hq33:q<8589934592:=by
  by_cases h:q<8589934592
  ·exact h
  ·have:=Int.mul_le_mul (show 8589934592≤q by omega) h1 (by omega) (by omega)
   omega
 have hd:=Ajk h1 h0.1 hU huy hl
 have w1:wrap .u64 (wrap .u64 (4294967296*r)+l)=4294967296*r+l:=by simp only[wu64];omega
 have w2: ¬q≥4294967296→wrap .u64 (q*Y0)=q*Y0:=λh=>by
  have:=Ym hq0 (show q≤4294967295 by omega) h0.1 (show Y0≤4294967295 by omega)
  exact I9 (by unfold Tn;omega)
 rw[w1]
 refine⟨λh=>?_,λh g=>?_⟩
 ·have hle:(U*4294967296+l)/(Y1*4294967296+Y0)≤q-1:=by
   by_cases hb:q≥4294967296
   ·omega
   ·rw[w2 hb] at h
    exact Ar0 (l:=l) h1 h0.1 hq (by omega)
  have hq1:(q-1)*Y1+(r+Y1)=U:=by rw[Int.sub_mul];omega
  refine⟨by rw[wu64];omega,by rw[wu64];omega,λhr=>?_,λhr=>⟨by omega,by omega,by omega,hq1,hle⟩,by omega⟩
  have:=Ajl h1 h0 hl.1 (show 0≤q-1 by omega) hq1 huy hr
  omega
 ·rw[w2 h] at g
  have:=Acu (l:=l) h1 h0.1 hq (by omega)
  omega
end
theorem Adp{k:IntKind}{x:Int}(n:Nat)(hn:n≤k.bits):Ib k x (n:Int)=k.wrap (x*(2^n:Nat)):=by
 unfold Ib
 rw[Int.toNat_natCast,Nat.min_eq_left hn]
 have:(2:Int)^n=((2^n:Nat):Int):=by norm_cast
 rw[this]
theorem Uj.cl{hi lo y:Int}(hhi:Tn hi)(hlo:Tn lo)(hy:Tn y)(hlt:hi<y){w:World}{k:TR [(false,[.i .u64]),(false,[.i .u64])]→WP}
  (h: ∀w',Ah w w'→k (((hi*18446744073709551616+lo)/y,()),((hi*18446744073709551616+lo)%y,()),()) w'):
  Ad prog F.Uj [.int .u64 hi,.int .u64 lo,.int .u64 y] w true [(false,[.i .u64]),(false,[.i .u64])] k:=by
 refine Uj.ok ?_
 have hy0:0<y:=by unfold Tn at*;omega
 have c1:(y==0)=false:=by simp;omega
 have c2:decide (y≤hi)=false:=by simp;omega
 rw[c1,c2,gZ,gZ,O9]
 split
 ·rename_i h1
  have h1:hi=0:=by simpa using h1
  subst h1
  rw[Aq,Gm (by omega),Gm (by omega)]
  have:=h w.drew (Ah.drew w)
  rw[Int.zero_mul,Int.zero_add] at this
  have hlo0:0≤lo:=hlo.1
  rw[Int.tdiv_eq_ediv_of_nonneg hlo0,Int.tmod_eq_emod_of_nonneg hlo0]
  have e:wrap .u64 (lo/y)=lo/y:=by
   refine I9 ⟨Int.ediv_nonneg hlo0 (by omega),?_⟩
   have:=Int.ediv_le_self (a:=lo) y hlo0
   have:=hlo.2;omega
  rw[e];exact this
 rename_i h1
 have hhi0:hi≠0:=by simpa using h1
 refine bits_LeadingZeros64.cl hy ?_
 obtain⟨n,rfl⟩:=Int.eq_ofNat_of_zero_le (Int.le_of_lt hy0)
 rw[Int.toNat_natCast]
 have hn0:n≠0:=by omega
 have hn64:n<2^64:=by rw[p64];have:=hy.2;omega
 obtain⟨b1,b2,b3,b4⟩:=Abi hn0 hn64
 generalize hb:Lu n=b at*
 obtain⟨s,hs⟩: ∃s:Nat,s=64-b:=⟨_,rfl⟩
 have hs64:s≤63:=by omega
 have eS:wrap .u64 (64-(b:Int))=(s:Int):=by rw[I9 (by unfold Tn;omega)];omega
 simp only[eS]
 have eS2:wrap .u64 (64-(s:Int))=((64-s:Nat):Int):=by rw[I9 (by unfold Tn;omega)];omega
 simp only[eS2]
 have hbits:IntKind.u64.bits=64:=rfl
 have hp:0<2^s:=Nat.two_pow_pos s
 have pb:2^b*2^s=18446744073709551616:=by rw[←Nat.pow_add,show b+s=64 by omega,p64]
 have pb1:2^(b-1)*2^s=9223372036854775808:=by rw[←Nat.pow_add,show b-1+s=63 by omega]
 have hY1:9223372036854775808≤n*2^s:=by rw[←pb1];exact Nat.mul_le_mul_right _ b3
 have hY2:n*2^s<18446744073709551616:=by rw[←pb];exact Nat.mul_lt_mul_of_pos_right b4 hp
 have eY:Ib .u64 (n:Int) (s:Int)=(n:Int)*((2^s:Nat):Int):=by
  rw[Adp s (by rw[hbits];omega)]
  refine I9 ?_
  unfold Tn
  rw[←Int.natCast_mul];omega
 have hhin:hi<n:=hlt
 obtain⟨m,rfl⟩:=Int.eq_ofNat_of_zero_le hhi.1
 obtain⟨l,rfl⟩:=Int.eq_ofNat_of_zero_le hlo.1
 have hl64:l<18446744073709551616:=by have:=hlo.2;omega
 have hmn:m<n:=by omega
 have hmp:m*2^s+2^s≤n*2^s:=by rw[←Nat.succ_mul];exact Nat.mul_le_mul_right _ hmn
 have e64:2^(64-s)*2^s=18446744073709551616:=by rw[←Nat.pow_add,show 64-s+s=64 by omega,p64]
 have hld:l/2^(64-s)<2^s:=by
  rw[Nat.div_lt_iff_lt_mul (Nat.two_pow_pos _),Nat.mul_comm,e64];exact hl64
 have hldm:l*2^s/18446744073709551616=l/2^(64-s):=by
  rw[←e64];exact Nat.mul_div_mul_right _ _ hp
 have eHi:Ib .u64 (m:Int) (s:Int)=((m*2^s:Nat):Int):=by
  rw[Adp s (by rw[hbits];omega),←Int.natCast_mul]
  exact I9 (by unfold Tn;omega)
 have eLo:I7 .u64 (l:Int) ((64-s:Nat):Int)=((l/2^(64-s):Nat):Int):=by
  rw[dH (64-s) (by rw[hbits];omega),Int.natCast_ediv]
 have eU:Ez .or .u64 (Ib .u64 (m:Int) (s:Int)) (I7 .u64 (l:Int) ((64-s:Nat):Int))=((m*2^s+l/2^(64-s):Nat):Int):=by
  rw[eHi,eLo,Akt s (by unfold Tn;omega) (by omega) (by rw[←Int.natCast_emod];simp) (by exact_mod_cast hld) (by unfold Tn;omega)]
  exact(Int.natCast_add _ _).symm
 have eL:Ib .u64 (l:Int) (s:Int)=((l*2^s%18446744073709551616:Nat):Int):=by
  rw[Adp s (by rw[hbits];omega),wu64,←Int.natCast_mul,Int.natCast_emod];rfl
 rw[eY,eU,eL]
 have hT:((m:Int)*18446744073709551616+l)*((2^s:Nat):Int)=((m*2^s+l/2^(64-s):Nat):Int)*18446744073709551616+((l*2^s%18446744073709551616:Nat):Int):=by
  rw[←hldm]
  have:=Nat.div_add_mod (l*2^s) 18446744073709551616
  have e1:((m:Int)*18446744073709551616+l)*((2^s:Nat):Int)=((m*2^s:Nat):Int)*18446744073709551616+((l*2^s:Nat):Int):=by
   rw[Int.add_mul,Int.natCast_mul,Int.natCast_mul,Int.mul_right_comm]
  rw[e1];omega
 have hUlt:m*2^s+l/2^(64-s)<n*2^s:=by omega
 have eY2:(n:Int)*((2^s:Nat):Int)=((n*2^s:Nat):Int):=(Int.natCast_mul _ _).symm
 have hE:=λq1 q0 h1 h2=>Aso (hi:=(m:Int)) (lo:=(l:Int)) (y:=(n:Int)) (p:=((2^s:Nat):Int)) (q1:=q1) (q0:=q0) (by omega) (by exact_mod_cast hp) hT h1 h2
 rw[eY2] at hE⊢
 generalize hUn:m*2^s+l/2^(64-s)=Un at*
 generalize hLn:l*2^s%18446744073709551616=Ln at*
 have hLn64:Ln<18446744073709551616:=by rw[←hLn];exact Nat.mod_lt _ (by decide)
 generalize hYn:n*2^s=Yn at*
 clear hT eU eL eHi eLo eY hUn hLn hYn
 generalize hU:(Un:Int)=U at*
 generalize hL:(Ln:Int)=L at*
 generalize hY:(Yn:Int)=Y at*
 have a0:0≤U∧U<Y∧9223372036854775808≤Y∧Y<18446744073709551616∧0≤L∧L<18446744073709551616:=by omega
 obtain⟨a1,a2,a3,a4,a5,a6⟩:=a0
 rw[tC (show Tn Y by unfold Tn;omega),tC (show Tn L by unfold Tn;omega)]
 simp only[Adn]
 have y1:2147483648≤Y/4294967296:=by omega
 have y2:Y/4294967296<4294967296:=by omega
 have y3:0≤Y%4294967296∧Y%4294967296<4294967296:=by omega
 have y4:Y/4294967296*4294967296+Y%4294967296=Y:=by omega
 have l1:0≤L/4294967296∧L/4294967296<4294967296:=by omega
 have l2:0≤L%4294967296∧L%4294967296<4294967296:=by omega
 generalize Y/4294967296=Y1 at*
 generalize Y%4294967296=Y0 at*
 generalize L/4294967296=L1 at*
 generalize L%4294967296=L0 at*
 subst y4
 rw[Nj (by omega),Nj (by decide),Nj (by omega),Nj (by omega),Nj (by omega),Nj (by decide),Gm (by omega)]
 have st: ∀{V:Int},0≤V→V<Y1*4294967296+Y0→wrap .u64 (Int.tdiv V Y1)=V/Y1∧wrap .u64 (V-wrap .u64 (V/Y1*Y1))=V-V/Y1*Y1:=λ{V} hV hVY=>by
  have e:=Int.mul_ediv_add_emod V Y1
  have e1:=Int.emod_nonneg V (b:=Y1) (by omega)
  have e2:=Int.emod_lt_of_pos V (b:=Y1) (by omega)
  rw[Int.mul_comm] at e
  have e3:=Int.ediv_nonneg hV (show 0≤Y1 by omega)
  have e4:=Int.ediv_le_self Y1 hV
  rw[Int.tdiv_eq_ediv_of_nonneg hV]
  exact⟨I9 (by unfold Tn;omega),by simp only[wu64];omega⟩
 refine Bh.by (λz w'=>w=w'∧z=((U*4294967296+L1)/(Y1*4294967296+Y0),())) ?_ ?_
 ·obtain⟨s1,s2⟩:=st a1 a2
  rw[s1,s2]
  refine Aw.by (λz w'=>w=w'∧DvI U L1 Y1 Y0 z.1 z.2.1) (λz=>z.1.toNat) ⟨rfl,Acn y1 y2 y3 a1 l1⟩ ?_
  rintro⟨q,r,u⟩ w' ⟨rfl,i⟩ _
  obtain⟨t1,t2⟩:=Af1 y1 y2 y3 a1 a2 l1 i
  refine Bh.by (λ_ w''=>w=w''∧(q≥4294967296∨wrap .u64 (q*Y0)>wrap .u64 (wrap .u64 (4294967296*r)+L1))) ?_ ?_
  ·rw[O9];split
   ·rename_i h;exact⟨rfl,.inl (by simpa using h)⟩
   ·rename_i h;rw[O9];split
    ·rename_i h;exact⟨rfl,.inr (by simpa using h)⟩
    ·rename_i g;exact⟨rfl,by rw[t2 (by simpa using h) (by simpa using g)]⟩
  ·rintro _ w'' ⟨rfl,hc⟩ _
   obtain⟨v1,v2,v3,v4,v5⟩:=t1 hc
   rw[v1,v2,O9];split
   ·rename_i g;exact⟨rfl,by rw[v3 (by simpa using g)]⟩
   ·rename_i g;exact⟨⟨rfl,v4 (by simpa using g)⟩,v5⟩
 rintro z w1 ⟨rfl,rfl⟩ _
 have hQ1:=Ajk y1 y3.1 a1 a2 l1
 have hR1:=Int.emod_nonneg (U*4294967296+L1) (b:=Y1*4294967296+Y0) (by omega)
 have hR2:=Int.emod_lt_of_pos (U*4294967296+L1) (b:=Y1*4294967296+Y0) (by omega)
 have hR3:=Int.mul_ediv_add_emod (U*4294967296+L1) (Y1*4294967296+Y0)
 rw[Int.mul_comm] at hR3
 have hE:=λq0=>hE _ q0 rfl
 simp only
 generalize hQ:(U*4294967296+L1)/(Y1*4294967296+Y0)=Q1 at*
 have eV:wrap .u64 (wrap .u64 (wrap .u64 (U*4294967296)+L1)-wrap .u64 (Q1*(Y1*4294967296+Y0)))=U*4294967296+L1-Q1*(Y1*4294967296+Y0):=by
  simp only[wu64];omega
 rw[eV]
 generalize hV:U*4294967296+L1-Q1*(Y1*4294967296+Y0)=V at*
 have v1:0≤V:=by omega
 have v2:V<Y1*4294967296+Y0:=by omega
 rw[Gm (by omega)]
 refine Bh.by (λz w'=>w=w'∧z=((V*4294967296+L0)/(Y1*4294967296+Y0),())) ?_ ?_
 ·obtain⟨s1,s2⟩:=st v1 v2
  rw[s1,s2]
  refine Aw.by (λz w'=>w=w'∧DvI V L0 Y1 Y0 z.2.1 z.1) (λz=>z.2.1.toNat) ⟨rfl,Acn y1 y2 y3 v1 l2⟩ ?_
  rintro⟨r,q,u⟩ w' ⟨rfl,i⟩ _
  obtain⟨t1,t2⟩:=Af1 y1 y2 y3 v1 v2 l2 i
  refine Bh.by (λ_ w''=>w=w''∧(q≥4294967296∨wrap .u64 (q*Y0)>wrap .u64 (wrap .u64 (4294967296*r)+L0))) ?_ ?_
  ·rw[O9];split
   ·rename_i h;exact⟨rfl,.inl (by simpa using h)⟩
   ·rename_i h;rw[O9];split
    ·rename_i h;exact⟨rfl,.inr (by simpa using h)⟩
    ·rename_i g;exact⟨rfl,by rw[t2 (by simpa using h) (by simpa using g)]⟩
  ·rintro _ w'' ⟨rfl,hc⟩ _
   obtain⟨v1,v2,v3,v4,v5⟩:=t1 hc
   rw[v1,v2,O9];split
   ·rename_i g;exact⟨rfl,by rw[v3 (by simpa using g)]⟩
   ·rename_i g;exact⟨⟨rfl,v4 (by simpa using g)⟩,v5⟩
 rintro z w2 ⟨rfl,rfl⟩ _
 have hQ2:=Ajk y1 y3.1 v1 v2 l2
 have hS1:=Int.emod_nonneg (V*4294967296+L0) (b:=Y1*4294967296+Y0) (by omega)
 have hS2:=Int.emod_lt_of_pos (V*4294967296+L0) (b:=Y1*4294967296+Y0) (by omega)
 have hS3:=Int.mul_ediv_add_emod (V*4294967296+L0) (Y1*4294967296+Y0)
 rw[Int.mul_comm] at hS3
 obtain⟨k1,k2⟩:=hE _ rfl
 simp only
 generalize hQ':(V*4294967296+L0)/(Y1*4294967296+Y0)=Q0 at*
 have eW:wrap .u64 (wrap .u64 (wrap .u64 (V*4294967296)+L0)-wrap .u64 (Q0*(Y1*4294967296+Y0)))=V*4294967296+L0-Q0*(Y1*4294967296+Y0):=by
  simp only[wu64];omega
 have eX:wrap .u64 (wrap .u64 (Q1*4294967296)+Q0)=Q1*4294967296+Q0:=by
  simp only[wu64];omega
 rw[Nj (by omega),eW,eX,dH s (by rw[hbits];omega),←k1,←k2]
 exact h _ (Ah.refl _)
def mdB(a b c:Int):Bool:=!decide (c<1)&&decide (I64 (a*b/c))
def mdV(a b c:Int):Int:=if mdB a b c=true then a*b/c else 0
theorem Au9{a b c:Int}(h:c<1):mdV a b c=0∧mdB a b c=false:=by
 have:mdB a b c=false:=by simp[mdB,h]
 exact⟨by simp[mdV,this],this⟩
theorem Af0{a b c:Int}(h: ¬I64 (a*b/c)):mdV a b c=0∧mdB a b c=false:=by
 have:mdB a b c=false:=by simp[mdB,h]
 exact⟨by simp[mdV,this],this⟩
theorem Alr{a b c v:Int}(hc: ¬c<1)(e:a*b/c=v)(h:I64 v):mdV a b c=v∧mdB a b c=true:=by
 subst e
 have:mdB a b c=true:=by simp[mdB,h];omega
 exact⟨by simp[mdV,this],this⟩
theorem Apl{a b:Int}(h:(decide (a<0)==decide (b<0))=true):a*b=(a.natAbs:Int)*(b.natAbs:Int):=by
 simp only[beq_iff_eq,decide_eq_decide] at h
 by_cases h1:a<0
 ·have h2:=h.1 h1
  have e1:(a.natAbs:Int)= -a:=by omega
  have e2:(b.natAbs:Int)= -b:=by omega
  rw[e1,e2,Int.neg_mul_neg]
 ·have h2: ¬b<0:=λx=>h1 (h.2 x)
  have e1:(a.natAbs:Int)=a:=by omega
  have e2:(b.natAbs:Int)=b:=by omega
  rw[e1,e2]
theorem Apt{a b:Int}(h: ¬(decide (a<0)==decide (b<0))=true):a*b= -((a.natAbs:Int)*(b.natAbs:Int)):=by
 simp only[beq_iff_eq,decide_eq_decide] at h
 by_cases h1:a<0
 ·have h2: ¬b<0:=λx=>h ⟨λ_=>x,λ_=>h1⟩
  have e1:(a.natAbs:Int)= -a:=by omega
  have e2:(b.natAbs:Int)=b:=by omega
  rw[e1,e2,Int.neg_mul,Int.neg_neg]
 ·have h2:b<0:=by
   by_cases x:b<0
   ·exact x
   ·exact absurd ⟨λy=>absurd y h1,λy=>absurd y x⟩ h
  have e1:(a.natAbs:Int)=a:=by omega
  have e2:(b.natAbs:Int)= -b:=by omega
  rw[e1,e2,Int.mul_neg,Int.neg_neg]
theorem Ap1{P c:Int}(hc:0<c): -P/c=if P%c>0 then-(P/c)-1 else-(P/c):=by
 have e:=Int.mul_ediv_add_emod P c
 have e1:=Int.emod_nonneg P (b:=c) (by omega)
 have e2:=Int.emod_lt_of_pos P hc
 split
 ·refine((Int.ediv_emod_unique hc (r:=c-P%c)).2 ⟨?_,by omega,by omega⟩).1
  rw[Int.mul_sub,Int.mul_neg];omega
 ·refine((Int.ediv_emod_unique hc (r:=0)).2 ⟨?_,by omega,by omega⟩).1
  rw[Int.mul_neg];omega
theorem Al8{a:Int}(h:I64 a):0≤(a.natAbs:Int)∧(a.natAbs:Int)≤9223372036854775808:=by unfold I64 at h;omega
theorem Aqb{a:Int}(h:I64 a):Tn (a.natAbs:Int):=by unfold I64 at h;unfold Tn;omega
theorem Uw.cl{a b c:Int}(ha:I64 a)(hb:I64 b)(hc:I64 c){w:World}{k:TR [(false,[KI]),(false,[.b])]→WP}
  (h: ∀w',Ah w w'→k ((mdV a b c,()),(mdB a b c,()),()) w'):
  Ad prog F.Uw [iV a,iV b,iV c] w true [(false,[KI]),(false,[.b])] k:=by
 refine Uw.ok ?_
 rw[O9];split
 ·rename_i h1
  have h1:c<1:=by simpa using h1
  have:=h w (Ah.refl w);rw[(Au9 h1).1,(Au9 h1).2] at this;exact this
 rename_i h1
 have h1: ¬c<1:=by simpa using h1
 have wc:wrap .u64 c=c:=I9 (by unfold Tn;unfold I64 at hc;omega)
 refine U9.cl ha (U9.cl hb ?_)
 have A:=Al8 ha
 have B:=Al8 hb
 refine bits_Mul64.cl (Aqb ha) (Aqb hb) ?_
 have PB:=Ym A.1 A.2 B.1 B.2
 have hs:=@Apl a b
 have hd:=@Apt a b
 simp only[wc]
 generalize hP:(a.natAbs:Int)*(b.natAbs:Int)=P at*
 have e:=Int.mul_ediv_add_emod P c
 have e1:=Int.emod_nonneg P (b:=c) (by omega)
 have e2:=Int.emod_lt_of_pos P (b:=c) (by omega)
 have e3:=Int.ediv_nonneg PB.1 (show 0≤c by omega)
 have nd:=Ap1 (P:=P) (c:=c) (by omega)
 have lose: ¬I64 (a*b/c)→ ∀w',Ah w w'→k ((0,()),(false,()),()) w':=λx w' g=>by
  have:=h w' g;rw[(Af0 x).1,(Af0 x).2] at this;exact this
 have win: ∀v,a*b/c=v→I64 v→ ∀w',Ah w w'→k ((v,()),(true,()),()) w':=λv x y w' g=>by
  have:=h w' g;rw[(Alr h1 x y).1,(Alr h1 x y).2] at this;exact this
 rw[O9];split
 ·rename_i g
  have g:c≤P/18446744073709551616:=by simpa using g
  refine lose ?_ w (Ah.refl w)
  have:18446744073709551616≤P/c:=Int.le_ediv_of_mul_le (by omega) (by omega)
  unfold I64
  by_cases x:(decide (a<0)==decide (b<0))=true
  ·rw[hs x];omega
  ·rw[hd x,nd];split<;>omega
 rename_i g
 have g:P/18446744073709551616<c:=by simpa using g
 refine Uj.cl (by unfold Tn;omega) (by unfold Tn;omega) (by unfold Tn;unfold I64 at hc;omega) g λw1 g1=>?_
 have eP:P/18446744073709551616*18446744073709551616+P%18446744073709551616=P:=by omega
 simp only[eP]
 have e4:P/c<18446744073709551616:=Int.ediv_lt_of_lt_mul (by omega) (by omega)
 generalize hq:P/c=q at*
 generalize P%c=r at*
 rw[O9];split
 ·rename_i x
  have hs:=hs x
  rw[hs,hq] at win lose
  rw[O9];split
  ·rename_i y;have y:9223372036854775807<q:=by simpa using y
   exact lose (by unfold I64;omega) w1 g1
  ·rename_i y;have y: ¬9223372036854775807<q:=by simpa using y
   rw[Af (by unfold I64;omega)]
   exact win q (by omega) (by unfold I64;omega) w1 g1
 rename_i x
 have hd:=hd x
 rw[hd,nd] at win lose
 refine Bh.by (λz w'=>w1=w'∧z=(if r>0 then q+1 else q,())∧z.1<18446744073709551616) ?_ ?_
 ·rw[O9];split
  ·rename_i y;have y:0<r:=by simpa using y
   rw[if_pos y] at lose
   rw[O9];split
   ·rename_i z;have z:wrap .u64 (q+1)=0:=by simpa using z
    rw[wu64] at z
    exact lose (by unfold I64;omega) w1 g1
   ·rename_i z;have z: ¬wrap .u64 (q+1)=0:=by simpa using z
    rw[wu64] at z
    have e:wrap .u64 (q+1)=q+1:=by rw[wu64];omega
    rw[e]
    exact⟨rfl,by first|rfl|rw[if_pos y],by show q+1<_;omega⟩
  ·rename_i y;have y: ¬0<r:=by simpa using y
   exact⟨rfl,by rw[if_neg y],e4⟩
 rintro z w' ⟨rfl,rfl,hz⟩ _
 have e5:(if r>0 then-q-1 else-q)= -(if r>0 then q+1 else q):=by split<;>omega
 rw[e5] at win lose
 have e6:0≤(if r>0 then q+1 else q):=by split<;>omega
 simp only at hz⊢
 generalize (if r>0 then q+1 else q)=v at*
 rw[O9];split
 ·rename_i y;have y:9223372036854775808<v:=by simpa using y
  exact lose (by unfold I64;omega) w1 g1
 ·rename_i y;have y: ¬9223372036854775808<v:=by simpa using y
  have e7:wrap .i64 (wrap .u64 (0-v))= -v:=by rw[wu64,wR];omega
  rw[e7]
  exact win (-v) rfl (by unfold I64;omega) w1 g1
end Go.Proofs.YtppeepkmnijdpaaGreatDoor
namespace Go.Proofs.YtppeepkmnijdpaaGreatDoor
open Go.Eng
set_option linter.unusedSimpArgs false
set_option linter.unusedVariables false
set_option maxRecDepth 100000
set_option maxHeartbeats 8000000
def L4(d:Nat→Int):List Value:=[.int .u64 (d 0),.int .u64 (d 1),.int .u64 (d 2),.int .u64 (d 3)]
def up(d:Nat→Int)(k:Nat)(v:Int):Nat→Int:=λn=>if n=k then v else d n
def pr(a b:Int)(i:Nat):Int:=if i=0 then a else b
end Go.Proofs.YtppeepkmnijdpaaGreatDoor
namespace Go.Proofs.YtppeepkmnijdpaaGreatDoor
open Go.Eng Tryz
open Go.IntKind (wrap)
set_option linter.unusedSimpArgs false
set_option linter.unusedVariables false
set_option maxRecDepth 100000
set_option maxHeartbeats 8000000
def J8(e:E3):Bool:=decide (0≤e.1)&&decide (e.1≤1125899906842624)&&decide (-1125899906842624≤e.2.1)&&decide (e.2.1≤1125899906842624)&&decide (1≤e.2.2)&&decide (e.2.2≤63)
theorem nS{e:E3}:J8 e=true↔0≤e.1∧e.1≤1125899906842624∧ -1125899906842624≤e.2.1∧e.2.1≤1125899906842624∧1≤e.2.2∧e.2.2≤63:=by
 simp[J8,and_assoc]
theorem Apg{x y z:Int}{w2:World}{k:TR [(false,[.b])]→WP}(h:k ((J8 (x,y,z),()),()) w2):
  Aj (decide (x≥0)) (Aj (decide (x≤1125899906842624)) (Aj (decide (y≥Int.negSucc 1125899906842623)) (Aj (decide (y≤1125899906842624)) (Aj (decide (z≥1))
   (k ((decide (z≤63),()),()) w2) (k ((false,()),()) w2)) (k ((false,()),()) w2)) (k ((false,()),()) w2)) (k ((false,()),()) w2)) (k ((false,()),()) w2):=by
 have e:J8 (x,y,z)=(decide (x≥0)&&decide (x≤1125899906842624)&&decide (y≥Int.negSucc 1125899906842623)&&decide (y≤1125899906842624)&&decide (z≥1)&&decide (z≤63)):=rfl
 rw[e] at h
 revert h
 cases decide (x≥0)<;>cases decide (x≤1125899906842624)<;>cases decide (y≥Int.negSucc 1125899906842623)<;>cases decide (y≤1125899906842624)<;>cases decide (z≥1)<;>exact λh=>h
theorem Cj.cl{x y z:Int}{w:World}{k:TR [(false,[.b])]→WP}(h: ∀w',Ah w w'→k ((J8 (x,y,z),()),()) w'):
  Ad prog F.Cj [.agg #[iV x,iV y,iV z]] w false [(false,[.b])] k:=by
 refine Cj.ok ?_
 refine Ae λb w1 e k1 u1=>?_
 simp only[Lr,Nat.zero_add,k1.ld (c:=KI) (i:=0) (v:=iV x) (x:=x) rfl (Ko _ _),k1.ld (c:=KI) (i:=1) (v:=iV y) (x:=y) rfl (Ko _ _),k1.ld (c:=KI) (i:=2) (v:=iV z) (x:=z) rfl (Ko _ _)]
 exact Apg (h w1 u1)
def dr(drift:Int):Int:=min (max drift 0) 10
theorem Ab5(drift:Int):0≤dr drift∧dr drift≤10:=by unfold dr;omega
theorem Ut.cl{drift:Int}{w:World}{k:TR [(true,[KI,KI])]→WP}(h: ∀w',Ah w w'→k ((2*dr drift,1000-dr drift,()),()) w'):
  Ad prog F.Ut [iV drift] w false [(true,[KI,KI])] k:=by
 refine Ut.ok ?_
 refine Ae λb w1 e k1 u1=>Nw.cl ?_
 have ec:clamp drift 0 10=dr drift:=by unfold clamp dr;omega
 have hd:=Ab5 drift
 simp only[ec]
 rw[Af (n:=2*dr drift) (by unfold I64;omega),Af (n:=1000-dr drift) (by unfold I64;omega)]
 refine k1.st _ (by simp) rfl λw2 k2 u2=>?_
 simp only[k2.ldc (c:=KI) (o:=0) (i:=0) (v:=iV (2*dr drift)) (x:=2*dr drift) rfl (Ko _ _),k2.ldc (c:=KI) (o:=0) (i:=1) (v:=iV (1000-dr drift)) (x:=1000-dr drift) rfl (Ko _ _),lM]
 exact h w2 (u1.new u2 (by omega))
theorem Jq.cl{a b t:Int}(ha:I64 a)(hb:I64 b)(ht:I64 t){w:World}{k:TR [(false,[KI])]→WP}(h: ∀w',Ah w w'→k ((mdV a t b,()),()) w'):
  Ad prog F.Jq [.agg #[iV a,iV b],iV t] w false [(false,[KI])] k:=by
 refine Jq.ok ?_
 refine Ae λp w1 e k1 u1=>?_
 simp only[Lr,Nat.zero_add,k1.ld (c:=KI) (i:=0) (v:=iV a) (x:=a) rfl (Ko _ _),k1.ld (c:=KI) (i:=1) (v:=iV b) (x:=b) rfl (Ko _ _)]
 exact Uw.cl ha ht hb λw2 g2=>h w2 (u1.trans g2)
theorem Qo.cl{a b c d:Int}(ha:0≤a∧I64 a)(hb:0≤b∧I64 b)(hc:0≤c∧I64 c)(hd:0≤d∧I64 d){w:World}{k:TR [(false,[.b])]→WP}(h: ∀w',Ah w w'→k ((decide (a*d>c*b),()),()) w'):
  Ad prog F.Qo [.agg #[iV a,iV b],.agg #[iV c,iV d]] w false [(false,[.b])] k:=by
 refine Qo.ok ?_
 refine Ae λp w1 e k1 u1=>Ae λq w2 e2 k2 u2=>?_
 have k1:=k1.Ai u2
 have W: ∀{x:Int},0≤x∧I64 x→wrap .u64 x=x∧Tn x:=λ{x} hx=>⟨I9 (by unfold I64 at hx;unfold Tn;omega),by unfold I64 at hx;unfold Tn;omega⟩
 simp only[Lr,Nat.zero_add,k1.ld (c:=KI) (i:=0) (v:=iV a) (x:=a) rfl (Ko _ _),k1.ld (c:=KI) (i:=1) (v:=iV b) (x:=b) rfl (Ko _ _),
  k2.ld (c:=KI) (i:=0) (v:=iV c) (x:=c) rfl (Ko _ _),k2.ld (c:=KI) (i:=1) (v:=iV d) (x:=d) rfl (Ko _ _)]
 rw[(W ha).1,(W hd).1]
 refine bits_Mul64.cl (W ha).2 (W hd).2 ?_
 simp only[Lr,Nat.zero_add,k1.ld (c:=KI) (i:=0) (v:=iV a) (x:=a) rfl (Ko _ _),k1.ld (c:=KI) (i:=1) (v:=iV b) (x:=b) rfl (Ko _ _),
  k2.ld (c:=KI) (i:=0) (v:=iV c) (x:=c) rfl (Ko _ _),k2.ld (c:=KI) (i:=1) (v:=iV d) (x:=d) rfl (Ko _ _)]
 rw[(W hb).1,(W hc).1]
 refine bits_Mul64.cl (W hc).2 (W hb).2 ?_
 have h:=h w2 (u1.trans u2)
 simp only
 generalize a*d=X at*
 generalize c*b=Y at*
 rw[O9];split
 ·rename_i x;have x:X/18446744073709551616>Y/18446744073709551616:=of_decide_eq_true x
  rw[decide_eq_true (by omega)] at h;exact h
 ·rename_i x;have x: ¬X/18446744073709551616>Y/18446744073709551616:=λy=>x (decide_eq_true y)
  rw[O9];split
  ·rename_i y;have y:X/18446744073709551616=Y/18446744073709551616:=beq_iff_eq.1 y
   have e:decide (X%18446744073709551616>Y%18446744073709551616)=decide (X>Y):=by rw[decide_eq_decide];omega
   rw[e];exact h
  ·rename_i y;have y: ¬X/18446744073709551616=Y/18446744073709551616:=λz=>y (beq_iff_eq.2 z)
   rw[decide_eq_false (by omega)] at h;exact h
theorem Nz.cl{b:Nat}{n sx sy sxy sxx x y:Int}{w:World}(hb:Ar w b [iV n,iV sx,iV sy,iV sxy,iV sxx])
  (h1:I64 (n+1)) (h2:I64 (sx+x)) (h3:I64 (sy+y)) (h4:I64 (x*y)) (h5:I64 (sxy+x*y)) (h6:I64 (x*x)) (h7:I64 (sxx+x*x)) {k:TR []→WP}
  (h: ∀w',Ar w' b [iV (n+1),iV (sx+x),iV (sy+y),iV (sxy+x*y),iV (sxx+x*x)]→Ap (λz=>z=b) w w'→k () w'):
  Ad prog F.Nz [.pointer (some ⟨b,0,none⟩),iV x,iV y] w true [] k:=by
 refine Nz.ok ?_
 simp only[Ac]
 refine hb.i0 rfl (hb.s0 (by simp) λw1 k1 u1=>?_)
 rw[Af h1] at k1
 refine k1.i1 1 rfl (k1.s1 1 (by simp) λw2 k2 u2=>?_)
 rw[Af h2] at k2
 refine k2.i1 2 rfl (k2.s1 2 (by simp) λw3 k3 u3=>?_)
 rw[Af h3] at k3
 refine k3.i1 3 rfl (k3.s1 3 (by simp) λw4 k4 u4=>?_)
 rw[Af h4,Af h5] at k4
 refine k4.i1 4 rfl (k4.s1 4 (by simp) λw5 k5 u5=>?_)
 rw[Af h6,Af h7] at k5
 exact h w5 k5 ((((u1.trans u2 λ_ _ x=>x).trans u3 λ_ _ x=>x).trans u4 λ_ _ x=>x).trans u5 λ_ _ x=>x)
abbrev S5:=Int×Int×Int×Int×Int
def st5(e0:E3)(s:S5)(e:E3):S5:=
 (s.1+1,s.2.1+(e.1-e0.1),s.2.2.1+(e.2.1-e0.2.1),s.2.2.2.1+(e.1-e0.1)*(e.2.1-e0.2.1),s.2.2.2.2+(e.1-e0.1)*(e.1-e0.1))
def sm(e0:E3)(es:List E3):S5:=es.foldl (st5 e0) (0,0,0,0,0)
theorem Afz(e0:E3)(es:List E3)(e:E3):sm e0 (es++[e])=st5 e0 (sm e0 es) e:=by simp[sm,List.foldl_append]
def InR(e0 e:E3):Prop:=0≤e.1-e0.1∧e.1-e0.1≤4194304∧ -4194304≤e.2.1-e0.2.1∧e.2.1-e0.2.1≤4194304
instance (e0 e:E3):Decidable (InR e0 e):=by unfold InR;exact inferInstance
structure SB(s:S5)(n:Nat):Prop where
 cnt:s.1=n
 x0:0≤s.2.1
 x1:s.2.1≤n*4194304
 y0: -(n*4194304)≤s.2.2.1
 y1:s.2.2.1≤n*4194304
 xy0: -(n*17592186044416)≤s.2.2.2.1
 xy1:s.2.2.2.1≤n*17592186044416
 xx0:0≤s.2.2.2.2
 xx1:s.2.2.2.2≤n*17592186044416
theorem pW{x y m n:Int}(hx0:0≤x)(hx:x≤m)(hy0: -n≤y)(hy:y≤n)(hn:0≤n): -(m*n)≤x*y∧x*y≤m*n:=by
 have h1:x*y≤x*n:=Int.mul_le_mul_of_nonneg_left hy hx0
 have h2:x*n≤m*n:=Int.mul_le_mul_of_nonneg_right hx hn
 have h3:x* -n≤x*y:=Int.mul_le_mul_of_nonneg_left hy0 hx0
 rw[Int.mul_neg] at h3
 exact⟨by omega,by omega⟩
theorem SB.step{e0 e:E3}{s:S5}{n:Nat}(h:SB s n)(r:InR e0 e):SB (st5 e0 s e) (n+1):=by
 obtain⟨r0,r1,r2,r3⟩:=r
 have p:=pW r0 r1 r2 r3 (by decide)
 have q:=Ym r0 r1 r0 r1
 obtain⟨h0,h1,h2,h3,h4,h5,h6,h7,h8⟩:=h
 constructor<;>simp only[st5]<;>omega
theorem Alz{e0:E3}: ∀(n:Nat) (es:List E3),es.length=n→(∀e∈es,InR e0 e)→SB (sm e0 es) n
 |0,es,hl,_=>by
  have:es=[]:=List.eq_nil_of_length_eq_zero hl
  subst this
  constructor<;>simp[sm]
 |n+1,es,hl,h=>by
  have hne:es≠[]:=by intro e;subst e;cases hl
  obtain⟨l,e,rfl⟩: ∃l e,es=l++[e]:=⟨es.dropLast,es.getLast hne,(List.dropLast_concat_getLast hne).symm⟩
  rw[Afz]
  exact(Alz n l (by simpa using hl) λx hx=>h x (by simp[hx])).step (h e (by simp))
theorem Avd{e0 e:E3}{A B:Prop}(hA: ¬InR e0 e→A)(hB:InR e0 e→B):
  Aj (decide (e.1-e0.1<0)) A (Aj (decide (e.1-e0.1>4194304)) A (Aj (decide (e.2.1-e0.2.1<Int.negSucc 4194303)) A (Aj (decide (e.2.1-e0.2.1>4194304)) A B))):=by
 refine Cf (λh=>hA λx=>?_) λh1=>Cf (λh=>hA λx=>?_) λh2=>Cf (λh=>hA λx=>?_) λh3=>Cf (λh=>hA λx=>?_) λh4=>hB ?_
 ·have:=x.1;omega
 ·have:=x.2.1;omega
 ·have:=x.2.2.1;omega
 ·have:=x.2.2.2;omega
 ·refine⟨by omega,by omega,by omega,by omega⟩
theorem take_snoc{α:Type}{es:List α}{i:Nat}{e:α}(h:es[i]? =some e):es.take (i+1)=es.take i++[e]:=by
 rw[List.take_add_one,h];rfl
theorem Qq.cl{s:Sl}{es:List E3}{e0:E3}{w:World}(hE:Nu w s es)(hg: ∀e∈es,J8 e=true)(hn:es.length≤8)(h0:es[0]? =some e0)
  {k:TR [(true,[KI,KI,KI,KI,KI]),(false,[.b])]→WP}
  (hk:(∀e∈es,InR e0 e)→ ∀w',Ah w w'→k (((sm e0 es).1,(sm e0 es).2.1,(sm e0 es).2.2.1,(sm e0 es).2.2.2.1,(sm e0 es).2.2.2.2,()),(true,()),()) w')
  (hf: ¬(∀e∈es,InR e0 e)→ ∀w',Ah w w'→k ((0,0,0,0,0,()),(false,()),()) w'):
  Ad prog F.Qq [.slice s.1 s.2.1 s.2.2] w true [(true,[KI,KI,KI,KI,KI]),(false,[.b])] k:=by
 refine Qq.ok ?_
 refine Ae λp1 w1 e1 k1 u1=>Ae λp3 w2 e3 k3 u3=>?_
 have l1:=k1.lt
 have hl:=hE.len
 have k1:=k1.Ai u3
 have g2:=u1.trans u3
 have hp:p1≠p3∧w.heap.size≤p1∧w.heap.size≤p3:=by have:=u1.size;omega
 refine Aw.by (λz w'=>Ah w w'∧Ar w' p1 [iV 0,iV 0,iV 0,iV 0,iV 0]∧ ∃i:Nat,z=((i:Int),())∧i≤es.length∧(∀e∈es.take i,InR e0 e)∧
   Ar w' p3 [iV (sm e0 (es.take i)).1,iV (sm e0 (es.take i)).2.1,iV (sm e0 (es.take i)).2.2.1,iV (sm e0 (es.take i)).2.2.2.1,iV (sm e0 (es.take i)).2.2.2.2])
  (λz=>(8-z.1).toNat) ⟨g2,k1,0,rfl,by omega,by simp,k3⟩ ?_
 clear k1 k3 g2
 rintro z w3 ⟨g,k1,i,rfl,hi,hr,k3⟩ _
 refine Cf (λc=>?_) (λc=>?_)
 ·have hi':i<es.length:=by have c:(i:Int)<(s.2.1:Int):=c;omega
  have he:es[i]? =some es[i]:=List.getElem?_eq_getElem hi'
  generalize es[i]=e at he
  have hE3:=hE.Ai g
  refine hE3.ix rfl he λa ha=>hE3.Bc ha he ?_
  refine Ae λp w4 e4 k4 u4=>k4.E5 _ rfl rfl λw5 k5 u5=>?_
  rw[Aq]
  have g5:Ah w w5.drew:=(Ap.drew (Ap.new (Ap.Ai g u4) u5 (λh=>absurd g.size (by omega))))
  have hE5:=hE.Ai g5
  have ge:=nS.1 (hg e (List.mem_of_getElem? he))
  have ge0:=nS.1 (hg e0 (List.mem_of_getElem? h0))
  refine k5.drew.i0 rfl (hE5.ix (i:=0) rfl h0 λa' ha'=>hE5.f0 ha' (i:=0) rfl h0 (k5.drew.i1 1 rfl (hE5.ix (i:=0) rfl h0 λa' ha'=>hE5.f1 ha' (i:=0) rfl h0 ?_)))
  simp only
  rw[Af (n:=e.1-e0.1) (by unfold I64;omega),Af (n:=e.2.1-e0.2.1) (by unfold I64;omega)]
  have l4:=k1.lt
  have l3:=k3.lt
  have k1:=((k1.Ai u4).upd u5 (by omega)).drew
  have k3:=((k3.Ai u4).upd u5 (by omega)).drew
  refine Avd (λr=>?_) (λr=>?_)
  ·refine k1.E5 _ rfl rfl λw6 k6 u6=>k6.ld5 ?_
   exact hf (λx=>r (x e (List.mem_of_getElem? he))) w6 (Ap.new g5 u6 (by omega))
  ·have sb:=Alz i (es.take i) (by simp;omega) hr
   have sb':=sb.step r
   obtain⟨r0,r1,r2,r3⟩:=r
   have p:=pW r0 r1 r2 r3 (by decide)
   have q:=Ym r0 r1 r0 r1
   obtain⟨a0,a1,a2,a3,a4,a5,a6,a7,a8⟩:=sb
   refine Nz.cl k3 (by unfold I64;omega) (by unfold I64;omega) (by unfold I64;omega) (by unfold I64;omega) (by unfold I64;omega) (by unfold I64;omega) (by unfold I64;omega) λw6 k6 u6=>?_
   have e6:wrap .i64 ((i:Int)+1)=((i+1:Nat):Int):=by rw[Af (by unfold I64;omega)];rfl
   refine⟨⟨Ap.new g5 u6 (by omega),k1.upd u6 (by omega),i+1,?_,by omega,?_,?_⟩,?_⟩
   ·show(_,())=_;rw[e6]
   ·intro x hx
    rw[take_snoc he] at hx
    rcases List.mem_append.1 hx with hx|hx
    ·exact hr x hx
    ·simp at hx;subst hx;exact⟨r0,r1,r2,r3⟩
   ·rw[take_snoc he,Afz];exact k6
   ·show(8-wrap .i64 ((i:Int)+1)).toNat<(8-(i:Int)).toNat
    rw[e6];omega
 ·have hi':i=es.length:=by have c: ¬(i:Int)<(s.2.1:Int):=c;omega
  subst hi'
  rw[List.take_length] at hr k3
  refine k3.ld5 (k1.E5 _ rfl rfl λw4 k4 u4=>k4.ld5 ?_)
  exact hk hr w4 (Ap.new g u4 (by omega))
def dB(e0:E3)(es:List E3):Int:=(sm e0 es).1*(sm e0 es).2.2.2.1-(sm e0 es).2.1*(sm e0 es).2.2.1
def Vf(e0:E3)(es:List E3):Int:=(sm e0 es).1*(sm e0 es).2.2.2.2-(sm e0 es).2.1*(sm e0 es).2.1
def bound(drift a b:Int):Int×Int:=
 if 0<a∧a*(1000-dr drift)>2*dr drift*b then(2*dr drift,1000-dr drift) else if a<0∧ -a*(1000-dr drift)>2*dr drift*b then(-(2*dr drift),1000-dr drift) else(a,b)
def Yp(drift:Int)(es:List E3):Int×Int:=
 if es.length<2∨8<es.length∨ ¬(∀e∈es,J8 e=true)∨ ¬(∀e∈es,InR (es.headD (0,0,0)) e)∨Vf (es.headD (0,0,0)) es<1 then(0,1)
 else bound drift (dB (es.headD (0,0,0)) es) (Vf (es.headD (0,0,0)) es)
theorem bG{drift:Int}{es:List E3}(h:es.length<2∨8<es.length∨ ¬(∀e∈es,J8 e=true)∨ ¬(∀e∈es,InR (es.headD (0,0,0)) e)∨Vf (es.headD (0,0,0)) es<1):Yp drift es=(0,1):=by
 unfold Yp;rw[if_pos h]
theorem Aau{e0:E3}{es:List E3}(hn:es.length≤8)(h: ∀e∈es,InR e0 e):
  I64 ((sm e0 es).1*(sm e0 es).2.2.2.1)∧I64 ((sm e0 es).2.1*(sm e0 es).2.2.1)∧I64 ((sm e0 es).1*(sm e0 es).2.2.2.2)∧I64 ((sm e0 es).2.1*(sm e0 es).2.1)∧
  -2251799813685248≤dB e0 es∧dB e0 es≤2251799813685248∧Vf e0 es≤1125899906842624∧ -1125899906842624≤Vf e0 es∧(sm e0 es).1=es.length:=by
 obtain⟨a0,a1,a2,a3,a4,a5,a6,a7,a8⟩:=Alz es.length es rfl h
 have b1:=pW (x:=(sm e0 es).1) (y:=(sm e0 es).2.2.2.1) (m:=8) (n:=140737488355328) (by omega) (by omega) (by omega) (by omega) (by omega)
 have b2:=pW (x:=(sm e0 es).2.1) (y:=(sm e0 es).2.2.1) (m:=33554432) (n:=33554432) (by omega) (by omega) (by omega) (by omega) (by omega)
 have b3:=Ym (a:=(sm e0 es).1) (b:=(sm e0 es).2.2.2.2) (m:=8) (n:=140737488355328) (by omega) (by omega) (by omega) (by omega)
 have b4:=Ym (a:=(sm e0 es).2.1) (b:=(sm e0 es).2.1) (m:=33554432) (n:=33554432) (by omega) (by omega) (by omega) (by omega)
 unfold dB Vf I64
 refine⟨by omega,by omega,by omega,by omega,by omega,by omega,by omega,by omega,a0⟩
theorem Aod{drift:Int}:(0≤2*dr drift∧I64 (2*dr drift))∧(0≤1000-dr drift∧I64 (1000-dr drift)):=by have:=Ab5 drift;unfold I64;omega
theorem Y4.cl{drift:Int}{s:Sl}{es:List E3}{w:World}(hE:Nu w s es){k:TR [(true,[KI,KI])]→WP}
  (hk: ∀w',Ah w w'→k (((Yp drift es).1,(Yp drift es).2,()),()) w'):
  Ad prog F.Y4 [iV drift,.slice s.1 s.2.1 s.2.2] w false [(true,[KI,KI])] k:=by
 refine Y4.ok ?_
 refine Ae λp1 w1 e1 k1 u1=>Ae λp3 w2 e3 k3 u3=>?_
 have l1:=k1.lt
 have hl:=hE.len
 refine k3.E5 _ rfl rfl λw3 k3 v3=>?_
 have k1:=(k1.Ai u3).upd v3 (by omega)
 have hp:p1≠p3∧w.heap.size≤p1∧w.heap.size≤p3:=by have:=u1.size;omega
 have g3:Ah w w3:=(u1.trans u3).new v3 (by omega)
 clear e1 u1 e3 u3 l1 v3
 have out: ∀{w':World} {x y:Int},Yp drift es=(0,1)→Ah w w'→Ar w' p1 [iV x,iV y]→Ar w' p3 [iV 0,iV 1]→
   Bc [KI,KI] ⟨p3,0,none⟩ 0 w' λx6=>Au [iV x6.1,iV x6.2.1] ⟨p1,0,none⟩ 0 w' λw7=>Bc [KI,KI] ⟨p1,0,none⟩ 0 w7 λx8=>k ((x8.1,x8.2.1,()),()) w7:=by
  intro w' x y e g q1 q3
  refine q3.ld2 (q1.E5 _ rfl rfl λw7 k7 u7=>k7.ld2 ?_)
  have:=hk w7 (Ap.new g u7 (by omega))
  rw[e] at this;exact this
 refine Cf (λc=>out (bG (.inl ?_)) g3 k1 k3) λc1=>Cf (λc=>out (bG (.inr (.inl ?_))) g3 k1 k3) λc2=>?_
 ·have c:(s.2.1:Int)<2:=c;omega
 ·have c:(s.2.1:Int)>8:=c;omega
 have c1: ¬(s.2.1:Int)<2:=c1
 have c2: ¬(s.2.1:Int)>8:=c2
 refine Aw.by (λz w'=>Ah w w'∧Ar w' p1 [iV 0,iV 0]∧Ar w' p3 [iV 0,iV 1]∧ ∃i:Nat,z=((i:Int),())∧i≤es.length∧(∀e∈es.take i,J8 e=true))
  (λz=>(8-z.1).toNat) ⟨g3,k1,k3,0,rfl,by omega,by simp⟩ ?_
 clear k1 k3 g3
 rintro z w4 ⟨g,k1,k3,i,rfl,hi,hr⟩ _
 refine Cf (λc=>?_) (λc=>?_)
 ·have hi':i<es.length:=by have c:(i:Int)<(s.2.1:Int):=c;omega
  have he:es[i]? =some es[i]:=List.getElem?_eq_getElem hi'
  generalize es[i]=e at he
  have hE3:=hE.Ai g
  refine hE3.ix rfl he λa ha=>hE3.Bc ha he ?_
  refine Ae λp w5 e4 k4 u4=>k4.E5 _ rfl rfl λw6 k5 u5=>k5.Xd (Cj.cl λw7 u6=>?_)
  have l4:=k1.lt
  have l3:=k3.lt
  have k1:=((k1.Ai u4).upd u5 (by omega)).Ai u6
  have k3:=((k3.Ai u4).upd u5 (by omega)).Ai u6
  have g7:Ah w w7:=Ap.Ai (Ap.new (Ap.Ai g u4) u5 (λh=>absurd g.size (by omega))) u6
  refine En (λhb=>out (bG (.inr (.inr (.inl λx=>?_)))) g7 k1 k3) λhb=>?_
  ·have hb:J8 e=false:=hb
   have:=x e (List.mem_of_getElem? he);rw[hb] at this;cases this
  ·have e6:wrap .i64 ((i:Int)+1)=((i+1:Nat):Int):=by rw[Af (by unfold I64;omega)];rfl
   refine⟨⟨g7,k1,k3,i+1,?_,by omega,?_⟩,?_⟩
   ·show(_,())=_;rw[e6]
   ·intro x hx
    rw[take_snoc he] at hx
    rcases List.mem_append.1 hx with hx|hx
    ·exact hr x hx
    ·simp at hx;subst hx;exact hb
   ·show(8-wrap .i64 ((i:Int)+1)).toNat<(8-(i:Int)).toNat
    rw[e6];omega
 have hi':i=es.length:=by have c: ¬(i:Int)<(s.2.1:Int):=c;omega
 subst hi'
 rw[List.take_length] at hr
 obtain⟨e0,he0⟩: ∃e0,es[0]? =some e0:=⟨_,List.getElem?_eq_getElem (show 0<es.length by omega)⟩
 have hd0:es.headD (0,0,0)=e0:=by cases es;cases he0;simpa using he0
 refine Qq.cl (hE.Ai g) hr (by omega) he0 (λhin w5 u5=>?_) (λhin w5 u5=>?_)
 rotate_left
 ·
  refine Ae λp28 w6 e6 k6 u6=>k6.E5 _ rfl rfl λw7 k7 u7=>?_
  refine k7.i0 rfl (k7.i1 4 rfl (k7.i1 1 rfl (k7.i1 1 rfl (En (λ_=>?_) λh=>by cases h))))
  have l1:=k1.lt
  have l3:=k3.lt
  have s5:=u5.size
  exact out (bG (.inr (.inr (.inr (.inl (by rw[hd0];exact hin)))))) (Ap.new (Ap.Ai (Ap.Ai g u5) u6) u7 (λh=>absurd g.size (by omega))) (((k1.Ai u5).Ai u6).upd u7 (by omega)) (((k3.Ai u5).Ai u6).upd u7 (by omega))
 obtain⟨b1,b2,b3,b4,b5,b6,b7,b8,b9⟩:=Aau (e0:=e0) (by omega) hin
 have ea:wrap .i64 (wrap .i64 ((sm e0 es).1*(sm e0 es).2.2.2.1)-wrap .i64 ((sm e0 es).2.1*(sm e0 es).2.2.1))=dB e0 es:=by
  rw[Af b1,Af b2];exact Af (by unfold dB at b5 b6;unfold I64;omega)
 have eb:wrap .i64 (wrap .i64 ((sm e0 es).1*(sm e0 es).2.2.2.2)-wrap .i64 ((sm e0 es).2.1*(sm e0 es).2.1))=Vf e0 es:=by
  rw[Af b3,Af b4];exact Af (by unfold Vf at b7 b8;unfold I64;omega)
 refine Ae λp28 w6 e6 k6 u6=>k6.E5 _ rfl rfl λw7 k7 u7=>?_
 change Ar w7 p28 [iV (sm e0 es).1,iV (sm e0 es).2.1,iV (sm e0 es).2.2.1,iV (sm e0 es).2.2.2.1,iV (sm e0 es).2.2.2.2] at k7
 have l1:=k1.lt
 have l3:=k3.lt
 have s5:=u5.size
 have g7:Ah w w7:=Ap.new (Ap.Ai (Ap.Ai g u5) u6) u7 (λh=>absurd g.size (by omega))
 have k1:=((k1.Ai u5).Ai u6).upd u7 (by omega)
 have k3:=((k3.Ai u5).Ai u6).upd u7 (by omega)
 refine k7.i0 rfl (k7.i1 4 rfl (k7.i1 1 rfl (k7.i1 1 rfl (En (λh=>by cases h) λ_=>?_))))
 rw[eb]
 refine Cf (λc=>?_) λc=>?_
 ·exact out (bG (.inr (.inr (.inr (.inr (by rw[hd0];exact c)))))) g7 k1 k3
 refine k7.i0 rfl (k7.i1 3 rfl (k7.i1 1 rfl (k7.i1 2 rfl ?_)))
 rw[ea]
 have hv:Yp drift es=bound drift (dB e0 es) (Vf e0 es):=by
  unfold Yp
  rw[hd0,if_neg]
  intro h
  rcases h with h|h|h|h|h
  ·omega
  ·omega
  ·exact h hr
  ·exact h hin
  ·exact c h
 rw[hv] at hk
 have hD:0≤Vf e0 es∧I64 (Vf e0 es):=by unfold I64;omega
 clear out hv ea eb
 generalize dB e0 es=A at*
 generalize Vf e0 es=B at*
 refine Ut.cl λw8 u8=>Ae λp47 w9 e9 k9 u9=>k9.E5 _ rfl rfl λw10 k10 u10=>?_
 change Ar w10 p47 [iV (2*dr drift),iV (1000-dr drift)] at k10
 have s8:=u8.size
 have l1:=k1.lt
 have g10:Ah w w10:=Ap.new (Ap.Ai (Ap.Ai g7 u8) u9) u10 (λh=>absurd g7.size (by omega))
 have k1:=((k1.Ai u8).Ai u9).upd u10 (by omega)
 have hp47:p1≠p47:=by omega
 have hw47:w.heap.size≤p47:=by have:=g7.size;omega
 clear k3 k6 k7 k9 u5 u6 u7 u8 u9 u10 g g7 e6 e9 l1 l3 s5 s8
 refine Bh.by (λz w'=>z.1=decide (0<A∧A*(1000-dr drift)>2*dr drift*B)∧Ah w w'∧Ar w' p1 [iV 0,iV 0]∧Ar w' p47 [iV (2*dr drift),iV (1000-dr drift)]) ?_ ?_
 ·refine Cf (λh=>k10.ld2 ?_) λh=>⟨?_,g10,k1,k10⟩
  ·refine Qo.cl (by unfold I64;omega) hD Aod.1 Aod.2 λw11 u11=>⟨?_,g10.trans u11,k1.Ai u11,k10.Ai u11⟩
   show decide _=decide _
   rw[decide_eq_decide]
   exact⟨λx=>⟨h,x⟩,λx=>x.2⟩
  ·symm;exact decide_eq_false λx=>h x.1
 clear k1 k10 g10
 rintro⟨z,u⟩ w10 ⟨hz,g10,k1,k10⟩ _
 simp only at hz
 refine bQ (λh=>?_) λh=>?_
 ·rw[show z=true from h] at hz
  have hz:=of_decide_eq_true hz.symm
  refine k10.ld2 (k1.E5 _ rfl rfl λw11 k11 u11=>k11.ld2 ?_)
  have:=hk w11 (Ap.new g10 u11 (by omega))
  unfold bound at this
  rw[if_pos hz] at this;exact this
 rw[show z=false from h] at hz
 have hz:=of_decide_eq_false hz.symm
 refine Bh.by (λz w'=>z.1=decide (A<0∧ -A*(1000-dr drift)>2*dr drift*B)∧Ah w w'∧Ar w' p1 [iV 0,iV 0]∧Ar w' p47 [iV (2*dr drift),iV (1000-dr drift)]) ?_ ?_
 ·have wA:wrap .i64 (0-A)= -A:=by rw[Af (by unfold I64;omega)];omega
  rw[wA]
  refine Cf (λh=>k10.ld2 ?_) λh=>⟨?_,g10,k1,k10⟩
  ·refine Qo.cl (by unfold I64;omega) hD Aod.1 Aod.2 λw11 u11=>⟨?_,g10.trans u11,k1.Ai u11,k10.Ai u11⟩
   show decide _=decide _
   rw[decide_eq_decide]
   exact⟨λx=>⟨h,x⟩,λx=>x.2⟩
  ·symm;exact decide_eq_false λx=>h x.1
 clear k1 k10 g10
 rintro⟨z,u⟩ w10 ⟨hz2,g10,k1,k10⟩ _
 simp only at hz2
 refine bQ (λh=>?_) λh=>?_
 ·rw[show z=true from h] at hz2
  have hz2:=of_decide_eq_true hz2.symm
  have wD:wrap .i64 (0-2*dr drift)= -(2*dr drift):=by have:=Ab5 drift;rw[Af (by unfold I64;omega)];omega
  refine k10.i0 rfl (k10.i1 1 rfl ?_)
  rw[wD]
  refine k1.E5 _ rfl rfl λw11 k11 u11=>k11.ld2 ?_
  have:=hk w11 (Ap.new g10 u11 (by omega))
  unfold bound at this
  rw[if_neg hz,if_pos hz2] at this;exact this
 ·rw[show z=false from h] at hz2
  have hz2:=of_decide_eq_false hz2.symm
  refine k1.E5 _ rfl rfl λw11 k11 u11=>k11.ld2 ?_
  have:=hk w11 (Ap.new g10 u11 (by omega))
  unfold bound at this
  rw[if_neg hz,if_neg hz2] at this;exact this
structure SV(drift:Int)(v:Int×Int):Prop where
 d0:1≤v.2
 d1:v.2≤1125899906842624
 n0: -2251799813685248≤v.1
 n1:v.1≤2251799813685248
 up:v.1*(1000-dr drift)≤2*dr drift*v.2
 dn: -v.1*(1000-dr drift)≤2*dr drift*v.2
theorem Aha(drift:Int)(es:List E3):SV drift (Yp drift es):=by
 have hd:=Ab5 drift
 unfold Yp
 split
 ·exact⟨by decide,by decide,by decide,by decide,by simp only;omega,by simp only;omega⟩
 ·rename_i h
  have hin: ∀e∈es,InR (es.headD (0,0,0)) e:=Classical.byContradiction λx=>h (.inr (.inr (.inr (.inl x))))
  have hn: ¬8<es.length:=λx=>h (.inr (.inl x))
  have hB: ¬Vf (es.headD (0,0,0)) es<1:=λx=>h (.inr (.inr (.inr (.inr x))))
  obtain⟨_,_,_,_,b5,b6,b7,b8,_⟩:=Aau (e0:=es.headD (0,0,0)) (by omega) hin
  generalize dB (es.headD (0,0,0)) es=A at*
  generalize Vf (es.headD (0,0,0)) es=B at*
  have cd:0≤2*dr drift*B:=Int.mul_nonneg (by omega) (by omega)
  have cc:0≤2*dr drift*(1000-dr drift):=Int.mul_nonneg (by omega) (by omega)
  unfold bound
  split
  ·exact⟨by simp only;omega,by simp only;omega,by simp only;omega,by simp only;omega,Int.le_refl _,by simp only;rw[Int.neg_mul];omega⟩
  ·rename_i h1
   split
   ·exact⟨by simp only;omega,by simp only;omega,by simp only;omega,by simp only;omega,by simp only;rw[Int.neg_mul];omega,by simp only;rw[Int.neg_neg];omega⟩
   ·rename_i h2
    refine⟨by simp only;omega,by simp only;omega,by simp only;omega,by simp only;omega,?_,?_⟩
    ·simp only
     by_cases x:0<A
     ·have: ¬A*(1000-dr drift)>2*dr drift*B:=λy=>h1 ⟨x,y⟩
      omega
     ·have:=Int.mul_le_mul_of_nonneg_right (show A≤0 by omega) (show 0≤1000-dr drift by omega)
      omega
    ·simp only
     by_cases x:A<0
     ·have: ¬ -A*(1000-dr drift)>2*dr drift*B:=λy=>h2 ⟨x,y⟩
      omega
     ·have:=Int.mul_le_mul_of_nonneg_right (show-A≤0 by omega) (show 0≤1000-dr drift by omega)
      omega
end Go.Proofs.YtppeepkmnijdpaaGreatDoor
