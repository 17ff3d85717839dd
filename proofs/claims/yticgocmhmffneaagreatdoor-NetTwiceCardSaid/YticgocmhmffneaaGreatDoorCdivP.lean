import Derived.Test.YticgocmhmffneaaGreatDoorCfix
import Derived.Test.YticgocmhmffneaaGreatDoorEngB
namespace Go.Proofs.YticgocmhmffneaaGreatDoor
open Go.Eng Tryz
open Go.IntKind (wrap)
set_option linter.unusedSimpArgs false
set_option linter.unusedVariables false
set_option maxRecDepth 100000
set_option maxHeartbeats 8000000
theorem Yp{a b m n:Int}(h1:0≤a)(h2:a≤m)(h3:0≤b)(h4:b≤n):0≤a*b∧a*b≤m*n:=
  ⟨Int.mul_nonneg h1 h3,Int.mul_le_mul h2 h4 h3 (by omega)⟩
theorem bits_Mul64.cl{x y:Int}(hx:V6 x)(hy:V6 y){w:World}{k:TR [(false,[.i .u64]),(false,[.i .u64])]→WP}
    (h:k ((x*y/18446744073709551616,()),(x*y%18446744073709551616,()),()) w):
    Ae prog F.bits_Mul64 [.int .u64 x,.int .u64 y] w true [(false,[.i .u64]),(false,[.i .u64])] k:=by
  refine bits_Mul64.ok ?_
  unfold bits_Mul64.wp
  simp only[Vg (show(0:Int)≤32 by decide)]
  simp only[yD,gX hx,gX hy]
  unfold V6 at hx hy
  have a1:0≤x%4294967296∧x%4294967296≤4294967295:=by omega
  have a2:0≤y%4294967296∧y%4294967296≤4294967295:=by omega
  have a3:0≤x/4294967296∧x/4294967296≤4294967295:=by omega
  have a4:0≤y/4294967296∧y/4294967296≤4294967295:=by omega
  have ex:x=4294967296*(x/4294967296)+x%4294967296:=by omega
  have ey:y=4294967296*(y/4294967296)+y%4294967296:=by omega
  have e:x*y=18446744073709551616*(x/4294967296*(y/4294967296))+4294967296*(x/4294967296*(y%4294967296))+4294967296*(x%4294967296*(y/4294967296))+x%4294967296*(y%4294967296):=by
    conv=>lhs;rw[ex,ey]
    simp only[Int.add_mul,Int.mul_add]
    have c1:4294967296*(x/4294967296)*(4294967296*(y/4294967296))=18446744073709551616*(x/4294967296*(y/4294967296)):=by
      rw[Int.mul_assoc,Int.mul_left_comm (x/4294967296),←Int.mul_assoc];rfl
    have c2:4294967296*(x/4294967296)*(y%4294967296)=4294967296*(x/4294967296*(y%4294967296)):=Int.mul_assoc _ _ _
    have c3:x%4294967296*(4294967296*(y/4294967296))=4294967296*(x%4294967296*(y/4294967296)):=Int.mul_left_comm _ _ _
    rw[c1,c2,c3];omega
  have b1:=Yp a3.1 a3.2 a4.1 a4.2
  have b2:=Yp a3.1 a3.2 a2.1 a2.2
  have b3:=Yp a1.1 a1.2 a4.1 a4.2
  have b4:=Yp a1.1 a1.2 a2.1 a2.2
  generalize hp11:x/4294967296*(y/4294967296)=p11 at*
  generalize hp10:x/4294967296*(y%4294967296)=p10 at*
  generalize hp01:x%4294967296*(y/4294967296)=p01 at*
  generalize hp00:x%4294967296*(y%4294967296)=p00 at*
  generalize hxy:x*y=z at*
  have f1:wrap .u64 p00=p00:=Lp (by unfold V6;omega)
  have f2:wrap .u64 p10=p10:=Lp (by unfold V6;omega)
  have f3:wrap .u64 p01=p01:=Lp (by unfold V6;omega)
  have f4:wrap .u64 p11=p11:=Lp (by unfold V6;omega)
  have f5:wrap .u64 (p10+p00/4294967296)=p10+p00/4294967296:=Lp (by unfold V6;omega)
  rw[f1,f2,f3,f4,f5,gX (by unfold V6;omega)]
  have f6:wrap .u64 ((p10+p00/4294967296)%4294967296+p01)=(p10+p00/4294967296)%4294967296+p01:=Lp (by unfold V6;omega)
  rw[f6]
  have f7:wrap .u64 (wrap .u64 (p11+(p10+p00/4294967296)/4294967296)+((p10+p00/4294967296)%4294967296+p01)/4294967296)=z/18446744073709551616:=by
    simp only[wu64];omega
  have f8:wrap .u64 z=z%18446744073709551616:=wu64 z
  rw[f7,f8]
  exact h
def Alb(o:Option UInt8)(n:Nat):Bool:=match o with
  |some t=>(n==0&&t==0)||(decide (0<n)&&decide (0<t.toNat)&&decide (t.toNat≤8)&&decide (2^(t.toNat-1)≤n)&&decide (n<2^t.toNat))
  |none=>false
theorem Aq3:(List.range 256).all (fun n=>Alb ((⟨#[0,1,2,2,3,3,3,3,4,4,4,4,4,4,4,4,5,5,5,5,5,5,5,5,5,5,5,5,5,5,5,5,6,6,6,6,6,6,6,6,6,6,6,6,6,6,6,6,6,6,6,6,6,6,6,6,6,6,6,6,6,6,6,6,7,7,7,7,7,7,7,7,7,7,7,7,7,7,7,7,7,7,7,7,7,7,7,7,7,7,7,7,7,7,7,7,7,7,7,7,7,7,7,7,7,7,7,7,7,7,7,7,7,7,7,7,7,7,7,7,7,7,7,7,7,7,7,7,8,8,8,8,8,8,8,8,8,8,8,8,8,8,8,8,8,8,8,8,8,8,8,8,8,8,8,8,8,8,8,8,8,8,8,8,8,8,8,8,8,8,8,8,8,8,8,8,8,8,8,8,8,8,8,8,8,8,8,8,8,8,8,8,8,8,8,8,8,8,8,8,8,8,8,8,8,8,8,8,8,8,8,8,8,8,8,8,8,8,8,8,8,8,8,8,8,8,8,8,8,8,8,8,8,8,8,8,8,8,8,8,8,8,8,8,8,8,8,8,8,8,8,8,8,8,8,8]⟩:ByteArray)[n]?) n)=true:=by decide+kernel
def Tt(n:Nat):Nat:=if n=0 then 0 else Nat.log2 n+1
theorem dS{n m:Nat}(h:2^m≤n):Tt n=Tt (n/2^m)+m:=by
  have h0:n≠0:=by have:=Nat.two_pow_pos m;omega
  have h1:n/2^m≠0:=by
    have:=Nat.div_pos h (Nat.two_pow_pos m);omega
  unfold Tt
  rw[if_neg h0,if_neg h1]
  have:Nat.log2 n=Nat.log2 (n/2^m)+m:=by
    have a1:=(Nat.log2_eq_iff h1 (k:=Nat.log2 (n/2^m))).1 rfl
    refine(Nat.log2_eq_iff h0).2 ⟨?_,?_⟩
    · rw[Nat.pow_add];exact Nat.mul_le_of_le_div _ _ _ a1.1
    · rw[show Nat.log2 (n/2^m)+m+1=(Nat.log2 (n/2^m)+1)+m by omega,Nat.pow_add]
      exact Nat.lt_mul_of_div_lt a1.2 (Nat.two_pow_pos m)
  omega
theorem wY{n m:Nat}(h:n<2^m):Tt n≤m:=by
  unfold Tt
  split
  · omega
  · rename_i h0
    have:=(Nat.log2_lt h0).2 h
    omega
theorem bits_Len64.cl{x:Int}(hx:V6 x){w:World}{k:TR [(false,[KI])]→WP}(h:k (((Tt x.toNat:Nat),()),()) w):
    Ae prog F.bits_Len64 [.int .u64 x] w false [(false,[KI])] k:=by
  refine bits_Len64.ok ?_
  unfold bits_Len64.wp
  obtain⟨n,rfl⟩:=Int.eq_ofNat_of_zero_le hx.1
  have hn:n<18446744073709551616:=by unfold V6 at hx;omega
  rw[Int.toNat_natCast] at h
  refine Cc.by (fun z w'=>w=w'∧ ∃(y c:Nat),z=((y:Int),(c:Int),())∧y<4294967296∧Tt n=Tt y+c∧c≤32) ?_ ?_
  · rw[Ih,Vg (by decide)]
    split
    · rename_i h1;simp only[decide_eq_true_eq] at h1
      refine⟨rfl,n/4294967296,32,?_,by omega,?_,by omega⟩
      · rw[yD];simp
      · exact dS (m:=32) (by omega)
    · rename_i h1;simp only[decide_eq_true_eq] at h1
      exact⟨rfl,n,0,rfl,by omega,rfl,by omega⟩
  rintro z w' ⟨rfl,y,c,rfl,hy,hb,hc⟩ _
  refine Cc.by (fun z w'=>w=w'∧ ∃(y c:Nat),z=((y:Int),(c:Int),())∧y<65536∧Tt n=Tt y+c∧c≤48) ?_ ?_
  · rw[Ih,Vg (by decide)]
    split
    · rename_i h1;simp only[decide_eq_true_eq] at h1
      refine⟨rfl,y/65536,c+16,?_,by omega,?_,by omega⟩
      · have e1:Qv .u64 (y:Int) 16=((y/65536:Nat):Int):=by rw[show(16:Int)=((16:Nat):Int) from rfl,bJ 16 (by decide)];simp
        have e2:wrap .i64 ((c:Int)+16)=((c+16:Nat):Int):=by rw[Ah (by unfold I64;omega)];simp
        rw[e1,e2]
      · have:=dS (n:=y) (m:=16) (by omega)
        rw[hb,this];simp;omega
    · rename_i h1;simp only[decide_eq_true_eq] at h1
      exact⟨rfl,y,c,rfl,by omega,hb,by omega⟩
  rintro z w' ⟨rfl,y,c,rfl,hy,hb,hc⟩ _
  refine Cc.by (fun z w'=>w=w'∧ ∃(y c:Nat),z=((y:Int),(c:Int),())∧y<256∧Tt n=Tt y+c∧c≤56) ?_ ?_
  · rw[Ih,Vg (by decide)]
    split
    · rename_i h1;simp only[decide_eq_true_eq] at h1
      refine⟨rfl,y/256,c+8,?_,by omega,?_,by omega⟩
      · have e1:Qv .u64 (y:Int) 8=((y/256:Nat):Int):=by rw[show(8:Int)=((8:Nat):Int) from rfl,bJ 8 (by decide)];simp
        have e2:wrap .i64 ((c:Int)+8)=((c+8:Nat):Int):=by rw[Ah (by unfold I64;omega)];simp
        rw[e1,e2]
      · have:=dS (n:=y) (m:=8) (by omega)
        rw[hb,this];simp;omega
    · rename_i h1;simp only[decide_eq_true_eq] at h1
      exact⟨rfl,y,c,rfl,by omega,hb,by omega⟩
  rintro z w' ⟨rfl,y,c,rfl,hy,hb,hc⟩ _
  have e1:wrap .u8 (y:Int)=y:=by rw[IntKind.wrap_u8];omega
  have e2:=List.all_eq_true.1 Aq3 y (List.mem_range.2 hy)
  rw[e1]
  unfold siK
  rw[if_pos (by omega),Int.toNat_natCast]
  have e3:=wY (n:=y) (m:=8) (by omega)
  revert e2
  generalize (⟨#[0,1,2,2,3,3,3,3,4,4,4,4,4,4,4,4,5,5,5,5,5,5,5,5,5,5,5,5,5,5,5,5,6,6,6,6,6,6,6,6,6,6,6,6,6,6,6,6,6,6,6,6,6,6,6,6,6,6,6,6,6,6,6,6,7,7,7,7,7,7,7,7,7,7,7,7,7,7,7,7,7,7,7,7,7,7,7,7,7,7,7,7,7,7,7,7,7,7,7,7,7,7,7,7,7,7,7,7,7,7,7,7,7,7,7,7,7,7,7,7,7,7,7,7,7,7,7,7,8,8,8,8,8,8,8,8,8,8,8,8,8,8,8,8,8,8,8,8,8,8,8,8,8,8,8,8,8,8,8,8,8,8,8,8,8,8,8,8,8,8,8,8,8,8,8,8,8,8,8,8,8,8,8,8,8,8,8,8,8,8,8,8,8,8,8,8,8,8,8,8,8,8,8,8,8,8,8,8,8,8,8,8,8,8,8,8,8,8,8,8,8,8,8,8,8,8,8,8,8,8,8,8,8,8,8,8,8,8,8,8,8,8,8,8,8,8,8,8,8,8,8,8,8,8,8,8]⟩:ByteArray)[y]? =o
  intro e2
  unfold Alb at e2
  split at e2
  case h_2=>cases e2
  rename_i t
  have e5:t.toNat=Tt y:=by
    simp only[Bool.or_eq_true,Bool.and_eq_true,beq_iff_eq,decide_eq_true_eq] at e2
    rcases e2 with ⟨rfl,rfl⟩|⟨⟨⟨⟨g1,g2⟩,g3⟩,g4⟩,g5⟩
    · rfl
    · unfold Tt
      rw[if_neg (by omega)]
      have:Nat.log2 y=t.toNat-1:=(Nat.log2_eq_iff (by omega)).2 ⟨g4,by rwa [show t.toNat-1+1=t.toNat by omega]⟩
      omega
  simp only
  rw[e5,Ah (n:=(Tt y:Int)) (by unfold I64;omega),Ah (by unfold I64;omega)]
  have e6:((c:Int)+(Tt y:Int))=((Tt n:Nat):Int):=by omega
  rw[e6];exact h
theorem bits_LeadingZeros64.cl{x:Int}(hx:V6 x){w:World}{k:TR [(false,[KI])]→WP}(h:k ((64-(Tt x.toNat:Nat),()),()) w):
    Ae prog F.bits_LeadingZeros64 [.int .u64 x] w false [(false,[KI])] k:=by
  refine bits_LeadingZeros64.ok ?_
  unfold bits_LeadingZeros64.wp
  refine bits_Len64.cl hx ?_
  have e:=wY (n:=x.toNat) (m:=64) (by rw[p64];unfold V6 at hx;omega)
  simp only
  rw[Ah (by unfold I64;omega)];exact h
section
variable {u l Y1 Y0 q r:Int}
theorem Aig(h1:2147483648≤Y1)(h0:0≤Y0)(hu:0≤u)(huy:u<Y1*4294967296+Y0)(hl:0≤l∧l<4294967296):
    0≤(u*4294967296+l)/(Y1*4294967296+Y0)∧(u*4294967296+l)/(Y1*4294967296+Y0)<4294967296:=by
  refine⟨Int.ediv_nonneg (by omega) (by omega),Int.ediv_lt_of_lt_mul (by omega) (by omega)⟩
theorem Anb(h1:2147483648≤Y1)(h0:0≤Y0)(hq:q*Y1+r=u)(hb:q*Y0>4294967296*r+l):
    (u*4294967296+l)/(Y1*4294967296+Y0)≤q-1:=by
  have:(u*4294967296+l)/(Y1*4294967296+Y0)<q:=by
    refine Int.ediv_lt_of_lt_mul (by omega) ?_
    rw[Int.mul_add,←Int.mul_assoc];omega
  omega
theorem yZ(h1:2147483648≤Y1)(h0:0≤Y0)(hq:q*Y1+r=u)(hb:q*Y0≤4294967296*r+l):
    q≤(u*4294967296+l)/(Y1*4294967296+Y0):=by
  refine Int.le_ediv_of_mul_le (by omega) ?_
  rw[Int.mul_add,←Int.mul_assoc];omega
theorem Afz(h1:2147483648≤Y1)(h0:0≤Y0∧Y0<4294967296)(hl:0≤l)(hq0:0≤q)(hq:q*Y1+r=u)(huy:u<Y1*4294967296+Y0)(hr:4294967296≤r):
    q≤(u*4294967296+l)/(Y1*4294967296+Y0):=by
  have hlt:q<4294967296:=by
    by_cases h:q<4294967296
    · exact h
    · have:=Int.mul_le_mul_of_nonneg_right (show 4294967296≤q by omega) (show 0≤Y1 by omega)
      omega
  have:=Yp hq0 (show q≤4294967295 by omega) h0.1 (show Y0≤4294967295 by omega)
  exact yZ h1 h0.1 hq (by omega)
end
theorem An1{hi lo y p U L q1 q0:Int}(hy:0<y)(hp:0<p)(hT:(hi*18446744073709551616+lo)*p=U*18446744073709551616+L)
    (hq1:q1=(U*4294967296+L/4294967296)/(y*p)) (hq0:q0=((U*4294967296+L/4294967296-q1*(y*p))*4294967296+L%4294967296)/(y*p)):
    (hi*18446744073709551616+lo)/y=q1*4294967296+q0∧
    (hi*18446744073709551616+lo)%y=(((U*4294967296+L/4294967296-q1*(y*p))*4294967296+L%4294967296)-q0*(y*p))/p:=by
  have hyp:0<y*p:=Int.mul_pos hy hp
  generalize hr1:U*4294967296+L/4294967296-q1*(y*p)=r1 at*
  have a0:=Int.emod_nonneg (r1*4294967296+L%4294967296) (b:=y*p) (by omega)
  have a1:=Int.emod_lt_of_pos (r1*4294967296+L%4294967296) hyp
  have a2:=Int.mul_ediv_add_emod (r1*4294967296+L%4294967296) (y*p)
  rw[←hq0] at a2
  generalize hr0:(r1*4294967296+L%4294967296)%(y*p)=r0 at*
  generalize hT':hi*18446744073709551616+lo=T at*
  have e1:T*p=(q1*4294967296+q0)*(y*p)+r0:=by
    rw[hT,Int.add_mul]
    have:q1*4294967296*(y*p)=4294967296*(q1*(y*p)):=by rw[Int.mul_comm q1,Int.mul_assoc]
    rw[this]
    have:(y*p)*q0=q0*(y*p):=Int.mul_comm _ _
    omega
  have e2:r0=p*(T-(q1*4294967296+q0)*y):=by
    rw[Int.mul_sub,Int.mul_comm p T]
    have:p*((q1*4294967296+q0)*y)=(q1*4294967296+q0)*(y*p):=by rw[Int.mul_comm p,Int.mul_assoc]
    omega
  have e3:r1*4294967296+L%4294967296-q0*(y*p)=r0:=by
    have:(y*p)*q0=q0*(y*p):=Int.mul_comm _ _
    omega
  rw[e3]
  generalize hX:T-(q1*4294967296+q0)*y=X at*
  have x0:0≤X:=by
    by_cases h:0≤X
    · exact h
    · have:=Int.mul_neg_of_pos_of_neg hp (show X<0 by omega);omega
  have x1:X<y:=by
    by_cases h:X<y
    · exact h
    · have:=Int.mul_le_mul_of_nonneg_left (show y≤X by omega) (Int.le_of_lt hp)
      rw[Int.mul_comm p y] at this;omega
  have e4:r0/p=X:=by rw[e2];exact Int.mul_ediv_cancel_left _ (by omega)
  rw[e4]
  have:=(Int.ediv_emod_unique hy (a:=T) (q:=q1*4294967296+q0) (r:=X)).2 ⟨by rw[Int.mul_comm y];omega,x0,x1⟩
  exact this
theorem zO{n:Nat}(h:n≠0)(hn:n<2^64):1≤Tt n∧Tt n≤64∧2^(Tt n-1)≤n∧n<2^(Tt n):=by
  have h1:=(Nat.log2_eq_iff h (k:=Nat.log2 n)).1 rfl
  have h2:=wY hn
  have e:Tt n=Nat.log2 n+1:=by unfold Tt;rw[if_neg h]
  rw[e] at h2⊢
  exact⟨by omega,by omega,by simpa using h1.1,h1.2⟩
structure DvI(U l Y1 Y0 q r:Int):Prop where
  q0:0≤q
  r0:0≤r
  r1:r<4294967296
  eq:q*Y1+r=U
  le:(U*4294967296+l)/(Y1*4294967296+Y0)≤q
section
variable {U l Y1 Y0 q r:Int}
theorem yY(h1:2147483648≤Y1)(h1':Y1<4294967296)(h0:0≤Y0∧Y0<4294967296)(hU:0≤U)(hl:0≤l∧l<4294967296):DvI U l Y1 Y0 (U/Y1) (U-U/Y1*Y1):=by
  have e:=Int.mul_ediv_add_emod U Y1
  have e1:=Int.emod_nonneg U (b:=Y1) (by omega)
  have e2:=Int.emod_lt_of_pos U (b:=Y1) (by omega)
  rw[Int.mul_comm] at e
  refine⟨Int.ediv_nonneg hU (by omega),by omega,by omega,by omega,?_⟩
  refine Int.le_ediv_of_mul_le (by omega) ?_
  have q0:0≤(U*4294967296+l)/(Y1*4294967296+Y0):=Int.ediv_nonneg (by omega) (by omega)
  have hm:=Int.ediv_mul_le (U*4294967296+l) (b:=Y1*4294967296+Y0) (by omega)
  generalize (U*4294967296+l)/(Y1*4294967296+Y0)=Q at*
  rw[Int.mul_add,←Int.mul_assoc] at hm
  have:=Int.mul_nonneg q0 h0.1
  omega
theorem Ac2(h1:2147483648≤Y1)(h1':Y1<4294967296)(h0:0≤Y0∧Y0<4294967296)(hU:0≤U)(huy:U<Y1*4294967296+Y0)(hl:0≤l∧l<4294967296)(i:DvI U l Y1 Y0 q r):
    (q≥4294967296∨wrap .u64 (q*Y0)>wrap .u64 (wrap .u64 (4294967296*r)+l)→
      wrap .u64 (q-1)=q-1∧wrap .u64 (r+Y1)=r+Y1∧(r+Y1≥4294967296→q-1=(U*4294967296+l)/(Y1*4294967296+Y0))∧(¬r+Y1≥4294967296→DvI U l Y1 Y0 (q-1) (r+Y1))∧(q-1).toNat<q.toNat)∧
    (¬q≥4294967296→ ¬wrap .u64 (q*Y0)>wrap .u64 (wrap .u64 (4294967296*r)+l)→q=(U*4294967296+l)/(Y1*4294967296+Y0)):=by
  obtain⟨hq0,hr0,hr1,hq,hQ⟩:=i
  have hq33:q<8589934592:=by
    by_cases h:q<8589934592
    · exact h
    · have:=Int.mul_le_mul (show 8589934592≤q by omega) h1 (by omega) (by omega)
      omega
  have hd:=Aig h1 h0.1 hU huy hl
  have w1:wrap .u64 (wrap .u64 (4294967296*r)+l)=4294967296*r+l:=by simp only[wu64];omega
  have w2: ¬q≥4294967296→wrap .u64 (q*Y0)=q*Y0:=fun h=>by
    have:=Yp hq0 (show q≤4294967295 by omega) h0.1 (show Y0≤4294967295 by omega)
    exact Lp (by unfold V6;omega)
  rw[w1]
  refine⟨fun h=>?_,fun h g=>?_⟩
  · have hle:(U*4294967296+l)/(Y1*4294967296+Y0)≤q-1:=by
      by_cases hb:q≥4294967296
      · omega
      · rw[w2 hb] at h
        exact Anb (l:=l) h1 h0.1 hq (by omega)
    have hq1:(q-1)*Y1+(r+Y1)=U:=by rw[Int.sub_mul];omega
    refine⟨by rw[wu64];omega,by rw[wu64];omega,fun hr=>?_,fun hr=>⟨by omega,by omega,by omega,hq1,hle⟩,by omega⟩
    have:=Afz h1 h0 hl.1 (show 0≤q-1 by omega) hq1 huy hr
    omega
  · rw[w2 h] at g
    have:=yZ (l:=l) h1 h0.1 hq (by omega)
    omega
end
theorem Abu{k:IntKind}{x:Int}(n:Nat)(hn:n≤k.bits):Sz k x (n:Int)=k.wrap (x*(2^n:Nat)):=by
  unfold Sz
  rw[Int.toNat_natCast,Nat.min_eq_left hn]
  have:(2:Int)^n=((2^n:Nat):Int):=by norm_cast
  rw[this]
theorem Vk.cl{hi lo y:Int}(hhi:V6 hi)(hlo:V6 lo)(hy:V6 y)(hlt:hi<y){w:World}{k:TR [(false,[.i .u64]),(false,[.i .u64])]→WP}
    (h: ∀w',Af w w'→k (((hi*18446744073709551616+lo)/y,()),((hi*18446744073709551616+lo)%y,()),()) w'):
    Ae prog F.Vk [.int .u64 hi,.int .u64 lo,.int .u64 y] w true [(false,[.i .u64]),(false,[.i .u64])] k:=by
  refine Vk.ok ?_
  unfold Vk.wp
  have hy0:0<y:=by unfold V6 at*;omega
  have c1:(y==0)=false:=by simp;omega
  have c2:decide (y≤hi)=false:=by simp;omega
  rw[c1,c2,Y2,Y2,Ih]
  split
  · rename_i h1
    have h1:hi=0:=by simpa using h1
    subst h1
    rw[Be,Pg (by omega),Pg (by omega)]
    have:=h w.drew (Af.drew w)
    rw[Int.zero_mul,Int.zero_add] at this
    have hlo0:0≤lo:=hlo.1
    rw[Int.tdiv_eq_ediv_of_nonneg hlo0,Int.tmod_eq_emod_of_nonneg hlo0]
    have e:wrap .u64 (lo/y)=lo/y:=by
      refine Lp ⟨Int.ediv_nonneg hlo0 (by omega),?_⟩
      have:=Int.ediv_le_self (a:=lo) y hlo0
      have:=hlo.2;omega
    rw[e];exact this
  rename_i h1
  have hhi0:hi≠0:=by simpa using h1
  refine bits_LeadingZeros64.cl hy ?_
  obtain⟨n,rfl⟩:=Int.eq_ofNat_of_zero_le (Int.le_of_lt hy0)
  rw[Int.toNat_natCast]
  have hn0:n≠0:=by omega
  have hn64:n<2^64:=by rw[p64];have:=hy.2;omega
  obtain⟨b1,b2,b3,b4⟩:=zO hn0 hn64
  generalize hb:Tt n=b at*
  obtain⟨s,hs⟩: ∃s:Nat,s=64-b:=⟨_,rfl⟩
  have hs64:s≤63:=by omega
  have eS:wrap .u64 (64-(b:Int))=(s:Int):=by rw[Lp (by unfold V6;omega)];omega
  simp only[eS]
  have eS2:wrap .u64 (64-(s:Int))=((64-s:Nat):Int):=by rw[Lp (by unfold V6;omega)];omega
  simp only[eS2]
  have hbits:IntKind.u64.bits=64:=rfl
  have hp:0<2^s:=Nat.two_pow_pos s
  have pb:2^b*2^s=18446744073709551616:=by rw[←Nat.pow_add,show b+s=64 by omega,p64]
  have pb1:2^(b-1)*2^s=9223372036854775808:=by rw[←Nat.pow_add,show b-1+s=63 by omega]
  have hY1:9223372036854775808≤n*2^s:=by rw[←pb1];exact Nat.mul_le_mul_right _ b3
  have hY2:n*2^s<18446744073709551616:=by rw[←pb];exact Nat.mul_lt_mul_of_pos_right b4 hp
  have eY:Sz .u64 (n:Int) (s:Int)=(n:Int)*((2^s:Nat):Int):=by
    rw[Abu s (by rw[hbits];omega)]
    refine Lp ?_
    unfold V6
    rw[←Int.natCast_mul];omega
  have hhin:hi<n:=hlt
  obtain⟨m,rfl⟩:=Int.eq_ofNat_of_zero_le hhi.1
  obtain⟨l,rfl⟩:=Int.eq_ofNat_of_zero_le hlo.1
  have hl64:l<18446744073709551616:=by have:=hlo.2;omega
  have hmn:m<n:=by omega
  have hmp:m*2^s+2^s≤n*2^s:=by rw[←Nat.succ_mul];exact Nat.mul_le_mul_right _ hmn
  have e64:2^(64-s)*2^s=18446744073709551616:=by rw[←Nat.pow_add,show 64-s+s=64 by omega,p64]
  have hld:l/2^(64-s)<2^s:=by
    rw[Nat.div_lt_iff_lt_mul (Nat.two_pow_pos _),Nat.mul_comm,e64];exact hl64
  have hldm:l*2^s/18446744073709551616=l/2^(64-s):=by
    rw[←e64];exact Nat.mul_div_mul_right _ _ hp
  have eHi:Sz .u64 (m:Int) (s:Int)=((m*2^s:Nat):Int):=by
    rw[Abu s (by rw[hbits];omega),←Int.natCast_mul]
    exact Lp (by unfold V6;omega)
  have eLo:Qv .u64 (l:Int) ((64-s:Nat):Int)=((l/2^(64-s):Nat):Int):=by
    rw[bJ (64-s) (by rw[hbits];omega),Int.natCast_ediv]
  have eU:Lm .or .u64 (Sz .u64 (m:Int) (s:Int)) (Qv .u64 (l:Int) ((64-s:Nat):Int))=((m*2^s+l/2^(64-s):Nat):Int):=by
    rw[eHi,eLo,Af3 s (by unfold V6;omega) (by omega) (by rw[←Int.natCast_emod];simp) (by exact_mod_cast hld) (by unfold V6;omega)]
    exact(Int.natCast_add _ _).symm
  have eL:Sz .u64 (l:Int) (s:Int)=((l*2^s%18446744073709551616:Nat):Int):=by
    rw[Abu s (by rw[hbits];omega),wu64,←Int.natCast_mul,Int.natCast_emod];rfl
  rw[eY,eU,eL]
  have hT:((m:Int)*18446744073709551616+l)*((2^s:Nat):Int)=((m*2^s+l/2^(64-s):Nat):Int)*18446744073709551616+((l*2^s%18446744073709551616:Nat):Int):=by
    rw[←hldm]
    have:=Nat.div_add_mod (l*2^s) 18446744073709551616
    have e1:((m:Int)*18446744073709551616+l)*((2^s:Nat):Int)=((m*2^s:Nat):Int)*18446744073709551616+((l*2^s:Nat):Int):=by
      rw[Int.add_mul,Int.natCast_mul,Int.natCast_mul,Int.mul_right_comm]
    rw[e1];omega
  have hUlt:m*2^s+l/2^(64-s)<n*2^s:=by omega
  have eY2:(n:Int)*((2^s:Nat):Int)=((n*2^s:Nat):Int):=(Int.natCast_mul _ _).symm
  have hE:=fun q1 q0 h1 h2=>An1 (hi:=(m:Int)) (lo:=(l:Int)) (y:=(n:Int)) (p:=((2^s:Nat):Int)) (q1:=q1) (q0:=q0) (by omega) (by exact_mod_cast hp) hT h1 h2
  rw[eY2] at hE⊢
  generalize hUn:m*2^s+l/2^(64-s)=Un at*
  generalize hLn:l*2^s%18446744073709551616=Ln at*
  have hLn64:Ln<18446744073709551616:=by rw[←hLn];exact Nat.mod_lt _ (by decide)
  generalize hYn:n*2^s=Yn at*
  clear hT eU eL eHi eLo eY hUn hLn hYn
  generalize hU:(Un:Int)=U at*
  generalize hL:(Ln:Int)=L at*
  generalize hY:(Yn:Int)=Y at*
  have a0:0≤U∧U<Y∧9223372036854775808≤Y∧Y<18446744073709551616∧0≤L∧L<18446744073709551616:=by omega
  obtain⟨a1,a2,a3,a4,a5,a6⟩:=a0
  rw[gX (show V6 Y by unfold V6;omega),gX (show V6 L by unfold V6;omega)]
  simp only[yD]
  have y1:2147483648≤Y/4294967296:=by omega
  have y2:Y/4294967296<4294967296:=by omega
  have y3:0≤Y%4294967296∧Y%4294967296<4294967296:=by omega
  have y4:Y/4294967296*4294967296+Y%4294967296=Y:=by omega
  have l1:0≤L/4294967296∧L/4294967296<4294967296:=by omega
  have l2:0≤L%4294967296∧L%4294967296<4294967296:=by omega
  generalize Y/4294967296=Y1 at*
  generalize Y%4294967296=Y0 at*
  generalize L/4294967296=L1 at*
  generalize L%4294967296=L0 at*
  subst y4
  rw[Vg (by omega),Vg (by decide),Vg (by omega),Vg (by omega),Vg (by omega),Vg (by decide),Pg (by omega)]
  have st: ∀{V:Int},0≤V→V<Y1*4294967296+Y0→wrap .u64 (Int.tdiv V Y1)=V/Y1∧wrap .u64 (V-wrap .u64 (V/Y1*Y1))=V-V/Y1*Y1:=fun{V} hV hVY=>by
    have e:=Int.mul_ediv_add_emod V Y1
    have e1:=Int.emod_nonneg V (b:=Y1) (by omega)
    have e2:=Int.emod_lt_of_pos V (b:=Y1) (by omega)
    rw[Int.mul_comm] at e
    have e3:=Int.ediv_nonneg hV (show 0≤Y1 by omega)
    have e4:=Int.ediv_le_self Y1 hV
    rw[Int.tdiv_eq_ediv_of_nonneg hV]
    exact⟨Lp (by unfold V6;omega),by simp only[wu64];omega⟩
  refine Cc.by (fun z w'=>w=w'∧z=((U*4294967296+L1)/(Y1*4294967296+Y0),())) ?_ ?_
  · obtain⟨s1,s2⟩:=st a1 a2
    rw[s1,s2]
    refine Ci.by (fun z w'=>w=w'∧DvI U L1 Y1 Y0 z.1 z.2.1) (fun z=>z.1.toNat) ⟨rfl,yY y1 y2 y3 a1 l1⟩ ?_
    rintro⟨q,r,u⟩ w' ⟨rfl,i⟩ _
    obtain⟨t1,t2⟩:=Ac2 y1 y2 y3 a1 a2 l1 i
    refine Cc.by (fun _ w''=>w=w''∧(q≥4294967296∨wrap .u64 (q*Y0)>wrap .u64 (wrap .u64 (4294967296*r)+L1))) ?_ ?_
    · rw[Ih];split
      · rename_i h;exact⟨rfl,.inl (by simpa using h)⟩
      · rename_i h;rw[Ih];split
        · rename_i h;exact⟨rfl,.inr (by simpa using h)⟩
        · rename_i g;exact⟨rfl,by rw[t2 (by simpa using h) (by simpa using g)]⟩
    · rintro _ w'' ⟨rfl,hc⟩ _
      obtain⟨v1,v2,v3,v4,v5⟩:=t1 hc
      rw[v1,v2,Ih];split
      · rename_i g;exact⟨rfl,by rw[v3 (by simpa using g)]⟩
      · rename_i g;exact⟨⟨rfl,v4 (by simpa using g)⟩,v5⟩
  rintro z w1 ⟨rfl,rfl⟩ _
  have hQ1:=Aig y1 y3.1 a1 a2 l1
  have hR1:=Int.emod_nonneg (U*4294967296+L1) (b:=Y1*4294967296+Y0) (by omega)
  have hR2:=Int.emod_lt_of_pos (U*4294967296+L1) (b:=Y1*4294967296+Y0) (by omega)
  have hR3:=Int.mul_ediv_add_emod (U*4294967296+L1) (Y1*4294967296+Y0)
  rw[Int.mul_comm] at hR3
  have hE:=fun q0=>hE _ q0 rfl
  simp only
  generalize hQ:(U*4294967296+L1)/(Y1*4294967296+Y0)=Q1 at*
  have eV:wrap .u64 (wrap .u64 (wrap .u64 (U*4294967296)+L1)-wrap .u64 (Q1*(Y1*4294967296+Y0)))=U*4294967296+L1-Q1*(Y1*4294967296+Y0):=by
    simp only[wu64];omega
  rw[eV]
  generalize hV:U*4294967296+L1-Q1*(Y1*4294967296+Y0)=V at*
  have v1:0≤V:=by omega
  have v2:V<Y1*4294967296+Y0:=by omega
  rw[Pg (by omega)]
  refine Cc.by (fun z w'=>w=w'∧z=((V*4294967296+L0)/(Y1*4294967296+Y0),())) ?_ ?_
  · obtain⟨s1,s2⟩:=st v1 v2
    rw[s1,s2]
    refine Ci.by (fun z w'=>w=w'∧DvI V L0 Y1 Y0 z.2.1 z.1) (fun z=>z.2.1.toNat) ⟨rfl,yY y1 y2 y3 v1 l2⟩ ?_
    rintro⟨r,q,u⟩ w' ⟨rfl,i⟩ _
    obtain⟨t1,t2⟩:=Ac2 y1 y2 y3 v1 v2 l2 i
    refine Cc.by (fun _ w''=>w=w''∧(q≥4294967296∨wrap .u64 (q*Y0)>wrap .u64 (wrap .u64 (4294967296*r)+L0))) ?_ ?_
    · rw[Ih];split
      · rename_i h;exact⟨rfl,.inl (by simpa using h)⟩
      · rename_i h;rw[Ih];split
        · rename_i h;exact⟨rfl,.inr (by simpa using h)⟩
        · rename_i g;exact⟨rfl,by rw[t2 (by simpa using h) (by simpa using g)]⟩
    · rintro _ w'' ⟨rfl,hc⟩ _
      obtain⟨v1,v2,v3,v4,v5⟩:=t1 hc
      rw[v1,v2,Ih];split
      · rename_i g;exact⟨rfl,by rw[v3 (by simpa using g)]⟩
      · rename_i g;exact⟨⟨rfl,v4 (by simpa using g)⟩,v5⟩
  rintro z w2 ⟨rfl,rfl⟩ _
  have hQ2:=Aig y1 y3.1 v1 v2 l2
  have hS1:=Int.emod_nonneg (V*4294967296+L0) (b:=Y1*4294967296+Y0) (by omega)
  have hS2:=Int.emod_lt_of_pos (V*4294967296+L0) (b:=Y1*4294967296+Y0) (by omega)
  have hS3:=Int.mul_ediv_add_emod (V*4294967296+L0) (Y1*4294967296+Y0)
  rw[Int.mul_comm] at hS3
  obtain⟨k1,k2⟩:=hE _ rfl
  simp only
  generalize hQ':(V*4294967296+L0)/(Y1*4294967296+Y0)=Q0 at*
  have eW:wrap .u64 (wrap .u64 (wrap .u64 (V*4294967296)+L0)-wrap .u64 (Q0*(Y1*4294967296+Y0)))=V*4294967296+L0-Q0*(Y1*4294967296+Y0):=by
    simp only[wu64];omega
  have eX:wrap .u64 (wrap .u64 (Q1*4294967296)+Q0)=Q1*4294967296+Q0:=by
    simp only[wu64];omega
  rw[Vg (by omega),eW,eX,bJ s (by rw[hbits];omega),←k1,←k2]
  exact h _ (Af.refl _)
def mdB(a b c:Int):Bool:=!decide (c<1)&&decide (I64 (a*b/c))
def mdV(a b c:Int):Int:=if mdB a b c=true then a*b/c else 0
theorem Aju{a b c:Int}(h:c<1):mdV a b c=0∧mdB a b c=false:=by
  have:mdB a b c=false:=by simp[mdB,h]
  exact⟨by simp[mdV,this],this⟩
theorem oO{a b c:Int}(h: ¬I64 (a*b/c)):mdV a b c=0∧mdB a b c=false:=by
  have:mdB a b c=false:=by simp[mdB,h]
  exact⟨by simp[mdV,this],this⟩
theorem xW{a b c v:Int}(hc: ¬c<1)(e:a*b/c=v)(h:I64 v):mdV a b c=v∧mdB a b c=true:=by
  subst e
  have:mdB a b c=true:=by simp[mdB,h];omega
  exact⟨by simp[mdV,this],this⟩
theorem Ade{a b:Int}(h:(decide (a<0)==decide (b<0))=true):a*b=(a.natAbs:Int)*(b.natAbs:Int):=by
  simp only[beq_iff_eq,decide_eq_decide] at h
  by_cases h1:a<0
  · have h2:=h.1 h1
    have e1:(a.natAbs:Int)= -a:=by omega
    have e2:(b.natAbs:Int)= -b:=by omega
    rw[e1,e2,Int.neg_mul_neg]
  · have h2: ¬b<0:=fun x=>h1 (h.2 x)
    have e1:(a.natAbs:Int)=a:=by omega
    have e2:(b.natAbs:Int)=b:=by omega
    rw[e1,e2]
theorem Ac6{a b:Int}(h: ¬(decide (a<0)==decide (b<0))=true):a*b= -((a.natAbs:Int)*(b.natAbs:Int)):=by
  simp only[beq_iff_eq,decide_eq_decide] at h
  by_cases h1:a<0
  · have h2: ¬b<0:=fun x=>h ⟨fun _=>x,fun _=>h1⟩
    have e1:(a.natAbs:Int)= -a:=by omega
    have e2:(b.natAbs:Int)=b:=by omega
    rw[e1,e2,Int.neg_mul,Int.neg_neg]
  · have h2:b<0:=by
      by_cases x:b<0
      · exact x
      · exact absurd ⟨fun y=>absurd y h1,fun y=>absurd y x⟩ h
    have e1:(a.natAbs:Int)=a:=by omega
    have e2:(b.natAbs:Int)= -b:=by omega
    rw[e1,e2,Int.mul_neg,Int.neg_neg]
theorem Adh{P c:Int}(hc:0<c): -P/c=if P%c>0 then-(P/c)-1 else-(P/c):=by
  have e:=Int.mul_ediv_add_emod P c
  have e1:=Int.emod_nonneg P (b:=c) (by omega)
  have e2:=Int.emod_lt_of_pos P hc
  split
  · refine((Int.ediv_emod_unique hc (r:=c-P%c)).2 ⟨?_,by omega,by omega⟩).1
    rw[Int.mul_sub,Int.mul_neg];omega
  · refine((Int.ediv_emod_unique hc (r:=0)).2 ⟨?_,by omega,by omega⟩).1
    rw[Int.mul_neg];omega
theorem Aha{a:Int}(h:I64 a):0≤(a.natAbs:Int)∧(a.natAbs:Int)≤9223372036854775808:=by unfold I64 at h;omega
theorem Adl{a:Int}(h:I64 a):V6 (a.natAbs:Int):=by unfold I64 at h;unfold V6;omega
theorem Vl.cl{a b c:Int}(ha:I64 a)(hb:I64 b)(hc:I64 c){w:World}{k:TR [(false,[KI]),(false,[.b])]→WP}
    (h: ∀w',Af w w'→k ((mdV a b c,()),(mdB a b c,()),()) w'):
    Ae prog F.Vl [iV a,iV b,iV c] w true [(false,[KI]),(false,[.b])] k:=by
  refine Vl.ok ?_
  unfold Vl.wp
  rw[Ih];split
  · rename_i h1
    have h1:c<1:=by simpa using h1
    have:=h w (Af.refl w);rw[(Aju h1).1,(Aju h1).2] at this;exact this
  rename_i h1
  have h1: ¬c<1:=by simpa using h1
  have wc:wrap .u64 c=c:=Lp (by unfold V6;unfold I64 at hc;omega)
  refine V8.cl ha (V8.cl hb ?_)
  have A:=Aha ha
  have B:=Aha hb
  refine bits_Mul64.cl (Adl ha) (Adl hb) ?_
  have PB:=Yp A.1 A.2 B.1 B.2
  have hs:=@Ade a b
  have hd:=@Ac6 a b
  simp only[wc]
  generalize hP:(a.natAbs:Int)*(b.natAbs:Int)=P at*
  have e:=Int.mul_ediv_add_emod P c
  have e1:=Int.emod_nonneg P (b:=c) (by omega)
  have e2:=Int.emod_lt_of_pos P (b:=c) (by omega)
  have e3:=Int.ediv_nonneg PB.1 (show 0≤c by omega)
  have nd:=Adh (P:=P) (c:=c) (by omega)
  have lose: ¬I64 (a*b/c)→ ∀w',Af w w'→k ((0,()),(false,()),()) w':=fun x w' g=>by
    have:=h w' g;rw[(oO x).1,(oO x).2] at this;exact this
  have win: ∀v,a*b/c=v→I64 v→ ∀w',Af w w'→k ((v,()),(true,()),()) w':=fun v x y w' g=>by
    have:=h w' g;rw[(xW h1 x y).1,(xW h1 x y).2] at this;exact this
  rw[Ih];split
  · rename_i g
    have g:c≤P/18446744073709551616:=by simpa using g
    refine lose ?_ w (Af.refl w)
    have:18446744073709551616≤P/c:=Int.le_ediv_of_mul_le (by omega) (by omega)
    unfold I64
    by_cases x:(decide (a<0)==decide (b<0))=true
    · rw[hs x];omega
    · rw[hd x,nd];split<;>omega
  rename_i g
  have g:P/18446744073709551616<c:=by simpa using g
  refine Vk.cl (by unfold V6;omega) (by unfold V6;omega) (by unfold V6;unfold I64 at hc;omega) g fun w1 g1=>?_
  have eP:P/18446744073709551616*18446744073709551616+P%18446744073709551616=P:=by omega
  simp only[eP]
  have e4:P/c<18446744073709551616:=Int.ediv_lt_of_lt_mul (by omega) (by omega)
  generalize hq:P/c=q at*
  generalize P%c=r at*
  rw[Ih];split
  · rename_i x
    have hs:=hs x
    rw[hs,hq] at win lose
    rw[Ih];split
    · rename_i y;have y:9223372036854775807<q:=by simpa using y
      exact lose (by unfold I64;omega) w1 g1
    · rename_i y;have y: ¬9223372036854775807<q:=by simpa using y
      rw[Ah (by unfold I64;omega)]
      exact win q (by omega) (by unfold I64;omega) w1 g1
  rename_i x
  have hd:=hd x
  rw[hd,nd] at win lose
  refine Cc.by (fun z w'=>w1=w'∧z=(if r>0 then q+1 else q,())∧z.1<18446744073709551616) ?_ ?_
  · rw[Ih];split
    · rename_i y;have y:0<r:=by simpa using y
      rw[if_pos y] at lose
      rw[Ih];split
      · rename_i z;have z:wrap .u64 (q+1)=0:=by simpa using z
        rw[wu64] at z
        exact lose (by unfold I64;omega) w1 g1
      · rename_i z;have z: ¬wrap .u64 (q+1)=0:=by simpa using z
        rw[wu64] at z
        have e:wrap .u64 (q+1)=q+1:=by rw[wu64];omega
        rw[e]
        exact⟨rfl,by first|rfl|rw[if_pos y],by show q+1<_;omega⟩
    · rename_i y;have y: ¬0<r:=by simpa using y
      exact⟨rfl,by rw[if_neg y],e4⟩
  rintro z w' ⟨rfl,rfl,hz⟩ _
  have e5:(if r>0 then-q-1 else-q)= -(if r>0 then q+1 else q):=by split<;>omega
  rw[e5] at win lose
  have e6:0≤(if r>0 then q+1 else q):=by split<;>omega
  simp only at hz⊢
  generalize (if r>0 then q+1 else q)=v at*
  rw[Ih];split
  · rename_i y;have y:9223372036854775808<v:=by simpa using y
    exact lose (by unfold I64;omega) w1 g1
  · rename_i y;have y: ¬9223372036854775808<v:=by simpa using y
    have e7:wrap .i64 (wrap .u64 (0-v))= -v:=by rw[wu64,kJ];omega
    rw[e7]
    exact win (-v) rfl (by unfold I64;omega) w1 g1
end Go.Proofs.YticgocmhmffneaaGreatDoor
