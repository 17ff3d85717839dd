import Derived.Test.YtppeepkmnijdpaaGreatDoorEngX
import Derived.Test.YtppeepkmnijdpaaGreatDoorEngY
import Derived.Test.YtppeepkmnijdpaaGreatDoorSh
namespace Go.Proofs.YtppeepkmnijdpaaGreatDoor
open Go Go.Eng Tryz
open Go.IntKind (wrap)
set_option linter.unusedSimpArgs false
set_option linter.unusedVariables false
set_option maxRecDepth 100000
set_option maxHeartbeats 8000000
theorem As0{k:IntKind}{n:Nat}(hk:k.bits=n)(hw: ∀x:Nat,x<2^n→k.wrap (x:Int)=x){a b:Nat}(ha:a<2^n)(hb:b<2^n):Ez .xor k (a:Int) (b:Int)=((a^^^b:Nat):Int):=by
 subst hk
 unfold Ez
 simp only[BitVec.ofInt_natCast,BitVec.toNat_xor,BitVec.toNat_ofNat,Nat.mod_eq_of_lt ha,Nat.mod_eq_of_lt hb]
 exact hw _ (Nat.xor_lt_two_pow ha hb)
theorem Aq6{k:IntKind}{n:Nat}(hk:k.bits=n)(hw: ∀x:Nat,x<2^n→k.wrap (x:Int)=x){a b:Nat}(ha:a<2^n)(hb:b<2^n):Ez .and k (a:Int) (b:Int)=((a&&&b:Nat):Int):=by
 subst hk
 unfold Ez
 simp only[BitVec.ofInt_natCast,BitVec.toNat_and,BitVec.toNat_ofNat,Nat.mod_eq_of_lt ha,Nat.mod_eq_of_lt hb]
 exact hw _ (Nat.and_lt_two_pow _ hb)
theorem Awc(x:Nat)(h:x<2^16):wrap .u16 (x:Int)=x:=by rw[Ad0];omega
theorem Aqv{a b:Nat}(ha:a<65536)(hb:b<65536):Ez .xor .u16 (a:Int) (b:Int)=((a^^^b:Nat):Int):=As0 (n:=16) rfl Awc ha hb
theorem Av7{a:Nat}(ha:a<65536):(Ez .and .u16 (a:Int) 32768 !=0)=decide (32768≤a):=by
 have h:=Aq6 (k:=.u16) (n:=16) rfl Awc (a:=a) (b:=32768) ha (by decide)
 rw[show((32768:Int))=((32768:Nat):Int) from rfl,h]
 have e:a&&&32768=if 32768≤a then 32768 else 0:=by
  have tb:a.testBit 15=decide (32768≤a):=by
   rw[Nat.testBit_eq_decide_div_mod_eq]
   congr 1
   apply propext
   constructor<;>intro h<;>omega
  apply Nat.eq_of_testBit_eq
  intro i
  rw[Nat.testBit_and,show(32768:Nat)=2^15 from rfl,Nat.testBit_two_pow]
  by_cases hi:15=i
  ·subst hi
   rw[tb]
   by_cases hc:32768≤a
   ·rw[if_pos (by simpa using hc)];simp[hc];rfl
   ·rw[if_neg (by simpa using hc)];simp[hc]
  ·have hz:Nat.testBit 32768 i=false:=by rw[show(32768:Nat)=2^15 from rfl,Nat.testBit_two_pow];simp[hi]
   split<;>simp[hi,hz]
 rw[e]
 by_cases hc:32768≤a<;>simp[hc]
theorem Au2{a:Nat}(ha:a<65536):Ib .u16 (a:Int) 1=((a*2%65536:Nat):Int):=by
 unfold Ib
 rw[Ad0]
 simp[IntKind.bits]
theorem Api(a y:Nat):(a^^^y)*2%65536=(a*2%65536)^^^(y*2%65536):=by
 have h: ∀n:Nat,n*2=n<<<1:=λn=>by simp[Nat.shiftLeft_eq]
 rw[h,h,h,Nat.shiftLeft_xor_distrib,show(65536:Nat)=2^16 from rfl,Nat.xor_mod_two_pow]
theorem Apk{a y:Nat}(ha:a<65536)(hy:y<65536):32768≤(a^^^y)↔a/32768≠y/32768:=by
 have key: ∀n:Nat,n<65536→(n.testBit 15=true↔32768≤n):=λn hn=>by
  rw[Nat.testBit_eq_decide_div_mod_eq]
  simp only[decide_eq_true_eq]
  omega
 have hx:a^^^y<65536:=Nat.xor_lt_two_pow (n:=16) ha hy
 rw[←key _ hx,Nat.testBit_xor]
 have k1:=key a ha
 have k2:=key y hy
 cases h1:a.testBit 15<;>cases h2:y.testBit 15<;>simp[h1,h2] at k1 k2⊢ <;>omega
def iM(s:Nat):Nat:=(s*2%65536)^^^(if 32768≤s then 4129 else 0)
def pF(s bit:Nat):Nat:=(s*2%65536)^^^(if s/32768≠bit then 4129 else 0)
theorem Af8{s:Nat}:iM s<65536:=Nat.xor_lt_two_pow (n:=16) (by omega) (by split<;>omega)
theorem Zl{s b:Nat}:pF s b<65536:=Nat.xor_lt_two_pow (n:=16) (by omega) (by split<;>omega)
theorem fJ{b y:Nat}(hb:b<65536)(hy:y<65536):iM (b^^^y)=pF b (y/32768)^^^(y*2%65536):=by
 unfold iM pF
 rw[Api]
 have:=Apk hb hy
 by_cases h:32768≤(b^^^y)
 ·rw[if_pos h,if_pos (this.1 h),Nat.xor_assoc,Nat.xor_assoc,Nat.xor_comm (y*2%65536)]
 ·rw[if_neg h,if_neg (λc=>h (this.2 c))];simp
def Ahy(s x:Nat):Nat:=iM (iM (iM (iM (iM (iM (iM (iM (s^^^(x*256)))))))))
def Aul(s x:Nat):Nat:=pF (pF (pF (pF (pF (pF (pF (pF s (x/128%2)) (x/64%2)) (x/32%2)) (x/16%2)) (x/8%2)) (x/4%2)) (x/2%2)) (x%2)
theorem An5{s x:Nat}:Ahy s x<65536:=Af8
theorem Av4{s x:Nat}(hs:s<65536)(hx:x<256):Ahy s x=Aul s x:=by
 unfold Ahy Aul
 rw[fJ hs (by omega),show x*256/32768=x/128%2 by omega]
 rw[fJ Zl (by omega),show x*256*2%65536/32768=x/64%2 by omega]
 rw[fJ Zl (by omega),show x*256*2%65536*2%65536/32768=x/32%2 by omega]
 rw[fJ Zl (by omega),show x*256*2%65536*2%65536*2%65536/32768=x/16%2 by omega]
 rw[fJ Zl (by omega),show x*256*2%65536*2%65536*2%65536*2%65536/32768=x/8%2 by omega]
 rw[fJ Zl (by omega),show x*256*2%65536*2%65536*2%65536*2%65536*2%65536/32768=x/4%2 by omega]
 rw[fJ Zl (by omega),show x*256*2%65536*2%65536*2%65536*2%65536*2%65536*2%65536/32768=x/2%2 by omega]
 rw[fJ Zl (by omega),show x*256*2%65536*2%65536*2%65536*2%65536*2%65536*2%65536*2%65536/32768=x%2 by omega]
 rw[show x*256*2%65536*2%65536*2%65536*2%65536*2%65536*2%65536*2%65536*2%65536=0 by omega]
 simp
def rIt:Nat→Nat→Nat→Nat
 |0,s,_=>s
 |j+1,s,x=>pF (rIt j s x) (x/2^(7-j)%2)
theorem Axr{s x:Nat}(h:s<65536): ∀j,rIt j s x<65536
 |0=>h
 |_+1=>Zl
def Xi(s:Nat)(xs:List Nat):Nat:=xs.foldl Ahy s
theorem pY: ∀{s:Nat} (hs:s<65536) (xs:List Nat),Xi s xs<65536
 |s,hs,[]=>hs
 |s,hs,x::xs=>pY (s:=Ahy s x) An5 xs
theorem Ajf(s:Nat)(xs ys:List Nat):Xi s (xs++ys)=Xi (Xi s xs) ys:=by unfold Xi;rw[List.foldl_append]
def dW(n v:Nat):List Nat:=(List.range n).map λi=>v/256^(n-1-i)%256
theorem tX(n v:Nat):(dW n v).length=n:=by simp[dW]
theorem Ao1{n v:Nat}: ∀x∈dW n v,x<256:=by
 intro x hx
 simp only[dW,List.mem_map] at hx
 obtain⟨i,_,rfl⟩:=hx
 exact Nat.mod_lt _ (by decide)
def wZ(xs:List Nat):List Nat:=xs++[Xi 65535 xs/256,Xi 65535 xs%256]
def jY(fs:List E3):List Nat:=fs.flatMap λf=>dW f.1.toNat (wrap .u64 f.2.1).toNat
def wB(kind:Nat)(fs:List E3):List Nat:=wZ (kind::jY fs)
abbrev uY(xs:List Nat):List Value:=xs.map λ(x:Nat)=>Value.int .u8 (x:Int)
abbrev dC(w:World)(s:Sl)(xs:List Nat):Prop:=Row w s 1 (uY xs)
abbrev OwnB(w:World)(base:Nat)(s:Sl)(xs:List Nat):Prop:=Dp w base T.uint8 1 s xs.length (uY xs)
def pG(xs:List Nat):Prop:= ∀x∈xs,x<256
abbrev Ah6:List (Bool×List CK):=[(false,[KU])]
abbrev pX:List (Bool×List CK):=[(false,[.sl])]
theorem gY(xs:List Nat): ∀u∈uY xs,u.oneCell'=true:=by
 intro u hu
 simp only[uY,List.mem_map] at hu
 obtain⟨x,_,rfl⟩:=hu;rfl
theorem Afr{xs:List Nat}{i x:Nat}(h:xs[i]? =some x):(uY xs)[i]? =some (.int .u8 (x:Int)):=by
 rw[List.getElem?_map,h];rfl
theorem dC.len'{w:World}{s:Sl}{xs:List Nat}(h:dC w s xs):s.2.1=xs.length:=by have:=h.Ab2;simpa using this
def itN:Nat→Nat→Nat
 |0,s=>s
 |n+1,s=>iM (itN n s)
theorem Ar4{s:Nat}(h:s<65536): ∀n,itN n s<65536
 |0=>h
 |_+1=>Af8
theorem Aw2{x:Nat}(h:x<256):Ib .u16 (wrap .u16 (x:Int)) 8=((x*256:Nat):Int):=by
 unfold Ib
 rw[Ad0,Ad0]
 simp only[IntKind.bits]
 show(((x:Int)%65536)*2^8)%65536=_
 omega
theorem Yg.cl{s x:Nat}(hs:s<65536)(hx:x<256){w:World}{k:TR Ah6→WP}(h:k ((((Ahy s x:Nat):Int),()),()) w):Ad prog F.Yg [uV (s:Int),.int .u8 (x:Int)] w false Ah6 k:=by
 refine Yg.ok ?_
 rw[Nj (by decide)]
 have h0:s^^^(x*256)<65536:=Nat.xor_lt_two_pow (n:=16) hs (by omega)
 refine Aw.by (λz W=>W=w∧ ∃i:Nat,i≤8∧z=(((itN i (s^^^(x*256)):Nat):Int),((i:Nat):Int),())) (λz=>(8-z.2.1).toNat) ⟨rfl,0,by omega,?_⟩ ?_
 ·rw[Aw2 hx,Aqv hs (by omega)];rfl
 ·rintro z W ⟨rfl,i,hi,rfl⟩ _
  refine Cf (λc=>?_) λc=>?_
  ·have c:(i:Int)<8:=c
   have hl:=Ar4 h0 i
   rw[Nj (by decide)]
   simp only[]
   rw[Av7 hl,Au2 hl]
   have w1:wrap .i64 ((i:Int)+1)=((i+1:Nat):Int):=by rw[Af (by unfold I64;omega)];omega
   rw[w1]
   refine Cf (λd=>⟨⟨trivial,i+1,by omega,?_⟩,?_⟩) λd=>⟨⟨trivial,i+1,by omega,?_⟩,?_⟩
   ·have e:=Aqv (a:=itN i (s^^^(x*256))*2%65536) (b:=4129) (by omega) (by decide)
    have e:Ez .xor .u16 ((itN i (s^^^(x*256))*2%65536:Nat):Int) 4129=_:=e
    rw[e]
    show _=(((iM (itN i (s^^^(x*256))):Nat):Int),_)
    unfold iM;rw[if_pos d]
   ·show(8-((i+1:Nat):Int)).toNat<(8-(i:Int)).toNat;omega
   ·show _=(((iM (itN i (s^^^(x*256))):Nat):Int),_)
    unfold iM;rw[if_neg d,Nat.xor_zero]
   ·show(8-((i+1:Nat):Int)).toNat<(8-(i:Int)).toNat;omega
  ·have c: ¬(i:Int)<8:=c
   have:i=8:=by omega
   subst this
   exact h
theorem Y5.cl{s:Nat}{xs:List Nat}(hs:s<65536)(hx:pG xs){b:Sl}{w:World}(hR:dC w b xs)(hl:xs.length≤1000000){k:TR Ah6→WP}(h:k ((((Xi s xs:Nat):Int),()),()) w):Ad prog F.Y5 [uV (s:Int),.slice b.1 b.2.1 b.2.2] w false Ah6 k:=by
 refine Y5.ok ?_
 have hn:=hR.len'
 refine Aw.by (λz W=>W=w∧ ∃i:Nat,i≤xs.length∧z=(((Xi s (xs.take i):Nat):Int),((i:Nat):Int),())) (λz=>((xs.length:Int)-z.2.1).toNat) ⟨rfl,0,by omega,rfl⟩ ?_
 rintro z W ⟨rfl,i,hi,rfl⟩ _
 refine Cf (λc=>?_) λc=>?_
 ·have c:(i:Int)<(b.2.1:Int):=c
  have hi':i<xs.length:=by omega
  refine hR.ixc (z:=(i:Int)) rfl (Afr (List.getElem?_eq_getElem hi')) (Ko _ _) (Yg.cl (pY hs _) (hx _ (List.getElem_mem hi')) ⟨⟨rfl,i+1,by omega,?_⟩,?_⟩)
  ·have e:xs.take (i+1)=xs.take i++[xs[i]]:=by simp
   show(_,wrap .i64 ((i:Int)+1),())=_
   rw[e,Ajf,Af (by unfold I64;omega)]
   show _=(((Xi (Xi s (xs.take i)) [xs[i]]:Nat):Int),((i:Int)+1),())
   rfl
  ·show((xs.length:Int)-wrap .i64 ((i:Int)+1)).toNat<((xs.length:Int)-(i:Int)).toNat
   rw[Af (by unfold I64;omega)];omega
 ·have c: ¬(i:Int)<(b.2.1:Int):=c
  have:i=xs.length:=by omega
  subst this
  rw[List.take_length]
  exact h
theorem Xy.cl{xs:List Nat}(hx:pG xs){b:Sl}{w:World}(hR:dC w b xs)(hl:xs.length≤1000000){k:TR Ah6→WP}(h:k ((((Xi 65535 xs:Nat):Int),()),()) w):Ad prog F.Xy [.slice b.1 b.2.1 b.2.2] w false Ah6 k:=by
 refine Xy.ok ?_
 exact Y5.cl (s:=65535) (by decide) hx hR hl h
theorem Avc{n:Nat}(h:n<65536):wrap .u8 (I7 .u16 (n:Int) 8)=((n/256:Nat):Int)∧wrap .u8 (n:Int)=((n%256:Nat):Int):=by
 constructor
 ·rw[show I7 .u16 (n:Int) 8=(n:Int)/256 from dH (k:=.u16) 8 (by decide),IntKind.wrap_u8];omega
 ·rw[IntKind.wrap_u8];omega
theorem Afu(a b:List Nat):uY (a++b)=uY a++uY b:=List.map_append
theorem Qh.cl{xs:List Nat}(hx:pG xs){b:Sl}{w:World}(hR:dC w b xs)(hl:xs.length≤900000){k:TR pX→WP}(h: ∀s' w',OwnB w' w.heap.size s' (wZ xs)→Ah w w'→k (((s'.1,s'.2.1,s'.2.2),()),()) w'):Ad prog F.Qh [.slice b.1 b.2.1 b.2.2] w false pX k:=by
 refine Qh.ok ?_
 have hn:=hR.len'
 refine Xy.cl hx hR (by omega) ?_
 refine bD (t:=T.D6) (e:=T.uint8) (size:=1) (bytes:=1) (z:=.int .u8 0) (l:=0) (c:=xs.length+2) (by kernel_rfl) (by kernel_rfl) rfl (by decide) rfl (by rw[Af (by unfold I64;omega)];omega) (by omega) (by omega) λp w4 e4 k4 o4 g4=>?_
 have hR4:dC w4 b xs:=hR.Ai g4
 refine S9 (s:=(some ⟨p,0,none⟩,0,xs.length+2)) (x:=b) (base:=w.heap.size) (e:=T.uint8) (size:=1) (n:=0) (xs:=[]) (news:=uY xs) (by kernel_rfl) (by kernel_rfl) (by decide) (Dp.gJ (by simpa [qV] using o4) (λa ha=>by cases ha;exact Nat.le_of_eq e4)) hR4 (gY xs) (by omega) g4.size λy w6 o6 u6 _=>?_
 have g6:Ah w w6:=Ap.trans g4 u6 λj hj ⟨a,ha,hb⟩=>by cases ha;simp only[] at hb;omega
 rw[Nj (by decide)]
 have hc:=pY (s:=65535) (by decide) xs
 have hh:=Avc hc
 simp only[]
 rw[hh.1,hh.2]
 refine Ae λq w8 e8 k8 g8=>?_
 refine S9 (s:=y) (x:=(some ⟨q,0,none⟩,2,2)) (base:=w.heap.size) (e:=T.uint8) (size:=1) (n:=0+b.2.1) (xs:=[]++uY xs) (news:=uY [Xi 65535 xs/256,Xi 65535 xs%256]) (by kernel_rfl) (by kernel_rfl) (by decide) (o6.Ai g8) (k8.row rfl) (gY _) (by show 0+b.2.1+2≤1000000000;omega) (Nat.le_trans g6.size g8.size) λy2 w10 o10 u10 _=>?_
 refine h y2 w10 ?_ (Ap.trans (g6.trans g8) u10 λj hj ⟨a,ha,hb⟩=>?_)
 ·have e:0+b.2.1+2=(wZ xs).length:=by rw[hn];simp[wZ]
  have o10:Dp w10 w.heap.size T.uint8 1 y2 (0+b.2.1+2) ([]++uY xs++uY [Xi 65535 xs/256,Xi 65535 xs%256]):=o10
  rw[e] at o10
  unfold OwnB wZ
  rw[Afu]
  exact o10
 ·have:=(o6.blk ha).1;omega
end Go.Proofs.YtppeepkmnijdpaaGreatDoor
