import Derived.Test.YticgocmhmffneaaGreatDoorEngX
import Derived.Test.YticgocmhmffneaaGreatDoorEngY
import Derived.Test.YticgocmhmffneaaGreatDoorSh
namespace Go.Proofs.YticgocmhmffneaaGreatDoor
open Go Go.Eng Tryz
open Go.IntKind (wrap)
set_option linter.unusedSimpArgs false
set_option linter.unusedVariables false
set_option maxRecDepth 100000
set_option maxHeartbeats 8000000
theorem Ami{k:IntKind}{n:Nat}(hk:k.bits=n)(hw: ∀x:Nat,x<2^n→k.wrap (x:Int)=x){a b:Nat}(ha:a<2^n)(hb:b<2^n):Lm .xor k (a:Int) (b:Int)=((a^^^b:Nat):Int):=by
 subst hk
 unfold Lm
 simp only[BitVec.ofInt_natCast,BitVec.toNat_xor,BitVec.toNat_ofNat,Nat.mod_eq_of_lt ha,Nat.mod_eq_of_lt hb]
 exact hw _ (Nat.xor_lt_two_pow ha hb)
theorem Amj{k:IntKind}{n:Nat}(hk:k.bits=n)(hw: ∀x:Nat,x<2^n→k.wrap (x:Int)=x){a b:Nat}(ha:a<2^n)(hb:b<2^n):Lm .and k (a:Int) (b:Int)=((a&&&b:Nat):Int):=by
 subst hk
 unfold Lm
 simp only[BitVec.ofInt_natCast,BitVec.toNat_and,BitVec.toNat_ofNat,Nat.mod_eq_of_lt ha,Nat.mod_eq_of_lt hb]
 exact hw _ (Nat.and_lt_two_pow _ hb)
theorem Ang(x:Nat)(h:x<2^16):wrap .u16 (x:Int)=x:=by rw[oL];omega
theorem Alv{a b:Nat}(ha:a<65536)(hb:b<65536):Lm .xor .u16 (a:Int) (b:Int)=((a^^^b:Nat):Int):=Ami (n:=16) rfl Ang ha hb
theorem Apb{a:Nat}(ha:a<65536):(Lm .and .u16 (a:Int) 32768 !=0)=decide (32768≤a):=by
 have h:=Amj (k:=.u16) (n:=16) rfl Ang (a:=a) (b:=32768) ha (by decide)
 rw[show((32768:Int))=((32768:Nat):Int) from rfl,h]
 have e:a&&&32768=if 32768≤a then 32768 else 0:=by
  have tb:a.testBit 15=decide (32768≤a):=by
   rw[Nat.testBit_eq_decide_div_mod_eq]
   congr 1
   apply propext
   constructor<;>intro h<;>omega
  apply Nat.eq_of_testBit_eq
  intro i
  rw[Nat.testBit_and,show(32768:Nat)=2^15 from rfl,Nat.testBit_two_pow]
  by_cases hi:15=i
  ·subst hi
   rw[tb]
   by_cases hc:32768≤a
   ·rw[if_pos (by simpa using hc)];simp[hc];rfl
   ·rw[if_neg (by simpa using hc)];simp[hc]
  ·have hz:Nat.testBit 32768 i=false:=by rw[show(32768:Nat)=2^15 from rfl,Nat.testBit_two_pow];simp[hi]
   split<;>simp[hi,hz]
 rw[e]
 by_cases hc:32768≤a<;>simp[hc]
theorem Ao1{a:Nat}(ha:a<65536):Sz .u16 (a:Int) 1=((a*2%65536:Nat):Int):=by
 unfold Sz
 rw[oL]
 simp[IntKind.bits]
def jB(s:Nat):Nat:=(s*2%65536)^^^(if 32768≤s then 4129 else 0)
theorem Ac3{s:Nat}:jB s<65536:=Nat.xor_lt_two_pow (n:=16) (by omega) (by split<;>omega)
def Ad8(s x:Nat):Nat:=jB (jB (jB (jB (jB (jB (jB (jB (s^^^(x*256)))))))))
theorem Akt{s x:Nat}:Ad8 s x<65536:=Ac3
def Uh(s:Nat)(xs:List Nat):Nat:=xs.foldl Ad8 s
theorem dR: ∀{s:Nat} (hs:s<65536) (xs:List Nat),Uh s xs<65536
 |s,hs,[]=>hs
 |s,hs,x::xs=>dR (s:=Ad8 s x) Akt xs
theorem Abc(s:Nat)(xs ys:List Nat):Uh s (xs++ys)=Uh (Uh s xs) ys:=by unfold Uh;rw[List.foldl_append]
def Ym(n v:Nat):List Nat:=(List.range n).map λi=>v/256^(n-1-i)%256
theorem Al9(n v:Nat):Ym (n+1) v=Ym n (v/256)++[v%256]:=by
 unfold Ym
 rw[List.range_succ,List.map_append]
 congr 1
 ·apply List.map_congr_left
  intro i hi
  have:=List.mem_range.1 hi
  rw[show n+1-1-i=(n-1-i)+1 by omega,Nat.pow_succ,Nat.mul_comm,Nat.div_div_eq_div_mul]
 ·simp
theorem Zk(n v:Nat):(Ym n v).length=n:=by simp[Ym]
theorem Ak1{n v:Nat}: ∀x∈Ym n v,x<256:=by
 intro x hx
 simp only[Ym,List.mem_map] at hx
 obtain⟨i,_,rfl⟩:=hx
 exact Nat.mod_lt _ (by decide)
def kT(xs:List Nat):List Nat:=xs++[Uh 65535 xs/256,Uh 65535 xs%256]
def Vb(fs:List E3):List Nat:=fs.flatMap λf=>Ym f.1.toNat (wrap .u64 f.2.1).toNat
def aK(kind:Nat)(fs:List E3):List Nat:=kT (kind::Vb fs)
abbrev dV(xs:List Nat):List Value:=xs.map λ(x:Nat)=>Value.int .u8 (x:Int)
abbrev Ur(w:World)(s:Sl)(xs:List Nat):Prop:=Row w s 1 (dV xs)
abbrev OwnB(w:World)(base:Nat)(s:Sl)(xs:List Nat):Prop:=Gs w base T.uint8 1 s xs.length (dV xs)
def eH(xs:List Nat):Prop:= ∀x∈xs,x<256
abbrev sZ:List (Bool×List CK):=[(false,[KU])]
abbrev jG:List (Bool×List CK):=[(false,[.sl])]
theorem Za(xs:List Nat): ∀u∈dV xs,u.oneCell'=true:=by
 intro u hu
 simp only[dV,List.mem_map] at hu
 obtain⟨x,_,rfl⟩:=hu;rfl
theorem aW{xs:List Nat}{i x:Nat}(h:xs[i]? =some x):(dV xs)[i]? =some (.int .u8 (x:Int)):=by
 rw[List.getElem?_map,h];rfl
theorem Ur.len'{w:World}{s:Sl}{xs:List Nat}(h:Ur w s xs):s.2.1=xs.length:=by have:=h.Abk;simpa using this
def itN:Nat→Nat→Nat
 |0,s=>s
 |n+1,s=>jB (itN n s)
theorem Al6{s:Nat}(h:s<65536): ∀n,itN n s<65536
 |0=>h
 |_+1=>Ac3
theorem Aqu{x:Nat}(h:x<256):Sz .u16 (wrap .u16 (x:Int)) 8=((x*256:Nat):Int):=by
 unfold Sz
 rw[oL,oL]
 simp only[IntKind.bits]
 show(((x:Int)%65536)*2^8)%65536=_
 omega
theorem Xr.cl{s x:Nat}(hs:s<65536)(hx:x<256){w:World}{k:TR sZ→WP}(h:k ((((Ad8 s x:Nat):Int),()),()) w):Ae prog F.Xr [uV (s:Int),.int .u8 (x:Int)] w false sZ k:=by
 refine Xr.ok ?_
 unfold Xr.wp
 rw[Vg (by decide)]
 have h0:s^^^(x*256)<65536:=Nat.xor_lt_two_pow (n:=16) hs (by omega)
 refine Ci.by (λz W=>W=w∧ ∃i:Nat,i≤8∧z=(((itN i (s^^^(x*256)):Nat):Int),((i:Nat):Int),())) (λz=>(8-z.2.1).toNat) ⟨rfl,0,by omega,?_⟩ ?_
 ·rw[Aqu hx,Alv hs (by omega)];rfl
 ·rintro z W ⟨rfl,i,hi,rfl⟩ _
  refine Dx (λc=>?_) λc=>?_
  ·have c:(i:Int)<8:=c
   have hl:=Al6 h0 i
   rw[Vg (by decide)]
   simp only[]
   rw[Apb hl,Ao1 hl]
   have w1:wrap .i64 ((i:Int)+1)=((i+1:Nat):Int):=by rw[Ah (by unfold I64;omega)];omega
   rw[w1]
   refine Dx (λd=>⟨⟨trivial,i+1,by omega,?_⟩,?_⟩) λd=>⟨⟨trivial,i+1,by omega,?_⟩,?_⟩
   ·have e:=Alv (a:=itN i (s^^^(x*256))*2%65536) (b:=4129) (by omega) (by decide)
    have e:Lm .xor .u16 ((itN i (s^^^(x*256))*2%65536:Nat):Int) 4129=_:=e
    rw[e]
    show _=(((jB (itN i (s^^^(x*256))):Nat):Int),_)
    unfold jB;rw[if_pos d]
   ·show(8-((i+1:Nat):Int)).toNat<(8-(i:Int)).toNat;omega
   ·show _=(((jB (itN i (s^^^(x*256))):Nat):Int),_)
    unfold jB;rw[if_neg d,Nat.xor_zero]
   ·show(8-((i+1:Nat):Int)).toNat<(8-(i:Int)).toNat;omega
  ·have c: ¬(i:Int)<8:=c
   have:i=8:=by omega
   subst this
   exact h
theorem X0.cl{s:Nat}{xs:List Nat}(hs:s<65536)(hx:eH xs){b:Sl}{w:World}(hR:Ur w b xs)(hl:xs.length≤1000000){k:TR sZ→WP}(h:k ((((Uh s xs:Nat):Int),()),()) w):Ae prog F.X0 [uV (s:Int),.slice b.1 b.2.1 b.2.2] w false sZ k:=by
 refine X0.ok ?_
 unfold X0.wp
 have hn:=hR.len'
 refine Ci.by (λz W=>W=w∧ ∃i:Nat,i≤xs.length∧z=(((Uh s (xs.take i):Nat):Int),((i:Nat):Int),())) (λz=>((xs.length:Int)-z.2.1).toNat) ⟨rfl,0,by omega,rfl⟩ ?_
 rintro z W ⟨rfl,i,hi,rfl⟩ _
 refine Dx (λc=>?_) λc=>?_
 ·have c:(i:Int)<(b.2.1:Int):=c
  have hi':i<xs.length:=by omega
  refine hR.ixc (z:=(i:Int)) rfl (aW (List.getElem?_eq_getElem hi')) (Jk _ _) (Xr.cl (dR hs _) (hx _ (List.getElem_mem hi')) ⟨⟨rfl,i+1,by omega,?_⟩,?_⟩)
  ·have e:xs.take (i+1)=xs.take i++[xs[i]]:=by simp
   show(_,wrap .i64 ((i:Int)+1),())=_
   rw[e,Abc,Ah (by unfold I64;omega)]
   show _=(((Uh (Uh s (xs.take i)) [xs[i]]:Nat):Int),((i:Int)+1),())
   rfl
  ·show((xs.length:Int)-wrap .i64 ((i:Int)+1)).toNat<((xs.length:Int)-(i:Int)).toNat
   rw[Ah (by unfold I64;omega)];omega
 ·have c: ¬(i:Int)<(b.2.1:Int):=c
  have:i=xs.length:=by omega
  subst this
  rw[List.take_length]
  exact h
theorem Rl.cl{xs:List Nat}(hx:eH xs){b:Sl}{w:World}(hR:Ur w b xs)(hl:xs.length≤1000000){k:TR sZ→WP}(h:k ((((Uh 65535 xs:Nat):Int),()),()) w):Ae prog F.Rl [.slice b.1 b.2.1 b.2.2] w false sZ k:=by
 refine Rl.ok ?_
 unfold Rl.wp
 exact X0.cl (s:=65535) (by decide) hx hR hl h
theorem Apj{n:Nat}(h:n<65536):wrap .u8 (Qv .u16 (n:Int) 8)=((n/256:Nat):Int)∧wrap .u8 (n:Int)=((n%256:Nat):Int):=by
 constructor
 ·rw[show Qv .u16 (n:Int) 8=(n:Int)/256 from bJ (k:=.u16) 8 (by decide),IntKind.wrap_u8];omega
 ·rw[IntKind.wrap_u8];omega
theorem oV(a b:List Nat):dV (a++b)=dV a++dV b:=List.map_append
theorem Tz.cl{xs:List Nat}(hx:eH xs){b:Sl}{w:World}(hR:Ur w b xs)(hl:xs.length≤900000){k:TR jG→WP}(h: ∀s' w',OwnB w' w.heap.size s' (kT xs)→Af w w'→k (((s'.1,s'.2.1,s'.2.2),()),()) w'):Ae prog F.Tz [.slice b.1 b.2.1 b.2.2] w false jG k:=by
 refine Tz.ok ?_
 unfold Tz.wp
 have hn:=hR.len'
 refine Rl.cl hx hR (by omega) ?_
 refine iM (t:=T.Fh) (e:=T.uint8) (size:=1) (bytes:=1) (z:=.int .u8 0) (l:=0) (c:=xs.length+2) (by kernel_rfl) (by kernel_rfl) rfl (by decide) rfl (by rw[Ah (by unfold I64;omega)];omega) (by omega) (by omega) λp w4 e4 k4 o4 g4=>?_
 have hR4:Ur w4 b xs:=hR.Ai g4
 refine Vx (s:=(some ⟨p,0,none⟩,0,xs.length+2)) (x:=b) (base:=w.heap.size) (e:=T.uint8) (size:=1) (n:=0) (xs:=[]) (news:=dV xs) (by kernel_rfl) (by kernel_rfl) (by decide) (Gs.Zq (by simpa [Aio] using o4) (λa ha=>by cases ha;exact Nat.le_of_eq e4)) hR4 (Za xs) (by omega) g4.size λy w6 o6 u6 _=>?_
 have g6:Af w w6:=Am.trans g4 u6 λj hj ⟨a,ha,hb⟩=>by cases ha;simp only[] at hb;omega
 rw[Vg (by decide)]
 have hc:=dR (s:=65535) (by decide) xs
 have hh:=Apj hc
 simp only[]
 rw[hh.1,hh.2]
 refine Ad λq w8 e8 k8 g8=>?_
 refine Vx (s:=y) (x:=(some ⟨q,0,none⟩,2,2)) (base:=w.heap.size) (e:=T.uint8) (size:=1) (n:=0+b.2.1) (xs:=[]++dV xs) (news:=dV [Uh 65535 xs/256,Uh 65535 xs%256]) (by kernel_rfl) (by kernel_rfl) (by decide) (o6.Ai g8) (k8.row rfl) (Za _) (by show 0+b.2.1+2≤1000000000;omega) (Nat.le_trans g6.size g8.size) λy2 w10 o10 u10 _=>?_
 refine h y2 w10 ?_ (Am.trans (g6.trans g8) u10 λj hj ⟨a,ha,hb⟩=>?_)
 ·have e:0+b.2.1+2=(kT xs).length:=by rw[hn];simp[kT]
  have o10:Gs w10 w.heap.size T.uint8 1 y2 (0+b.2.1+2) ([]++dV xs++dV [Uh 65535 xs/256,Uh 65535 xs%256]):=o10
  rw[e] at o10
  unfold OwnB kT
  rw[oV]
  exact o10
 ·have:=(o6.blk ha).1;omega
end Go.Proofs.YticgocmhmffneaaGreatDoor
