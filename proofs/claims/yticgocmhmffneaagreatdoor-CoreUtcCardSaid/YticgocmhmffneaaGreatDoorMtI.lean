import Derived.Test.YticgocmhmffneaaGreatDoorMtA
import Derived.Test.YticgocmhmffneaaGreatDoorNtP
namespace Go.Proofs.YticgocmhmffneaaGreatDoor
open Go Go.Eng
open Go.IntKind (wrap)
set_option linter.unusedSimpArgs false
set_option linter.unusedVariables false
set_option maxRecDepth 100000
set_option maxHeartbeats 8000000
theorem get_put: ∀(n v:Nat),v<256^n→aV (Ym n v)=v
 |0,v,h=>by have:v=0:=by simpa using h
            subst this;rfl
 |n+1,v,h=>by
  have h2:v/256<256^n:=by rw[Nat.pow_succ] at h;omega
  rw[Al9,mO,get_put n _ h2]
  omega
theorem Ak3: ∀(ss:List (Nat×Nat)) (fs:List E3) (rest:List Nat),ss.map (·.1)=fs.map (λf=>f.1.toNat)→(∀f∈fs,(wrap .u64 f.2.1).toNat<256^f.1.toNat)→Yd ss (Vb fs++rest)=fs.map λf=>(wrap .u64 f.2.1).toNat
 |[],[],_,_,_=>rfl
 |[],f::fs,_,h,_=>by simp at h
 |s::ss,[],_,h,_=>by simp at h
 |s::ss,f::fs,rest,h,hv=>by
  simp only[List.map_cons,List.cons.injEq] at h
  have e:Vb (f::fs)++rest=Ym s.1 (wrap .u64 f.2.1).toNat++(Vb fs++rest):=by
   unfold Vb;rw[List.flatMap_cons,List.append_assoc,h.1]
  have hf:=hv f (by simp)
  rw[←h.1] at hf
  rw[e]
  unfold Yd
  have l:=Zk s.1 (wrap .u64 f.2.1).toNat
  rw[List.take_left' l,List.drop_left' l,get_put _ _ hf,Ak3 ss fs rest h.2 λg hg=>hv g (by simp[hg])]
  rfl
theorem Ali: ∀(ss:List (Nat×Nat)) (fs:List E3),ss.map (·.1)=fs.map (λf=>f.1.toNat)→(Vb fs).length=(ss.map (·.1)).sum
 |[],[],_=>rfl
 |[],f::fs,h=>by simp at h
 |s::ss,[],h=>by simp at h
 |s::ss,f::fs,h=>by
  simp only[List.map_cons,List.cons.injEq] at h
  have:(Vb (f::fs)).length=f.1.toNat+(Vb fs).length:=by
   unfold Vb;rw[List.flatMap_cons,List.length_append,Zk]
  rw[this,Ali ss fs h.2,List.map_cons,List.sum_cons,h.1]
theorem Akj: ∀(l:List (Nat×Nat)) (n:Nat),l.foldl (λn x=>n+x.1) n=n+(l.map (·.1)).sum
 |[],n=>by simp
 |x::l,n=>by rw[List.foldl_cons,Akj l,List.map_cons,List.sum_cons];omega
theorem Ut{s:Nat}(h:s<32768):jB s=s*2:=by
 unfold jB
 rw[if_neg (by omega),Nat.xor_zero]
 omega
theorem Arq{s:Nat}(h:s<65536):Ad8 s (s/256)=s%256*256:=by
 have e:s^^^(s/256*256)=s%256:=by
  apply Nat.eq_of_testBit_eq
  intro i
  have p:(256:Nat)=2^8:=by decide
  rw[Nat.testBit_xor,p,Nat.testBit_mod_two_pow,Nat.testBit_mul_two_pow,Nat.testBit_div_two_pow]
  by_cases c:i<8
  ·have d: ¬8≤i:=by omega
   simp[c,d]
  ·have d:8≤i:=by omega
   have e:i-8+8=i:=by omega
   simp[c,d,e]
 unfold Ad8
 rw[e]
 have hl:s%256<256:=Nat.mod_lt _ (by decide)
 generalize s%256=x at*
 rw[Ut (s:=x) (by omega),Ut (s:=x*2) (by omega),Ut (s:=x*2*2) (by omega),Ut (s:=x*2*2*2) (by omega),Ut (s:=x*2*2*2*2) (by omega),Ut (s:=x*2*2*2*2*2) (by omega),Ut (s:=x*2*2*2*2*2*2) (by omega),Ut (s:=x*2*2*2*2*2*2*2) (by omega)]
 omega
theorem Apr(xs:List Nat):Uh 65535 (kT xs)=0:=by
 unfold kT
 rw[Abc]
 have h:=dR (s:=65535) (by decide) xs
 generalize Uh 65535 xs=s at*
 show Ad8 (Ad8 s (s/256)) (s%256)=0
 rw[Arq h]
 unfold Ad8
 rw[Nat.xor_self]
 rfl
def Arj(f:E3):Prop:=0≤f.2.1∧f.2.1≤f.2.2∧f.2.2<256^f.1.toNat∧f.2.2≤1125899906842624
theorem As5{f:E3}(h:Arj f):(wrap .u64 f.2.1).toNat=f.2.1.toNat:=by
 obtain⟨a,b,_,d⟩:=h
 rw[Lp (by unfold V6;omega)]
theorem Akw: ∀(ss:List (Nat×Nat)) (fs:List E3),ss=fs.map (λf=>(f.1.toNat,f.2.2.toNat))→(∀f∈fs,Arj f)→iD ss (fs.map λf=>f.2.1.toNat)=true
 |[],_,_,_=>rfl
 |s::ss,[],h,_=>by cases h
 |s::ss,f::fs,h,hv=>by
  simp only[List.map_cons,List.cons.injEq] at h
  obtain⟨a,b,_,d⟩:=hv f (by simp)
  unfold iD
  rw[List.map_cons,List.tail_cons,Akw ss fs h.2 λg hg=>hv g (by simp[hg]),h.1,Bool.and_true]
  exact decide_eq_true (show f.2.1.toNat≤f.2.2.toNat by omega)
theorem lJ{k:Nat}{fs:List E3}(hn:P7 k≠[])(hs:P7 k=fs.map λf=>(f.1.toNat,f.2.2.toNat))(hr: ∀f∈fs,Arj f)(hl:Zx (P7 k)≤60):Xg (aK k fs)=.ok (mJ k (fs.map λf=>f.2.1.toNat)):=by
 have e1:(P7 k).map (·.1)=fs.map (λf=>f.1.toNat):=by rw[hs,List.map_map];rfl
 have hv: ∀f∈fs,(wrap .u64 f.2.1).toNat<256^f.1.toNat:=λf hf=>by
  obtain⟨a,b,c,_⟩:=hr f hf
  rw[As5 (hr f hf)]
  have:((256:Int)^f.1.toNat)=((256^f.1.toNat:Nat):Int):=by rw[Int.natCast_pow];rfl
  rw[this] at c
  omega
 have eS:Zx (P7 k)=((P7 k).map (·.1)).sum:=by unfold Zx;rw[Akj];omega
 have len:(aK k fs).length=Zx (P7 k)+3:=by
  unfold aK kT
  rw[List.length_append,List.length_cons,Ali _ _ e1,eS];rfl
 have hd:(aK k fs).headD 0=k:=rfl
 have tl:(aK k fs).tail=Vb fs++[Uh 65535 (k::Vb fs)/256,Uh 65535 (k::Vb fs)%256]:=rfl
 have ec:Yd (P7 k) (aK k fs).tail=fs.map λf=>f.2.1.toNat:=by
  rw[tl,Ak3 _ _ _ e1 hv]
  exact List.map_congr_left λf hf=>As5 (hr f hf)
 unfold Xg
 rw[hd,if_neg (by omega),if_neg (by omega),if_neg (by rintro(q|q);exact hn q;exact q len),if_neg (by intro q;exact q (Apr _)),ec,if_neg (by rw[Akw _ _ hs hr];decide)]
theorem kV{fs:List E3}(h:okF fs=true)(hm: ∀f∈fs,f.2.2<256^f.1.toNat∧f.2.2≤1125899906842624): ∀f∈fs,Arj f:=λf hf=>by
 unfold okF at h
 have:=List.all_eq_true.1 h f hf
 unfold Yy at this
 simp only[Bool.and_eq_true,decide_eq_true_eq] at this
 exact⟨this.1,this.2,hm f hf⟩
theorem nI{a:Int}(h:0≤a):((a.toNat:Nat):Int)=a:=by omega
theorem Aui{f:Fr}(ho:f.ok=true)(hu:f.u):Xg f.by=.ok f:=by
 unfold Fr.by
 cases f with
 |sync s=>
  have r:=kV (fs:=Z4 s) ho (by intro f hf;simp only[Z4,List.mem_cons,List.not_mem_nil,or_false] at hf;rcases hf with rfl|rfl|rfl|rfl|rfl|rfl<;>(dsimp only;decide))
  show Xg (aK 1 (Z4 s))=_
  rw[lJ (by decide) rfl r (by decide)]
  obtain⟨u1,u2⟩:=hu
  have w1:wrap .i64 s.2.2.1=s.2.2.1:=Ah (by unfold Xe at u1;unfold I64;omega)
  have w2:wrap .i64 s.2.2.2.1=s.2.2.2.1:=Ah (by unfold Xe at u2;unfold I64;omega)
  have q: ∀x∈Z4 s,0≤x.2.1:=λx hx=>(r x hx).1
  simp only[Z4,List.mem_cons,List.not_mem_nil,or_false,forall_eq_or_imp,forall_eq] at q
  show Except.ok (mJ 1 ((Z4 s).map λf=>f.2.1.toNat))=_
  simp[mJ,Z4,w1,w2,nI q.1,nI q.2.1,nI u1.1,nI u2.1,nI q.2.2.2.2.1,nI q.2.2.2.2.2]
 |find x=>
  have r:=kV (fs:=tY x) ho (by intro f hf;simp only[tY,List.mem_cons,List.not_mem_nil,or_false] at hf;rcases hf with rfl|rfl<;>(dsimp only;decide))
  show Xg (aK 2 (tY x))=_
  rw[lJ (by decide) rfl r (by decide)]
  have q: ∀y∈tY x,0≤y.2.1:=λx hx=>(r x hx).1
  simp only[tY,List.mem_cons,List.not_mem_nil,or_false,forall_eq_or_imp,forall_eq] at q
  simp[mJ,tY,nI q.1,nI q.2]
 |want m=>
  have r:=kV (fs:=lW m) ho (by intro f hf;simp only[lW,List.mem_cons,List.not_mem_nil,or_false] at hf;subst hf;dsimp only;decide)
  show Xg (aK 3 (lW m))=_
  rw[lJ (by decide) rfl r (by decide)]
  have q: ∀y∈lW m,0≤y.2.1:=λx hx=>(r x hx).1
  simp only[lW,List.mem_cons,List.not_mem_nil,or_false,forall_eq] at q
  simp[mJ,lW,nI q]
 |pulse x=>
  have r:=kV (fs:=flU x) ho (by intro f hf;simp only[flU,List.mem_cons,List.not_mem_nil,or_false] at hf;rcases hf with rfl|rfl|rfl<;>(dsimp only;decide))
  show Xg (aK 4 (flU x))=_
  rw[lJ (by decide) rfl r (by decide)]
  have q: ∀y∈flU x,0≤y.2.1:=λx hx=>(r x hx).1
  simp only[flU,List.mem_cons,List.not_mem_nil,or_false,forall_eq_or_imp,forall_eq] at q
  simp[mJ,flU,nI q.1,nI q.2.1,nI q.2.2]
 |reply x=>
  have r:=kV (fs:=flR x) ho (by intro f hf;simp only[flR,List.mem_cons,List.not_mem_nil,or_false] at hf;rcases hf with rfl|rfl|rfl|rfl|rfl|rfl|rfl|rfl<;>(dsimp only;decide))
  show Xg (aK 5 (flR x))=_
  rw[lJ (by decide) rfl r (by decide)]
  have u1:Xe x.2.2.2.2.2.2.1:=hu
  have w1:wrap .i64 x.2.2.2.2.2.2.1=x.2.2.2.2.2.2.1:=Ah (by unfold Xe at u1;unfold I64;omega)
  have q: ∀y∈flR x,0≤y.2.1:=λx hx=>(r x hx).1
  simp only[flR,List.mem_cons,List.not_mem_nil,or_false,forall_eq_or_imp,forall_eq] at q
  simp[mJ,flR,w1,nI q.1,nI q.2.1,nI q.2.2.1,nI q.2.2.2.1,nI q.2.2.2.2.1,nI q.2.2.2.2.2.1,nI u1.1,nI q.2.2.2.2.2.2.2]
 |anchor x=>
  have r:=kV (fs:=mG x) ho (by intro f hf;simp only[mG,List.mem_cons,List.not_mem_nil,or_false] at hf;rcases hf with rfl|rfl|rfl|rfl|rfl|rfl<;>(dsimp only;decide))
  show Xg (aK 6 (mG x))=_
  rw[lJ (by decide) rfl r (by decide)]
  obtain⟨u1,u2⟩:=hu
  have w1:wrap .i64 x.2.1=x.2.1:=Ah (by unfold Xe at u1;unfold I64;omega)
  have w2:wrap .i64 x.2.2.2.1=x.2.2.2.1:=Ah (by unfold Xe at u2;unfold I64;omega)
  have q: ∀y∈mG x,0≤y.2.1:=λx hx=>(r x hx).1
  simp only[mG,List.mem_cons,List.not_mem_nil,or_false,forall_eq_or_imp,forall_eq] at q
  simp[mJ,mG,w1,w2,nI q.1,nI u1.1,nI q.2.2.1,nI u2.1,nI q.2.2.2.2.1,nI q.2.2.2.2.2]
end Go.Proofs.YticgocmhmffneaaGreatDoor
namespace Go.Proofs.YticgocmhmffneaaGreatDoor
open Go Go.Eng
set_option linter.unusedSimpArgs false
set_option linter.unusedVariables false
set_option maxRecDepth 100000
set_option maxHeartbeats 8000000
theorem Aqa(e:El):(isE e).root=e.root:=by unfold isE;split<;>rfl
theorem Ai9(e:El):(btB e=false∧(eG e).root=e.root)∨(btB e=true∧(eG e).root=e.me):=by
 unfold eG btB
 split
 ·exact .inl ⟨rfl,rfl⟩
 split
 ·exact .inl ⟨rfl,rfl⟩
 ·exact .inr ⟨rfl,rfl⟩
theorem jK(e:El)(st:Int):(yL e st).root=(eG e).root:=by unfold yL;split;exact Aqa _;rfl
theorem Anr{send S9:Nat}{lost:List Nat}{i near:Nat}(h:send.testBit i=true):(xH send S9 lost i near).2≠1:=by
 unfold xH
 split
 ·decide
 unfold Anz
 rw[if_pos h]
 show(2:Int)≠1
 decide
theorem Nt.Ao8{t:Nt}{c:Ch}{i:Nat}{d:Nd}(hi:t.ds[i]? =some d)(h:((d.go (Nz c.ticks i)).1.send t.steps (Nz c.send i)).2.1≠[]):(t.Ue c).testBit i=true:=by
 unfold Nt.Ue
 rw[Ws,decide_eq_true (List.getElem?_eq_some_iff.1 hi).1]
 rw[List.getD_eq_getElem?_getD,Nt.Wn hi,Option.getD_some]
 cases hq:((d.go (Nz c.ticks i)).1.send t.steps (Nz c.send i)).2.1 with
 |nil=>exact absurd hq h
 |cons a b=>rfl
theorem Ael{t:Nt}{c:Ch}{i:Nat}(hi:i<t.ds.length)(h:(t.Ue c).testBit i=true)(d:Nd):X9 (t.wds c) c.hear (t.We c) i d=d:=by
 unfold X9
 rw[List.getD_eq_getElem?_getD,Nt.aY hi,Option.getD_some,if_neg (Anr h)]
end Go.Proofs.YticgocmhmffneaaGreatDoor
namespace Go.Proofs.YticgocmhmffneaaGreatDoor
open Go Go.Eng
open Go.IntKind (wrap)
set_option linter.unusedSimpArgs false
set_option linter.unusedVariables false
set_option maxRecDepth 100000
set_option maxHeartbeats 8000000
theorem Wx{out:List Fr}{o:Option Fr}{x:Fr}(h:x∈Y4 out o):x∈out∨(o=some x∧x.ok=true):=by
 unfold Y4 at h
 cases o with
 |none=>exact .inl h
 |some f=>
  dsimp only at h
  split at h
  ·rename_i c
   rcases List.mem_append.1 h with h|h
   ·exact .inl h
   ·have:=List.mem_singleton.1 h
    subst this
    exact .inr ⟨rfl,c.1⟩
  ·exact .inl h
theorem Asr(d:Nd)(st:Int)(j:Jb)(s:S6):d.made st j≠some (.sync s):=by
 intro h
 cases j with
 |find=>
  unfold Nd.made at h
  dsimp only at h
  split at h
  ·cases h
  split at h
  ·injection h with h;cases h
  split at h
  ·cases h
  ·injection h with h;cases h
 |tie=>
  unfold Nd.made at h
  dsimp only at h
  split at h
  ·injection h with h;cases h
  ·cases h
 |reply a b c=>
  unfold Nd.made at h
  dsimp only at h
  split at h
  ·cases h
  ·injection h with h;cases h
theorem Agy(d:Nd)(st:Int)(s:S6): ∀(js:List Jb) (out:List Fr),Fr.sync s∈(d.pop st js out).2→Fr.sync s∈out
 |[],out,h=>h
 |j::js,out,h=>by
  unfold Nd.pop at h
  split at h
  ·rcases Wx (Agy d st s js _ h) with q|q
   ·exact q
   ·exact absurd q.1 (Asr d st j s)
  ·exact h
theorem Ar7(d:Nd)(st:Int)(s:S6):(d.word st).2≠some (.sync s):=by
 intro h
 unfold Nd.word at h
 split at h
 ·injection h with h;cases h
 ·dsimp only at h
  split at h
  ·injection h with h;cases h
  ·cases h
theorem Ai7{d:Nd}{st:Int}{p:List Jb×List Fr}{s:S6}(h:Fr.sync s∈(d.Yi st p).2):Fr.sync s∈p.2:=by
 unfold Nd.Yi at h
 dsimp only at h
 split at h
 ·rcases Wx h with q|q
  ·exact q
  ·exact absurd q.1 (Ar7 _ st s)
 ·exact h
def SyW(d d':Nd)(s:S6):Prop:=
 (mine d'.e=true∧s.2.1=d'.e.me∧s.2.2.1=d'.e.boot∧s.2.2.2.1=d'.e.seq∧d'.e.seq=wrap .u16 (d.e.seq+1))∨
 (s.2.1=d.e.root∧0≤d.e.root∧mine d.e=false∧yH s=oN d.e d.l)
theorem Ph(e:El):mine e=true↔e.root=e.me:=by unfold mine;simp
theorem Aqd{e:El}(h: ¬mine (eG e)=true):mine e=false∧(eG e).root=e.root∧btB e=false:=by
 rcases Ai9 e with ⟨b,q⟩|⟨b,q⟩
 ·refine⟨?_,q,b⟩
  cases hm:mine e with
  |false=>rfl
  |true=>
   refine absurd ?_ h
   rw[Ph,q,Ahg]
   exact(Ph e).1 hm
 ·refine absurd ?_ h
  rw[Ph,q,Ahg]
theorem Ahs(e:El):(eG e).boot=e.boot∧(eG e).seq=e.seq:=by unfold eG;split;exact⟨rfl,rfl⟩;split<;>exact⟨rfl,rfl⟩
theorem Aoh{d:Nd}(k:U7 d){st:Int}{s:S6}(h:Fr.sync s∈(d.iH st).2):(Fr.sync s).ok=true∧SyW d (d.iH st).1 s:=by
 have e:(d.iH st).1.e=yL d.e st:=(lY (d.Ri st) st _).1
 have h1:=Agy _ _ _ _ _ (Ai7 h)
 rcases Wx h1 with q|⟨q,ok⟩
 ·cases q
 refine⟨ok,?_⟩
 unfold Nd.Yg at q
 split at q
 case isFalse=>cases q
 rename_i hb
 injection q with q
 injection q with q
 unfold sH at hb q
 cases hi:inT st with
 |false=>rw[hi,if_neg (by decide)] at hb;cases hb
 |true=>
  rw[hi,if_pos rfl] at hb q
  split at hb
  case isFalse=>cases hb
  rename_i hw
  rw[if_pos hw] at q
  dsimp only at q
  unfold btW wdF at q hw
  by_cases c:mine (eG d.e)=true
  ·rw[if_pos c] at q
   dsimp only at q
   refine .inl ?_
   rw[e]
   have e2:yL d.e st={eG d.e with seq:=wrap .u16 ((eG d.e).seq+1)}:=by
    unfold yL isE
    rw[hi,if_pos rfl,if_pos c]
   have em:isM (eG d.e)=((eG d.e).boot,wrap .u16 ((eG d.e).seq+1),()):=by unfold isM;rw[if_pos c]
   rw[e2,←q,em]
   refine⟨c,?_,rfl,rfl,?_⟩
   ·show(nD d.f d.e).me=(eG d.e).me
    rw[Am6,Ahg,k.g.fme.1,k.g.fme.2]
   ·show wrap .u16 ((eG d.e).seq+1)=_
    rw[(Ahs d.e).2]
  ·rw[if_neg c] at q hw
   obtain⟨m1,r1,b1⟩:=Aqd c
   split at q
   ·rename_i cs
    rw[if_pos cs] at hw
    cases hw
   ·dsimp only at q
    refine .inr ?_
    have er:s.2.1=d.e.root:=by rw[←q];exact r1
    have mm:oN (eG d.e) d.l=oN d.e d.l:=by
     unfold oN
     rw[r1,if_neg c,m1]
     rfl
    have h0:0≤s.2.1:=by
     have ok:okF (Z4 s)=true:=ok
     unfold okF Z4 at ok
     simp only[List.all_cons,Yy,Bool.and_eq_true,decide_eq_true_eq] at ok
     exact ok.2.1.1
    refine⟨er,by rw[←er];exact h0,m1,?_⟩
    rw[←mm,←q]
    rfl
theorem Asa{d:Nd}(k:U7 d){step j:Int}{s:S6}(h:Fr.sync s∈(d.send step j).2.1):(Fr.sync s).ok=true∧SyW d (d.send step j).1 s:=by
 unfold Nd.send at h⊢
 split at h
 ·cases h
 rename_i c1
 split at h
 ·cases h
 rename_i c2
 rw[if_neg c1,if_neg c2]
 exact Aoh k h
def MkB(K:Int)(m:Jf MK):Prop:=(0≤m.1∧m.1≤K)∧0≤m.2.1∧m.2.1≤K
structure Bd(K:Int)(d:Nd):Prop where
 b:0≤d.boot∧d.boot≤K
 e:(0≤d.e.boot∧d.e.boot≤K)∧0≤d.e.seq∧d.e.seq≤K
 l: ∀r m,Vu d.l r=some m→MkB K m
theorem MkB.mono{K L:Int}{m:Jf MK}(h:MkB K m)(hl:K≤L):MkB L m:=⟨⟨h.1.1,Int.le_trans h.1.2 hl⟩,h.2.1,Int.le_trans h.2.2 hl⟩
theorem Bd.mono{K L:Int}{d:Nd}(h:Bd K d)(hl:K≤L):Bd L d:=
 ⟨⟨h.b.1,Int.le_trans h.b.2 hl⟩,⟨⟨h.e.1.1,Int.le_trans h.e.1.2 hl⟩,h.e.2.1,Int.le_trans h.e.2.2 hl⟩,λr m hm=>(h.l r m hm).mono hl⟩
theorem Bd.mk0{K:Int}{d:Nd}(h:Bd K d)(h0:0≤K):MkB K (oN d.e d.l):=by
 unfold oN
 split
 ·exact⟨⟨Int.le_refl _,h0⟩,Int.le_refl _,h0⟩
 split
 ·exact h.e
 ·cases hm:Vu d.l d.e.root with
  |none=>exact⟨⟨Int.le_refl _,h0⟩,Int.le_refl _,h0⟩
  |some m=>exact h.l _ m hm
theorem Bd.same{K:Int}{d d':Nd}(h:Bd K d)(b:d'.boot=d.boot)(e:d'.e=d.e)(l:d'.l=d.l):Bd K d':=⟨by rw[b];exact h.b,by rw[e];exact h.e,by rw[l];exact h.l⟩
theorem Auo(e:El)(st:Int):(yL e st).boot=e.boot∧((yL e st).seq=e.seq∨(yL e st).seq=wrap .u16 (e.seq+1)):=by
 have b:=Ahs e
 unfold yL isE
 split
 ·split
  ·exact⟨b.1,.inr (by show wrap .u16 ((eG e).seq+1)=_;rw[b.2])⟩
  ·exact⟨b.1,.inl b.2⟩
 ·exact⟨b.1,.inl b.2⟩
theorem Bd.send{K:Int}(hK:K≤60000){d:Nd}(h:Bd K d)(step j:Int):Bd (K+1) (d.send step j).1:=by
 have hm:=h.mono (show K≤K+1 by omega)
 unfold Nd.send
 split
 ·exact hm
 split
 ·exact hm
 ·have q:=lY (d.Ri (d.Yf j).1) (d.Yf j).1 ((d.Ri (d.Yf j).1).pop (d.Yf j).1 d.jobs (Y4 [] (d.Yg (d.Yf j).1)))
  have b:=congrArg (λx=>x.1.2.2.1) (Alc (d.Ri (d.Yf j).1) (d.Yf j).1 ((d.Ri (d.Yf j).1).pop (d.Yf j).1 d.jobs (Y4 [] (d.Yg (d.Yf j).1))))
  have e2:=Auo d.e (d.Yf j).1
  refine⟨by rw[show(d.iH (d.Yf j).1).1.boot=d.boot from b];exact hm.b,?_,?_⟩
  ·show(0≤(d.iH (d.Yf j).1).1.e.boot∧_)∧_
   rw[show(d.iH (d.Yf j).1).1.e=yL d.e (d.Yf j).1 from q.1,e2.1]
   refine⟨hm.e.1,?_⟩
   rcases e2.2 with e3|e3
   ·rw[e3];exact hm.e.2
   ·have:=h.e.2
    rw[e3,aQ (by unfold Xe;omega)]
    omega
  ·rw[show(d.iH (d.Yf j).1).1.l=d.l from q.2]
   exact hm.l
theorem Aug{k:Nat}(h:k≠1)(v:List Nat)(s:S6):mJ k v≠ .sync s:=by
 intro e
 unfold mJ at e
 dsimp only at e
 rw[if_neg h] at e
 repeat (first|(split at e)|cases e)
theorem Ah8{f:Fr}{s:S6}(ho:f.ok=true)(hu: ∀s',f=.sync s'→Xe s'.2.2.1∧Xe s'.2.2.2.1)(h:Xg f.by=.ok (.sync s)):f=.sync s:=by
 by_cases c: ∃s',f=.sync s'
 ·obtain⟨s',rfl⟩:=c
  rw[Aui ho (hu s' rfl)] at h
  injection h
 ·exfalso
  have hk:f.kd≠1:=by cases f<;>first|(exact absurd ⟨_,rfl⟩ c)|(simp only[Fr.kd];decide)
  unfold Xg at h
  split at h
  ·cases h
  split at h
  ·cases h
  split at h
  ·cases h
  split at h
  ·cases h
  split at h
  ·cases h
  ·injection h with h
   exact Aug (show f.by.headD 0≠1 from hk) _ _ h
def FrH(K:Int)(H:Int→Jf MK→Prop)(f:Fr):Prop:=f.ok=true∧ ∀s,f=.sync s→H s.2.1 (yH s)∧MkB K (yH s)
theorem Aum{d:Nd}{s:S6}(hm:jA d.e s.2.1=true):mine (xU d.e s.2.1)=false∧0≤s.2.1∧oN (xU d.e s.2.1) (Xd d.l s.2.1 (yH s))=yH s:=by
 obtain⟨r0,r1⟩:=Aaz hm
 have m0:mine (xU d.e s.2.1)=false:=by
  cases q:mine (xU d.e s.2.1) with
  |false=>rfl
  |true=>
   have:=(Ph _).1 q
   have:s.2.1=d.e.me:=this
   omega
 refine⟨m0,r0,?_⟩
 unfold oN
 rw[if_neg (show¬(xU d.e s.2.1).root<0 from(by show¬s.2.1<0;omega)),m0,bY]
 show(if s.2.1=s.2.1 then some (yH s) else Vu d.l s.2.1).getD (0,0,())=yH s
 rw[if_pos rfl];rfl
structure yA(K:Int)(H:Int→Jf MK→Prop)(d:Nd):Prop where
 b:Bd K d
 h:0≤d.e.root→mine d.e=false→H d.e.root (oN d.e d.l)
theorem yA.same{K:Int}{H:Int→Jf MK→Prop}{d d':Nd}(h:yA K H d)(b:d'.boot=d.boot)(e:d'.e=d.e)(l:d'.l=d.l):yA K H d':=⟨h.b.same b e l,by rw[e,l];exact h.h⟩
theorem yA.hear{K:Int}{H:Int→Jf MK→Prop}(hK:K≤60000){d:Nd}(h:yA K H d){f:Fr}(hf:FrH K H f)(j:Int):yA K H (d.hear j f.by).1:=by
 unfold Nd.hear
 split
 ·exact h
 cases hd:Xg f.by with
 |error e=>exact h
 |ok g=>
  show yA K H (d.heard g (d.Yf j).1).1
  unfold Nd.heard
  split
  ·exact h
  cases g with
  |sync s=>
   have ef:=Ah8 hf.1 (λs' e=>by
    have:=(hf.2 s' e).2
    exact⟨⟨this.1.1,by have:s'.2.2.1≤K:=this.1.2;omega⟩,⟨this.2.1,by have:s'.2.2.2.1≤K:=this.2.2;omega⟩⟩) hd
   obtain⟨hH,hB⟩:=hf.2 s ef
   show yA K H (d.aH s (d.Yf j).1)
   unfold Nd.aH
   dsimp only
   split
   ·exact h
   ·rename_i c
    obtain⟨_,hm,_⟩:=uB c
    obtain⟨m0,r0,em⟩:=Aum (d:=d) hm
    refine⟨⟨h.b.b,h.b.e,λr m hx=>?_⟩,λ_ _=>?_⟩
    ·have hx:Vu (Xd d.l s.2.1 (yH s)) r=some m:=hx
     rw[bY] at hx
     split at hx
     ·injection hx with hx;rw[←hx];exact hB
     ·exact h.b.l r m hx
    ·show H s.2.1 (oN (xU d.e s.2.1) (Xd d.l s.2.1 (yH s)))
     rw[em];exact hH
  |find x=>unfold Nd.take;dsimp only;split<;>exact h.same rfl rfl rfl
  |want m=>unfold Nd.take;dsimp only;split;exact h.same (congrArg (λx=>x.1.2.2.1) (Acd d _)) (Su d _).1 (Su d _).2;exact h
  |pulse x=>unfold Nd.take;dsimp only;split;exact h.same (congrArg (λx=>x.1.2.2.1) (Acd d _)) (Su d _).1 (Su d _).2;exact h
  |reply r=>unfold Nd.take;dsimp only;split<;>exact h.same rfl rfl rfl
  |anchor a=>
   unfold Nd.take;dsimp only;split
   ·exact h.same (congrArg (λx=>x.1.2.2.1) (Ai4 {d with bh:=true,ba:=a})) (jT {d with bh:=true,ba:=a}).1 (jT {d with bh:=true,ba:=a}).2
   ·exact h
theorem yA.Jw{K:Int}{H:Int→Jf MK→Prop}(hK:K≤60000)(j:Int): ∀(ws:List Fr) {d:Nd},yA K H d→(∀f∈ws,FrH K H f)→yA K H (Jw d j ws)
 |[],d,h,_=>h
 |f::ws,d,h,hf=>yA.Jw hK j ws (h.hear hK (hf f (by simp)) j) λg hg=>hf g (by simp[hg])
theorem Agg(d:Nd)(st:Int): ∀(js:List Jb) (out:List Fr),(∀f∈out,f.ok=true)→ ∀f∈(d.pop st js out).2,f.ok=true
 |[],out,h=>h
 |j::js,out,h=>by
  unfold Nd.pop
  split
  ·refine Agg d st js _ λf hf=>?_
   rcases Wx hf with q|q
   ·exact h f q
   ·exact q.2
  ·exact h
theorem Apo{d:Nd}{step j:Int}: ∀f∈(d.send step j).2.1,f.ok=true:=by
 intro f hf
 unfold Nd.send at hf
 split at hf
 ·cases hf
 split at hf
 ·cases hf
 have hp: ∀f∈((d.Ri (d.Yf j).1).pop (d.Yf j).1 d.jobs (Y4 [] (d.Yg (d.Yf j).1))).2,f.ok=true:=Agg _ _ _ _ λf hf=>by
  rcases Wx hf with q|q
  ·cases q
  ·exact q.2
 have hf:f∈((d.Ri (d.Yf j).1).Yi (d.Yf j).1 ((d.Ri (d.Yf j).1).pop (d.Yf j).1 d.jobs (Y4 [] (d.Yg (d.Yf j).1)))).2:=hf
 unfold Nd.Yi at hf
 dsimp only at hf
 split at hf
 ·rcases Wx hf with q|q
  ·exact hp f q
  ·exact q.2
 ·exact hp f hf
def Nw(t:Nt)(r:Int)(m:Jf MK):Prop:= ∃(i:Nat) (d:Nd),t.ds[i]? =some d∧d.on=true∧mine d.e=true∧0<d.e.seq∧r=(i:Int)∧m=(d.e.boot,d.e.seq,())
def Iss(K:Int)(H:Int→Jf MK→Prop)(t:Nt):Prop:= ∀(i:Nat) (d:Nd),t.ds[i]? =some d→yA K H d
theorem yA.mono{K L:Int}{H H':Int→Jf MK→Prop}{d:Nd}(h:yA K H d)(hl:K≤L)(hh: ∀r m,H r m→H' r m):yA L H' d:=⟨h.b.mono hl,λa b=>hh _ _ (h.h a b)⟩
theorem Ql.me{t:Nt}(g:Ql t){i:Nat}{d:Nd}(h:t.ds[i]? =some d):d.e.me=(i:Int):=by
 have:=g.nd i d h
 rw[this.1.g.fme.2,this.2];rfl
theorem Iss.words{K:Int}(h0:0≤K)(hK:K≤50000){H:Int→Jf MK→Prop}{t:Nt}(g:Ql t)(h:Iss K H t)(c:Ch)(t':Nt)(ht:t'.ds=t.d3 c): ∀k,∀f∈(t.wds c).getD k [],FrH (K+1) (λr m=>H r m∨Nw t' r m) f:=by
 intro k f hf
 rw[List.getD_eq_getElem?_getD] at hf
 cases hd:t.ds[k]? with
 |none=>
  have:(t.wds c)[k]? =none:=by rw[List.getElem?_eq_none_iff] at hd⊢;rwa [Nt.Akp]
  rw[this] at hf;cases hf
 |some d=>
  rw[Nt.Wn hd] at hf
  have hf:f∈((d.go (Nz c.ticks k)).1.send t.steps (Nz c.send k)).2.1:=hf
  refine⟨Apo f hf,λs es=>?_⟩
  subst es
  have kd:=(g.nd k d hd).1
  obtain⟨ok,sw⟩:=Asa (kd.go (Nz c.ticks k)) hf
  have bd:Bd K (d.go (Nz c.ticks k)).1:=(h k d hd).b.same (Aci (Aj9 d _)) (vX d _).1 (vX d _).2
  rcases sw with ⟨m1,m2,m3,m4,m5⟩|⟨r1,r2,r3,r4⟩
  ·have b2:=bd.send (by omega) t.steps (Nz c.send k)
   have hb:=Nt.Ao8 hd (List.ne_nil_of_mem hf)
   have hi:=(List.getElem?_eq_some_iff.1 hd).1
   have h3:t'.ds[k]? =some ((d.go (Nz c.ticks k)).1.send t.steps (Nz c.send k)).1:=by
    rw[ht,Nt.gK hd,Ael hi hb]
   have eme:((d.go (Nz c.ticks k)).1.send t.steps (Nz c.send k)).1.e.me=(k:Int):=by
    have q1:=((kd.go (Nz c.ticks k)).send t.steps (Nz c.send k)).g.fme.2
    rw[q1,nM ((Abh _ _ _).trans (Aj9 _ _)),(g.nd k d hd).2];rfl
   have on:((d.go (Nz c.ticks k)).1.send t.steps (Nz c.send k)).1.on=true:=by
    rw[Ajl (Abh _ _ _)]
    exact(Ak9 (List.ne_nil_of_mem hf)).1
   refine⟨.inr ⟨k,_,h3,on,m1,?_,by rw[m2,eme],?_⟩,?_⟩
   ·rw[m5]
    have:=bd.e.2
    rw[aQ (by unfold Xe;omega)]
    omega
   ·show(s.2.2.1,s.2.2.2.1,())=_
    rw[m3,m4]
   ·show(0≤s.2.2.1∧s.2.2.1≤K+1)∧0≤s.2.2.2.1∧s.2.2.2.1≤K+1
    rw[m3,m4]
    exact b2.e
  ·have e1:=(vX d (Nz c.ticks k)).1
   have e2:=(vX d (Nz c.ticks k)).2
   rw[e1] at r1 r2 r3
   rw[e1,e2] at r4
   refine⟨.inl ?_,?_⟩
   ·rw[r1,r4];exact(h k d hd).h r2 r3
   ·rw[r4];exact((h k d hd).b.mk0 h0).mono (by omega)
theorem yA.sent{K:Int}(hK:K≤50000){H N:Int→Jf MK→Prop}{d:Nd}(h:yA K H d)(tk step j:Int):yA (K+1) (λr m=>H r m∨N r m) ((d.go tk).1.send step j).1:=by
 have bd:Bd K (d.go tk).1:=h.b.same (Aci (Aj9 d _)) (vX d _).1 (vX d _).2
 refine⟨bd.send (by omega) _ _,λa b=>.inl ?_⟩
 have e1:=(vX d tk).1
 have e2:=(vX d tk).2
 have key:((d.go tk).1.send step j).1.e.root=d.e.root∧mine d.e=false∧oN ((d.go tk).1.send step j).1.e ((d.go tk).1.send step j).1.l=oN d.e d.l:=by
  generalize (d.go tk).1=x at*
  unfold Nd.send at b⊢
  split
  ·rename_i q;rw[if_pos q] at b;dsimp only at b⊢;rw[e1] at b⊢;rw[e2];exact⟨rfl,b,rfl⟩
  rename_i q1
  rw[if_neg q1] at b
  split
  ·rename_i q;rw[if_pos q] at b;dsimp only at b⊢;rw[e1] at b⊢;rw[e2];exact⟨rfl,b,rfl⟩
  rename_i q2
  rw[if_neg q2] at b
  dsimp only at b⊢
  have s2:=lY (x.Ri (x.Yf j).1) (x.Yf j).1 ((x.Ri (x.Yf j).1).pop (x.Yf j).1 x.jobs (Y4 [] (x.Yg (x.Yf j).1)))
  have f1:(x.iH (x.Yf j).1).1.e=yL x.e (x.Yf j).1:=s2.1
  have f2:(x.iH (x.Yf j).1).1.l=x.l:=s2.2
  rw[f1] at b⊢
  rw[f2]
  have nb: ¬mine (eG x.e)=true:=λq=>by
   have r:mine (yL x.e (x.Yf j).1)=true:=by
    rw[Ph,jK,An5,←Ahg x.e]
    exact(Ph _).1 q
   rw[r] at b;cases b
  obtain⟨m1,r1,b1⟩:=Aqd nb
  have r2:(yL x.e (x.Yf j).1).root=x.e.root:=by rw[jK,r1]
  refine⟨by rw[r2,e1],by rw[←e1];exact m1,?_⟩
  unfold oN
  rw[r2,b,e1,e2,←e1,m1]
  rfl
 rw[key.1,key.2.2]
 exact h.h (by rw[←key.1];exact a) key.2.1
theorem Iss.step{K:Int}(h0:0≤K)(hK:K≤50000){H:Int→Jf MK→Prop}{t:Nt}(g:Ql t)(h:Iss K H t)(c:Ch)(t':Nt)(ht:t'.ds=t.d3 c):Iss (K+1) (λr m=>H r m∨Nw t' r m) t':=by
 intro i d' hd'
 rw[ht] at hd'
 have hi:i<t.ds.length:=by have:=(List.getElem?_eq_some_iff.1 hd').1;rwa [Nt.Abs] at this
 obtain⟨d,hd⟩:=g.at hi
 rw[Nt.gK hd] at hd'
 injection hd' with hd'
 subst hd'
 have h2:yA (K+1) (λr m=>H r m∨Nw t' r m) ((d.go (Nz c.ticks i)).1.send t.steps (Nz c.send i)).1:=(h i d hd).sent hK _ _ _
 unfold X9
 split
 ·exact yA.Jw (by omega) _ _ h2 (h.words h0 hK g c t' ht _)
 ·exact h2
theorem yA.turn{K:Int}(h0:0≤K)(hK:K≤50000){H:Int→Jf MK→Prop}{d:Nd}(h:yA K H d)(raw:Int):yA (K+1) H (d.turn raw):=by
 have hb:=h.b.b
 have w:wrap .u16 (d.boot+1)=d.boot+1:=aQ (by unfold Xe;omega)
 refine⟨⟨?_,?_,λr m hm=>by cases hm⟩,λa=>?_⟩
 ·show 0≤wrap .u16 (d.boot+1)∧wrap .u16 (d.boot+1)≤K+1
  rw[w];omega
 ·show(0≤wrap .u16 (d.boot+1)∧wrap .u16 (d.boot+1)≤K+1)∧(0:Int)≤0∧(0:Int)≤K+1
  rw[w];omega
 ·have a:(0:Int)≤ -1:=a
  omega
def ltI(a b c d:Int):Prop:=a<c∨(a=c∧b<d)
theorem Ar6(a b:Int): ¬ltI a b a b:=by unfold ltI;omega
theorem At4{a b c d e f:Int}(h:ltI a b c d)(k:ltI c d e f):ltI a b e f:=by unfold ltI at*;omega
def ltM(a b:Jf MK):Prop:=ltI a.1 a.2.1 b.1 b.2.1
def leM(a b:Jf MK):Prop:=ltM a b∨a=b
theorem Alp(a:Jf MK): ¬ltM a a:=Ar6 _ _
theorem Ap3{a b c:Jf MK}(h:leM a b)(k:ltM b c):ltM a c:=by
 rcases h with h|rfl
 ·exact At4 h k
 ·exact k
theorem Adw{a b c:Jf MK}(h:leM a b)(k:leM b c):leM a c:=by
 rcases k with k|rfl
 ·exact .inl (Ap3 h k)
 ·exact h
theorem Aqc{K a b:Int}(hK:K≤30000)(ha:0≤a∧a≤K)(hb:0≤b∧b≤K):tC a b=true↔b<a:=by
 unfold tC
 rw[decide_eq_true_iff,oL,Aq2]
 constructor<;>intro h<;>omega
theorem Ar8{K:Int}(hK:K≤30000){m o:Jf MK}(hm:MkB K m)(ho:MkB K o)(h:wW m o=true):ltM o m:=by
 unfold wW at h
 show o.1<m.1∨(o.1=m.1∧o.2.1<m.2.1)
 split at h
 ·rename_i c;exact .inl ((Aqc hK hm.1 ho.1).1 c)
 split at h
 ·rename_i c
  exact .inr ⟨c.symm,(Aqc hK hm.2 ho.2).1 h⟩
 ·cases h
def Ac1(l l':Um):Prop:= ∀r m,Vu l r=some m→ ∃m',Vu l' r=some m'∧leM m m'
theorem Ac1.refl(l:Um):Ac1 l l:=λr m h=>⟨m,h,.inr rfl⟩
theorem Ac1.trans{a b c:Um}(h:Ac1 a b)(k:Ac1 b c):Ac1 a c:=λr m hm=>by
 obtain⟨m1,h1,l1⟩:=h r m hm
 obtain⟨m2,h2,l2⟩:=k r m1 h1
 exact⟨m2,h2,Adw l1 l2⟩
def Mv(d d':Nd):Prop:=d'.e.me=d.e.me∧Ac1 d.l d'.l∧
 (mine d'.e=true∨(d'.e.root=d.e.root∧d'.l=d.l∧d'.es.length≤d.es.length)∨(0≤d'.e.root∧ ∃m',Vu d'.l d'.e.root=some m'∧ ∀m,Vu d.l d'.e.root=some m→ltM m m'))
theorem Mv.same{d d':Nd}(e:d'.e=d.e)(l:d'.l=d.l)(s:d'.es=d.es):Mv d d':=⟨by rw[e],by rw[l];exact Ac1.refl _,.inr (.inl ⟨by rw[e],l,by rw[s];exact Nat.le_refl _⟩)⟩
theorem Mv.refl(d:Nd):Mv d d:=Mv.same rfl rfl rfl
theorem Mv.trans{a b c:Nd}(h:Mv a b)(k:Mv b c):Mv a c:=by
 obtain⟨h1,h2,h3⟩:=h
 obtain⟨k1,k2,k3⟩:=k
 refine⟨k1.trans h1,h2.trans k2,?_⟩
 rcases k3 with k3|⟨r,l,s⟩|⟨r,m',e,q⟩
 ·exact .inl k3
 ·rcases h3 with h3|⟨r',l',s'⟩|⟨r',m',e',q'⟩
  ·refine .inl ?_
   rw[Ph,r,k1]
   exact(Ph _).1 h3
  ·exact .inr (.inl ⟨r.trans r',l.trans l',Nat.le_trans s s'⟩)
  ·refine .inr (.inr ⟨by rw[r];exact r',m',by rw[r,l];exact e',λm hm=>q' m (by rw[←r];exact hm)⟩)
 ·refine .inr (.inr ⟨r,m',e,λm hm=>?_⟩)
  obtain⟨m1,h1,l1⟩:=h2 _ m hm
  exact Ap3 l1 (q m1 h1)
theorem Afw(d:Nd)(j:Jb):(d.push j).1.es=d.es:=by unfold Nd.push;split<;>rfl
theorem Asg(d:Nd):d.pass.1.es=d.es:=by unfold Nd.pass;split;rfl;exact Afw d _
theorem Aso(d:Nd)(st:Int):(d.word st).1.es=d.es:=by unfold Nd.word;split<;>rfl
theorem Ap4(d:Nd)(st:Int)(p:List Jb×List Fr):(d.Yi st p).1.es=d.es:=by
 unfold Nd.Yi
 dsimp only
 split
 ·exact Aso {d with jobs:=p.1} st
 ·rfl
theorem Av2(d:Nd)(t:Int):(d.go t).1.es=d.es:=by unfold Nd.go;split<;>rfl
theorem Mv.go(d:Nd)(t:Int):Mv d (d.go t).1:=Mv.same (vX d t).1 (vX d t).2 (Av2 d t)
theorem Mv.send(d:Nd)(step j:Int):Mv d (d.send step j).1:=by
 unfold Nd.send
 split
 ·exact Mv.refl d
 split
 ·exact Mv.refl d
 ·have q:=lY (d.Ri (d.Yf j).1) (d.Yf j).1 ((d.Ri (d.Yf j).1).pop (d.Yf j).1 d.jobs (Y4 [] (d.Yg (d.Yf j).1)))
  have qs:=Ap4 (d.Ri (d.Yf j).1) (d.Yf j).1 ((d.Ri (d.Yf j).1).pop (d.Yf j).1 d.jobs (Y4 [] (d.Yg (d.Yf j).1)))
  have f1:(d.iH (d.Yf j).1).1.e=yL d.e (d.Yf j).1:=q.1
  have f2:(d.iH (d.Yf j).1).1.l=d.l:=q.2
  have f3:(d.iH (d.Yf j).1).1.es=b1l d.e d.es:=qs
  refine⟨by rw[f1,An5],by rw[f2];exact Ac1.refl _,?_⟩
  rw[f1,f2,f3]
  rcases Ai9 d.e with ⟨b,r⟩|⟨b,r⟩
  ·refine .inr (.inl ⟨by rw[jK,r],rfl,?_⟩)
   unfold b1l
   split
   ·exact Nat.zero_le _
   ·exact Nat.le_refl _
  ·refine .inl ?_
   rw[Ph,jK,An5,r]
theorem Mv.aH{K:Int}(hK:K≤30000){d:Nd}(h: ∀r m,Vu d.l r=some m→MkB K m){s:S6}(hs:MkB K (yH s))(t:Int):Mv d (d.aH s t):=by
 unfold Nd.aH
 dsimp only
 split
 ·exact Mv.refl d
 ·rename_i c
  obtain⟨_,hm,hf⟩:=uB c
  obtain⟨r0,r1⟩:=Aaz hm
  have new: ∀m,Vu d.l s.2.1=some m→ltM m (yH s):=λm hm=>by
   unfold frE at hf
   rw[hm] at hf
   exact Ar8 hK hs (h _ m hm) hf
  have at_:Vu (Xd d.l s.2.1 (yH s)) s.2.1=some (yH s):=by rw[bY,if_pos rfl]
  refine⟨rfl,λr m hr=>?_,.inr (.inr ⟨r0,yH s,at_,new⟩)⟩
  by_cases e:r=s.2.1
  ·subst e
   exact⟨yH s,at_,.inl (new m hr)⟩
  ·exact⟨m,by show Vu (Xd d.l s.2.1 (yH s)) r=some m;rw[bY,if_neg e];exact hr,.inr rfl⟩
theorem Mv.hear{K:Int}(hK:K≤30000){H:Int→Jf MK→Prop}{d:Nd}(h:yA K H d){f:Fr}(hf:FrH K H f)(j:Int):Mv d (d.hear j f.by).1:=by
 unfold Nd.hear
 split
 ·exact Mv.refl d
 cases hd:Xg f.by with
 |error e=>exact Mv.refl d
 |ok g=>
  show Mv d (d.heard g (d.Yf j).1).1
  unfold Nd.heard
  split
  ·exact Mv.refl d
  cases g with
  |sync s=>
   have ef:=Ah8 hf.1 (λs' e=>by
    have:=(hf.2 s' e).2
    exact⟨⟨this.1.1,by have:s'.2.2.1≤K:=this.1.2;omega⟩,⟨this.2.1,by have:s'.2.2.2.1≤K:=this.2.2;omega⟩⟩) hd
   exact Mv.aH hK h.b.l (hf.2 s ef).2 _
  |find x=>unfold Nd.take;dsimp only;split<;>exact Mv.same rfl rfl rfl
  |want m=>unfold Nd.take;dsimp only;split;exact Mv.same (Su d _).1 (Su d _).2 (Afw d _);exact Mv.refl d
  |pulse x=>unfold Nd.take;dsimp only;split;exact Mv.same (Su d _).1 (Su d _).2 (Afw d _);exact Mv.refl d
  |reply r=>unfold Nd.take;dsimp only;split<;>exact Mv.same rfl rfl rfl
  |anchor a=>
   unfold Nd.take;dsimp only;split
   ·exact Mv.same (jT {d with bh:=true,ba:=a}).1 (jT {d with bh:=true,ba:=a}).2 (Asg {d with bh:=true,ba:=a})
   ·exact Mv.refl d
theorem Mv.Jw{K:Int}(hK:K≤30000){H:Int→Jf MK→Prop}(j:Int): ∀(ws:List Fr) {d:Nd},yA K H d→(∀f∈ws,FrH K H f)→Mv d (Jw d j ws)
 |[],d,h,_=>Mv.refl d
 |f::ws,d,h,hf=>(Mv.hear hK h (hf f (by simp)) j).trans (Mv.Jw hK j ws (h.hear (by omega) (hf f (by simp)) j) λg hg=>hf g (by simp[hg]))
theorem Mv.hrd{K:Int}(hK:K≤30000){H:Int→Jf MK→Prop}{ws:List (List Fr)}{hs:List Int}{es:List (Int×Int)}{i:Nat}{d:Nd}(h:yA K H d)(hf: ∀k,∀f∈ws.getD k [],FrH K H f):Mv d (X9 ws hs es i d):=by
 unfold X9
 split
 ·exact Mv.Jw hK _ _ h (hf _)
 ·exact Mv.refl d
theorem Iss.mv{K:Int}(h0:0≤K)(hK:K≤20000){H:Int→Jf MK→Prop}{t:Nt}(g:Ql t)(h:Iss K H t){c:Ch}{i:Nat}{d d':Nd}(hd:t.ds[i]? =some d)(hd':(t.d3 c)[i]? =some d'):Mv d d':=by
 rw[Nt.gK hd] at hd'
 injection hd' with hd'
 subst hd'
 have hw:=h.words h0 (by omega) g c {t with ds:=t.d3 c} rfl
 exact((Mv.go d _).trans (Mv.send _ _ _)).trans (Mv.hrd (by omega) ((h i d hd).sent (by omega) _ _ _) hw)
end Go.Proofs.YticgocmhmffneaaGreatDoor
