import Derived.Test.YtppeepkmnijdpaaGreatDoorNdD
namespace Go.Proofs.YtppeepkmnijdpaaGreatDoor
open Go Go.Eng Tryz
open Go.IntKind (wrap)
set_option linter.unusedSimpArgs false
set_option linter.unusedVariables false
set_option maxRecDepth 100000
set_option maxHeartbeats 8000000
theorem Vy{n:Nat}(h:Ob n≠[]):n=1∨n=2∨n=3∨n=4∨n=5∨n=6:=by
 unfold Ob at h
 split at h<;>first|omega|exact absurd rfl h
theorem Ar6{n:Nat}(h: ¬(n=1∨n=2∨n=3∨n=4∨n=5∨n=6)):Ob n=[]:=by
 by_cases h0:Ob n=[]
 ·exact h0
 ·exact absurd (Vy h0) h
theorem vK{s:Int}{v m:Nat}(h:v<18446744073709551616)(hm:m≤1125899906842624):aI (s,wrap .i64 (v:Int),(m:Int))=decide (v≤m):=by
 unfold aI
 show(decide (0≤wrap .i64 (v:Int))&&decide (wrap .i64 (v:Int)≤(m:Int)))=decide (v≤m)
 rw[wR]
 by_cases hv:v≤m
 ·rw[decide_eq_true hv,decide_eq_true (by omega),decide_eq_true (by omega)];rfl
 ·rw[decide_eq_false hv]
  by_cases h2:v<9223372036854775808
  ·rw[decide_eq_false (p:=((v:Int)+9223372036854775808)%18446744073709551616-9223372036854775808≤(m:Int)) (by omega),Bool.and_false]
  ·rw[decide_eq_false (p:=0≤((v:Int)+9223372036854775808)%18446744073709551616-9223372036854775808) (by omega),Bool.false_and]
theorem inH{s:Int}{v:Nat}(h:v<65536):aI (s,wrap .i64 (wrap .u16 (v:Int)),65535)=decide (v≤65535):=by
 unfold aI
 rw[nV (by unfold Y8;omega),Af (by unfold I64;omega),decide_eq_true (show v≤65535 by omega),decide_eq_true (by show 0≤(v:Int);omega),decide_eq_true (by show(v:Int)≤65535;omega)];rfl
theorem Akh{n:Nat}{vals:List Nat}(hn:Ob n≠[])(hl:vals.length=(Ob n).length)(hb: ∀(i v:Nat) (s:Nat×Nat),vals[i]? =some v→(Ob n)[i]? =some s→v<256^s.1):(kF n vals).ok=vP (Ob n) vals∧(vP (Ob n) vals=true→kF n vals=mkF n vals):=by
 rcases Vy hn with rfl|rfl|rfl|rfl|rfl|rfl
 ·match vals,hl with
  |[v0,v1,v2,v3,v4,v5],_=>
   have b0:v0<256:=hb 0 v0 (1,63) rfl rfl
   have b1:v1<256:=hb 1 v1 (1,63) rfl rfl
   have b2:v2<65536:=hb 2 v2 (2,65535) rfl rfl
   have b3:v3<65536:=hb 3 v3 (2,65535) rfl rfl
   have b4:v4<256:=hb 4 v4 (1,63) rfl rfl
   have b5:v5<18446744073709551616:=hb 5 v5 (8,1125899906842624) rfl rfl
   have e1:kF 1 [v0,v1,v2,v3,v4,v5]=.sync (wrap .i64 (v0:Int),wrap .i64 (v1:Int),wrap .u16 (v2:Int),wrap .u16 (v3:Int),wrap .i64 (v4:Int),wrap .i64 (v5:Int)):=rfl
   have e2:mkF 1 [v0,v1,v2,v3,v4,v5]=.sync ((v0:Int),(v1:Int),(v2:Int),(v3:Int),(v4:Int),(v5:Int)):=rfl
   refine⟨?_,λhf=>?_⟩
   ·rw[e1]
    show okF (qZ (wrap .i64 (v0:Int),wrap .i64 (v1:Int),wrap .u16 (v2:Int),wrap .u16 (v3:Int),wrap .i64 (v4:Int),wrap .i64 (v5:Int)))=_
    unfold okF qZ
    have i0:aI (1,wrap .i64 (v0:Int),63)=decide (v0≤63):=vK (m:=63) (by have:=b0;omega) (by decide)
    have i1:aI (1,wrap .i64 (v1:Int),63)=decide (v1≤63):=vK (m:=63) (by have:=b1;omega) (by decide)
    have i2:aI (2,wrap .i64 (wrap .u16 (v2:Int)),65535)=decide (v2≤65535):=inH (by have:=b2;omega)
    have i3:aI (2,wrap .i64 (wrap .u16 (v3:Int)),65535)=decide (v3≤65535):=inH (by have:=b3;omega)
    have i4:aI (1,wrap .i64 (v4:Int),63)=decide (v4≤63):=vK (m:=63) (by have:=b4;omega) (by decide)
    have i5:aI (8,wrap .i64 (v5:Int),1125899906842624)=decide (v5≤1125899906842624):=vK (m:=1125899906842624) (by have:=b5;omega) (by decide)
    simp only[List.all_cons,List.all_nil,i0,i1,i2,i3,i4,i5]
    rfl
   ·have hf:(decide (v0≤63)&&(decide (v1≤63)&&(decide (v2≤65535)&&(decide (v3≤65535)&&(decide (v4≤63)&&(decide (v5≤1125899906842624)&&true))))))=true:=hf
    simp only[Bool.and_eq_true,decide_eq_true_eq,Bool.and_true] at hf
    rw[e1,e2]
    simp only[Af (n:=(v0:Int)) (by unfold I64;omega),Af (n:=(v1:Int)) (by unfold I64;omega),nV (n:=(v2:Int)) (by unfold Y8;omega),nV (n:=(v3:Int)) (by unfold Y8;omega),Af (n:=(v4:Int)) (by unfold I64;omega),Af (n:=(v5:Int)) (by unfold I64;omega)]
 ·match vals,hl with
  |[v0,v1],_=>
   have b0:v0<256:=hb 0 v0 (1,63) rfl rfl
   have b1:v1<256:=hb 1 v1 (1,63) rfl rfl
   have e1:kF 2 [v0,v1]=.find (wrap .i64 (v0:Int),wrap .i64 (v1:Int)):=rfl
   have e2:mkF 2 [v0,v1]=.find ((v0:Int),(v1:Int)):=rfl
   refine⟨?_,λhf=>?_⟩
   ·rw[e1]
    show okF (flD (wrap .i64 (v0:Int),wrap .i64 (v1:Int)))=_
    unfold okF flD
    have i0:aI (1,wrap .i64 (v0:Int),63)=decide (v0≤63):=vK (m:=63) (by have:=b0;omega) (by decide)
    have i1:aI (1,wrap .i64 (v1:Int),63)=decide (v1≤63):=vK (m:=63) (by have:=b1;omega) (by decide)
    simp only[List.all_cons,List.all_nil,i0,i1]
    rfl
   ·have hf:(decide (v0≤63)&&(decide (v1≤63)&&true))=true:=hf
    simp only[Bool.and_eq_true,decide_eq_true_eq,Bool.and_true] at hf
    rw[e1,e2]
    simp only[Af (n:=(v0:Int)) (by unfold I64;omega),Af (n:=(v1:Int)) (by unfold I64;omega)]
 ·match vals,hl with
  |[v0],_=>
   have b0:v0<256:=hb 0 v0 (1,63) rfl rfl
   have e1:kF 3 [v0]=.want (wrap .i64 (v0:Int)):=rfl
   have e2:mkF 3 [v0]=.want ((v0:Int)):=rfl
   refine⟨?_,λhf=>?_⟩
   ·rw[e1]
    show okF (flW (wrap .i64 (v0:Int)))=_
    unfold okF flW
    have i0:aI (1,wrap .i64 (v0:Int),63)=decide (v0≤63):=vK (m:=63) (by have:=b0;omega) (by decide)
    simp only[List.all_cons,List.all_nil,i0]
    rfl
   ·have hf:(decide (v0≤63)&&true)=true:=hf
    simp only[Bool.and_eq_true,decide_eq_true_eq,Bool.and_true] at hf
    rw[e1,e2]
    simp only[Af (n:=(v0:Int)) (by unfold I64;omega)]
 ·match vals,hl with
  |[v0,v1,v2],_=>
   have b0:v0<256:=hb 0 v0 (1,63) rfl rfl
   have b1:v1<256:=hb 1 v1 (1,63) rfl rfl
   have b2:v2<18446744073709551616:=hb 2 v2 (8,1125899906842624) rfl rfl
   have e1:kF 4 [v0,v1,v2]=.pulse (wrap .i64 (v0:Int),wrap .i64 (v1:Int),wrap .i64 (v2:Int)):=rfl
   have e2:mkF 4 [v0,v1,v2]=.pulse ((v0:Int),(v1:Int),(v2:Int)):=rfl
   refine⟨?_,λhf=>?_⟩
   ·rw[e1]
    show okF (flU (wrap .i64 (v0:Int),wrap .i64 (v1:Int),wrap .i64 (v2:Int)))=_
    unfold okF flU
    have i0:aI (1,wrap .i64 (v0:Int),63)=decide (v0≤63):=vK (m:=63) (by have:=b0;omega) (by decide)
    have i1:aI (1,wrap .i64 (v1:Int),63)=decide (v1≤63):=vK (m:=63) (by have:=b1;omega) (by decide)
    have i2:aI (8,wrap .i64 (v2:Int),1125899906842624)=decide (v2≤1125899906842624):=vK (m:=1125899906842624) (by have:=b2;omega) (by decide)
    simp only[List.all_cons,List.all_nil,i0,i1,i2]
    rfl
   ·have hf:(decide (v0≤63)&&(decide (v1≤63)&&(decide (v2≤1125899906842624)&&true)))=true:=hf
    simp only[Bool.and_eq_true,decide_eq_true_eq,Bool.and_true] at hf
    rw[e1,e2]
    simp only[Af (n:=(v0:Int)) (by unfold I64;omega),Af (n:=(v1:Int)) (by unfold I64;omega),Af (n:=(v2:Int)) (by unfold I64;omega)]
 ·match vals,hl with
  |[v0,v1,v2,v3,v4,v5,v6,v7],_=>
   have b0:v0<256:=hb 0 v0 (1,63) rfl rfl
   have b1:v1<256:=hb 1 v1 (1,63) rfl rfl
   have b2:v2<18446744073709551616:=hb 2 v2 (8,1125899906842624) rfl rfl
   have b3:v3<18446744073709551616:=hb 3 v3 (8,1125899906842624) rfl rfl
   have b4:v4<18446744073709551616:=hb 4 v4 (8,1125899906842624) rfl rfl
   have b5:v5<256:=hb 5 v5 (1,63) rfl rfl
   have b6:v6<65536:=hb 6 v6 (2,65535) rfl rfl
   have b7:v7<256:=hb 7 v7 (1,63) rfl rfl
   have e1:kF 5 [v0,v1,v2,v3,v4,v5,v6,v7]=.reply (wrap .i64 (v0:Int),wrap .i64 (v1:Int),wrap .i64 (v2:Int),wrap .i64 (v3:Int),wrap .i64 (v4:Int),wrap .i64 (v5:Int),wrap .u16 (v6:Int),wrap .i64 (v7:Int)):=rfl
   have e2:mkF 5 [v0,v1,v2,v3,v4,v5,v6,v7]=.reply ((v0:Int),(v1:Int),(v2:Int),(v3:Int),(v4:Int),(v5:Int),(v6:Int),(v7:Int)):=rfl
   refine⟨?_,λhf=>?_⟩
   ·rw[e1]
    show okF (flR (wrap .i64 (v0:Int),wrap .i64 (v1:Int),wrap .i64 (v2:Int),wrap .i64 (v3:Int),wrap .i64 (v4:Int),wrap .i64 (v5:Int),wrap .u16 (v6:Int),wrap .i64 (v7:Int)))=_
    unfold okF flR
    have i0:aI (1,wrap .i64 (v0:Int),63)=decide (v0≤63):=vK (m:=63) (by have:=b0;omega) (by decide)
    have i1:aI (1,wrap .i64 (v1:Int),63)=decide (v1≤63):=vK (m:=63) (by have:=b1;omega) (by decide)
    have i2:aI (8,wrap .i64 (v2:Int),1125899906842624)=decide (v2≤1125899906842624):=vK (m:=1125899906842624) (by have:=b2;omega) (by decide)
    have i3:aI (8,wrap .i64 (v3:Int),1125899906842624)=decide (v3≤1125899906842624):=vK (m:=1125899906842624) (by have:=b3;omega) (by decide)
    have i4:aI (8,wrap .i64 (v4:Int),1125899906842624)=decide (v4≤1125899906842624):=vK (m:=1125899906842624) (by have:=b4;omega) (by decide)
    have i5:aI (1,wrap .i64 (v5:Int),63)=decide (v5≤63):=vK (m:=63) (by have:=b5;omega) (by decide)
    have i6:aI (2,wrap .i64 (wrap .u16 (v6:Int)),65535)=decide (v6≤65535):=inH (by have:=b6;omega)
    have i7:aI (1,wrap .i64 (v7:Int),63)=decide (v7≤63):=vK (m:=63) (by have:=b7;omega) (by decide)
    simp only[List.all_cons,List.all_nil,i0,i1,i2,i3,i4,i5,i6,i7]
    rfl
   ·have hf:(decide (v0≤63)&&(decide (v1≤63)&&(decide (v2≤1125899906842624)&&(decide (v3≤1125899906842624)&&(decide (v4≤1125899906842624)&&(decide (v5≤63)&&(decide (v6≤65535)&&(decide (v7≤63)&&true))))))))=true:=hf
    simp only[Bool.and_eq_true,decide_eq_true_eq,Bool.and_true] at hf
    rw[e1,e2]
    simp only[Af (n:=(v0:Int)) (by unfold I64;omega),Af (n:=(v1:Int)) (by unfold I64;omega),Af (n:=(v2:Int)) (by unfold I64;omega),Af (n:=(v3:Int)) (by unfold I64;omega),Af (n:=(v4:Int)) (by unfold I64;omega),Af (n:=(v5:Int)) (by unfold I64;omega),nV (n:=(v6:Int)) (by unfold Y8;omega),Af (n:=(v7:Int)) (by unfold I64;omega)]
 ·match vals,hl with
  |[v0,v1,v2,v3,v4,v5],_=>
   have b0:v0<256:=hb 0 v0 (1,63) rfl rfl
   have b1:v1<65536:=hb 1 v1 (2,65535) rfl rfl
   have b2:v2<256:=hb 2 v2 (1,63) rfl rfl
   have b3:v3<65536:=hb 3 v3 (2,65535) rfl rfl
   have b4:v4<18446744073709551616:=hb 4 v4 (8,1125899906842624) rfl rfl
   have b5:v5<18446744073709551616:=hb 5 v5 (8,1125899906842624) rfl rfl
   have e1:kF 6 [v0,v1,v2,v3,v4,v5]=.anchor (wrap .i64 (v0:Int),wrap .u16 (v1:Int),wrap .i64 (v2:Int),wrap .u16 (v3:Int),wrap .i64 (v4:Int),wrap .i64 (v5:Int)):=rfl
   have e2:mkF 6 [v0,v1,v2,v3,v4,v5]=.anchor ((v0:Int),(v1:Int),(v2:Int),(v3:Int),(v4:Int),(v5:Int)):=rfl
   refine⟨?_,λhf=>?_⟩
   ·rw[e1]
    show okF (flN (wrap .i64 (v0:Int),wrap .u16 (v1:Int),wrap .i64 (v2:Int),wrap .u16 (v3:Int),wrap .i64 (v4:Int),wrap .i64 (v5:Int)))=_
    unfold okF flN
    have i0:aI (1,wrap .i64 (v0:Int),63)=decide (v0≤63):=vK (m:=63) (by have:=b0;omega) (by decide)
    have i1:aI (2,wrap .i64 (wrap .u16 (v1:Int)),65535)=decide (v1≤65535):=inH (by have:=b1;omega)
    have i2:aI (1,wrap .i64 (v2:Int),63)=decide (v2≤63):=vK (m:=63) (by have:=b2;omega) (by decide)
    have i3:aI (2,wrap .i64 (wrap .u16 (v3:Int)),65535)=decide (v3≤65535):=inH (by have:=b3;omega)
    have i4:aI (8,wrap .i64 (v4:Int),1125899906842624)=decide (v4≤1125899906842624):=vK (m:=1125899906842624) (by have:=b4;omega) (by decide)
    have i5:aI (8,wrap .i64 (v5:Int),1125899906842624)=decide (v5≤1125899906842624):=vK (m:=1125899906842624) (by have:=b5;omega) (by decide)
    simp only[List.all_cons,List.all_nil,i0,i1,i2,i3,i4,i5]
    rfl
   ·have hf:(decide (v0≤63)&&(decide (v1≤65535)&&(decide (v2≤63)&&(decide (v3≤65535)&&(decide (v4≤1125899906842624)&&(decide (v5≤1125899906842624)&&true))))))=true:=hf
    simp only[Bool.and_eq_true,decide_eq_true_eq,Bool.and_true] at hf
    rw[e1,e2]
    simp only[Af (n:=(v0:Int)) (by unfold I64;omega),nV (n:=(v1:Int)) (by unfold Y8;omega),Af (n:=(v2:Int)) (by unfold I64;omega),nV (n:=(v3:Int)) (by unfold Y8;omega),Af (n:=(v4:Int)) (by unfold I64;omega),Af (n:=(v5:Int)) (by unfold I64;omega)]
theorem sH{L:List (Nat×Nat)}{b:List Nat}(hx:pG b): ∀(i v:Nat) (s:Nat×Nat),(U3 L b)[i]? =some v→L[i]? =some s→v<256^s.1:=by
 intro i v s hv hs
 rw[qH L b i s hs] at hv
 injection hv with hv
 subst hv
 refine Nat.lt_of_lt_of_le (Af4 _ ((hx.drop _).take _)) (Nat.pow_le_pow_right (by decide) ?_)
 rw[List.length_take];omega
theorem Aq4{n:Nat}(hn:Ob n≠[])(v:List Nat):(kF n v).kd=n:=by
 rcases Vy hn with rfl|rfl|rfl|rfl|rfl|rfl<;>rfl
theorem Ajn{n:Nat}(hn:Ob n≠[]):(kF n []).fs.map (·.1)=(Ob n).map λs=>(s.1:Int):=by
 rcases Vy hn with rfl|rfl|rfl|rfl|rfl|rfl<;>rfl
theorem Ar8{n:Nat}(hn:Ob n≠[]):szF (kF n []).fs=(mP (Ob n):Int):=by
 rcases Vy hn with rfl|rfl|rfl|rfl|rfl|rfl<;>rfl
abbrev Au1:List (Bool×List CK):=[(false,[.any])]
theorem Qk.cl{n:Nat}{w:World}{k:TR Au1→WP}(h0:Ob n=[]→k ((.nilIface,()),()) w)(h1:Ob n≠[]→k (((kF n []).val,()),()) w):Ad prog F.Qk [.int .u64 (n:Int)] w false Au1 k:=by
 refine Qk.ok ?_
 have g: ∀{m:Nat},n=m→Ob m≠[]→k (((kF m []).val,()),()) w:=λe h=>by subst e;exact h1 h
 refine Vh (λc=>g (m:=1) (by have c:(n:Int)=1:=c;omega) (by decide)) λc1=>Vh (λc=>g (m:=2) (by have c:(n:Int)=2:=c;omega) (by decide)) λc2=>Vh (λc=>g (m:=3) (by have c:(n:Int)=3:=c;omega) (by decide)) λc3=>Vh (λc=>g (m:=4) (by have c:(n:Int)=4:=c;omega) (by decide)) λc4=>Vh (λc=>g (m:=5) (by have c:(n:Int)=5:=c;omega) (by decide)) λc5=>Vh (λc=>g (m:=6) (by have c:(n:Int)=6:=c;omega) (by decide)) λc6=>h0 (Ar6 ?_)
 have c1:(n:Int)≠1:=c1
 have c2:(n:Int)≠2:=c2
 have c3:(n:Int)≠3:=c3
 have c4:(n:Int)≠4:=c4
 have c5:(n:Int)≠5:=c5
 have c6:(n:Int)≠6:=c6
 omega
theorem Akk{k:Bool→Prop}(h:k true):nlK .nilIface k:=h
theorem Fr.nl(f:Fr){k:Bool→Prop}(h:k false):nlK f.val k:=by cases f<;>exact h
abbrev RAI:List (Bool×List CK):=[(false,[.any]),(false,[KI])]
theorem Ai3(v:List Nat): ∀u∈Ry v,u.oneCell'=true:=by
 intro u hu
 simp only[List.mem_map] at hu
 obtain⟨x,_,rfl⟩:=hu;rfl
theorem Rh.cl{xs:List Nat}(hx:pG xs){b:Sl}{w:World}(hR:dC w b xs)(hcap:b.2.1≤b.2.2){k:TR RAI→WP}
  (he: ∀e,jP xs=.error e→e≠0→ ∀w',Ah w w'→k ((.nilIface,()),(e,()),()) w') (hf: ∀f,jP xs=.ok f→ ∀w',Ah w w'→k ((f.val,()),(0,()),()) w'):Ad prog F.Rh [.slice b.1 b.2.1 b.2.2] w true RAI k:=by
 refine Rh.ok (b:=b) ?_
 have hn:=hR.len'
 refine Cf (λc=>?_) λc=>?_
 ·have c:(b.2.1:Int)>64:=c
  exact he 5 (by unfold jP;rw[if_pos (by omega)]) (by decide) w (Ah.refl _)
 have c: ¬(b.2.1:Int)>64:=c
 have l64: ¬xs.length>64:=by omega
 have D1:jP xs=if xs.length=0 then .error 3 else if Ob (xs.headD 0)=[]∨xs.length≠mP (Ob (xs.headD 0))+3 then .error 3 else if Xi 65535 xs≠0 then .error 4 else if vP (Ob (xs.headD 0)) (U3 (Ob (xs.headD 0)) xs.tail)=false then .error 3 else .ok (mkF (xs.headD 0) (U3 (Ob (xs.headD 0)) xs.tail)):=by
  unfold jP;rw[if_neg l64]
 refine Y2.cl hR (by omega) λp y w2 hp hE hy u2=>?_
 have R2:=Row.Ai hR u2
 refine Ku.cl (n:=1) rfl (by decide) hx (by omega) (by omega) hE (λhlt w4 u4=>?_) λhle w4 E4 u4=>?_
 ·have hl0:xs.length=0:=by omega
  refine Qk.cl (n:=0) (λ_=>?_) λh=>absurd rfl h
  refine Akk (We rfl ?_)
  exact he 3 (by rw[D1,if_pos hl0]) (by decide) w4 (u2.trans u4)
 obtain⟨n,t,rfl⟩: ∃n t,xs=n::t:=by
  cases xs with
  |nil=>simp at hle
  |cons n t=>exact⟨n,t,rfl⟩
 have hg1:jE (((n::t).drop 0).take 1)=n:=by simp[jE]
 rw[hg1]
 have D2:jP (n::t)=if Ob n=[]∨(n::t).length≠mP (Ob n)+3 then .error 3 else if Xi 65535 (n::t)≠0 then .error 4 else if vP (Ob n) (U3 (Ob n) t)=false then .error 3 else .ok (mkF n (U3 (Ob n) t)):=by
  rw[D1,if_neg (by simp)];rfl
 have lw:=u2.size
 have U4:Ah w w4:=Ap.trans u2 u4 λi hi e=>by omega
 refine Qk.cl (n:=n) (λh0=>?_) λhk0=>?_
 ·refine Akk (We rfl ?_)
  exact he 3 (by rw[D2,if_pos (.inl h0)]) (by decide) w4 U4
 refine Fr.nl (kF n []) (Le rfl (Fr.Avs (kF n []) λw9 u9=>?_))
 rw[Ar8 hk0]
 have hS:mP (Ob n)≤64:=by
  rcases Vy hk0 with rfl|rfl|rfl|rfl|rfl|rfl<;>decide
 rw[Af (n:=(mP (Ob n):Int)+3) (by unfold I64;omega)]
 refine dS (λc3=>?_) λc3=>?_
 ·have c3:(b.2.1:Int)≠(mP (Ob n):Int)+3:=c3
  exact he 3 (by rw[D2,if_pos (.inr (by omega))]) (by decide) w9 (U4.trans u9)
 have c3:(b.2.1:Int)=(mP (Ob n):Int)+3:=c3
 have hlen:(n::t).length=mP (Ob n)+3:=by omega
 have D3:jP (n::t)=if Xi 65535 (n::t)≠0 then .error 4 else if vP (Ob n) (U3 (Ob n) t)=false then .error 3 else .ok (mkF n (U3 (Ob n) t)):=by
  rw[D2,if_neg (by rintro(h|h);exact hk0 h;exact h hlen)]
 have hbl: ∀a,b.1=some a→a.block<w.heap.size:=λa ha=>by
  obtain⟨a',ha',hc⟩:=hR.at_ (by simp)
  rw[ha] at ha';cases ha'
  have:=cell_lt (hc 0 _ rfl)
  rw[add_block] at this;exact this
 have R4:dC w4 b (n::t):=Row.upd R2 u4 λa ha e=>by have:=hbl a ha;omega
 have R9:=Row.Ai R4 u9
 have E9:=E4.Ai u9
 refine Yl.cl hx R9 hcap (by omega) (by omega) λyy w11 u11=>En (λcc=>?_) λcc=>?_
 ·have cc:decide (Xi 65535 (n::t)=0)=false:=cc
  exact he 4 (by rw[D3,if_pos (by simpa using cc)]) (by decide) w11 ((U4.trans u9).trans u11)
 have cc:decide (Xi 65535 (n::t)=0)=true:=cc
 have D4:jP (n::t)=if vP (Ob n) (U3 (Ob n) t)=false then .error 3 else .ok (mkF n (U3 (Ob n) t)):=by
  rw[D3,if_neg (by simpa using cc)]
 have E11:=E9.Ai u11
 refine Fr.Aon (kF n []) λq w13 u13 hQ hq=>?_
 have E13:=E11.Ai u13
 have G13:=((U4.trans u9).trans u11).trans u13
 have pl:p<w11.heap.size:=E11.b.lt
 have lf:(kF n []).fs.length=(Ob n).length:=by
  have:=congrArg List.length (Ajn hk0)
  simpa using this
 have ls:(Ob n).length≤8:=by rw[←lf];exact(kF n []).few
 have hql:=hQ.len
 have lcut:(U3 (Ob n) t).length=(Ob n).length:=Acy _ _
 have tot: ∀i,i≤(Ob n).length→mP ((Ob n).take i)≤mP (Ob n):=λi hi=>by
  conv=>rhs;rw[←List.take_append_drop i (Ob n)]
  generalize (Ob n).drop i=B
  generalize (Ob n).take i=A
  induction A with
  |nil=>exact Nat.zero_le _
  |cons a A ih=>rw[List.cons_append,aT,aT];omega
 refine Aw.by (λz W=> ∃i:Nat,i≤(Ob n).length∧z.2=((i:Int),())∧pM W p y (n::t) (1+mP ((Ob n).take i))∧Dp W w13.heap.size T.uint64 1 z.1 i (Ry ((U3 (Ob n) t).take i))∧Ap (λz=>z=p) w13 W) (λz=>(100-z.2.1).toNat)
  ⟨0,by omega,rfl,by simpa [mP] using E13,Dp.nil _ _ _ _,Ap.refl _ _⟩ ?_
 rintro⟨s,z2⟩ W ⟨i,hi,ez,hW,hO,hU⟩ _
 dsimp only at ez hO⊢
 subst ez
 have hQW:Nu W q (kF n []).fs:=Row.upd hQ hU λa ha e=>by have:=hq a ha;omega
 refine Cf (λc5=>?_) λc5=>?_
 ·have c5:(i:Int)<(q.2.1:Int):=c5
  have hil:i<(Ob n).length:=by omega
  have hif:i<(kF n []).fs.length:=by rw[lf];exact hil
  have hfi:(kF n []).fs[i]? =some ((kF n []).fs[i]'hif):=List.getElem?_eq_getElem _
  have hsi:(Ob n)[i]? =some (Ob n)[i]:=List.getElem?_eq_getElem hil
  have hfs:((kF n []).fs[i]'hif).1=((Ob n)[i].1:Int):=by
   have:=congrArg (·[i]?) (Ajn hk0)
   simp only[List.getElem?_map,hfi,hsi,Option.map_some,Option.some.injEq] at this
   exact this
  have hs8:(Ob n)[i].1≤8:=by
   have h1:=(kF n []).small _ (List.getElem_mem hif)
   have:=h1.2.1
   rw[hfs] at this;omega
  generalize (kF n []).fs[i]'hif=e at hfi hfs
  refine hQW.ix (z:=(i:Int)) rfl hfi λad ha=>hQW.Bc ha hfi ?_
  refine Ae λp19 w20 e19 k19 u20=>k19.E5 [_,_,_] rfl rfl λw21 k21 u21=>k21.c0 (c:=KI) (x:=e.1) rfl ?_
  have g21:Ah W w21:=Ah.fresh (Ah.refl _) u20 u21 e19
  have tk:mP ((Ob n).take (i+1))=mP ((Ob n).take i)+(Ob n)[i].1:=by
   rw[List.take_add_one,hsi]
   simp only[Option.toList_some]
   generalize (Ob n).take i=A
   induction A with
   |nil=>rw[List.nil_append,aT];simp[mP]
   |cons a A ih=>rw[List.cons_append,aT,aT,ih];omega
  have tl:=tot (i+1) (by omega)
  refine Ku.cl (n:=(Ob n)[i].1) hfs hs8 hx (by omega) (by rw[hlen];omega) (hW.Ai g21) (λhlt=>absurd hlt (by rw[hlen];omega)) λ_ w24 E24 u24=>?_
  have hval:jE (((n::t).drop (1+mP ((Ob n).take i))).take (Ob n)[i].1)=jE ((t.drop (mP ((Ob n).take i))).take (Ob n)[i].1):=by
   rw[show 1+mP ((Ob n).take i)=mP ((Ob n).take i)+1 by omega,List.drop_succ_cons]
  rw[hval]
  have hvi:=qH (Ob n) t i _ hsi
  refine Ae λp25 w26 e25 k25 u26=>?_
  have O24:=(hO.Ai g21).upd u24 λa ha e=>by have:=(hO.blk ha).1;have:=u13.size;omega
  have O26:=O24.Ai u26
  have s24:=u24.size
  have s26:=u26.size
  have s21:=g21.size
  have sW:=hU.size
  refine S9 (s:=s) (x:=(some ⟨p25,0,none⟩,1,1)) (base:=w13.heap.size) (e:=T.uint64) (size:=1) (n:=i) (xs:=Ry ((U3 (Ob n) t).take i)) (news:=Ry [jE ((t.drop (mP ((Ob n).take i))).take (Ob n)[i].1)]) (by kernel_rfl) (by kernel_rfl) (by decide) O26 (k25.row rfl) (Ai3 _) (by show i+1≤1000000000;omega) (by omega) λs' w28 o28 u28 hb28=>⟨⟨i+1,by omega,?_,?_,?_,?_⟩,?_⟩
  ·show(wrap .i64 ((i:Int)+1),())=_
   rw[Af (by unfold I64;omega)];rfl
  ·have E26:=E24.Ai u26
   rw[tk,←Nat.add_assoc]
   refine E26.upd u28 (λ⟨a,ha,e⟩=>?_) λa ha ⟨a',ha',e⟩=>?_
   ·have:=(hO.blk ha).1;have:=u13.size;omega
   ·have h1:=(hO.blk ha').1
    have:a.block<w13.heap.size:=by
     obtain⟨a0,ha0,hc⟩:=E13.r.at_ (by simp)
     rw[ha] at ha0;cases ha0
     have:=cell_lt (hc 0 _ rfl)
     rw[add_block] at this;exact this
    omega
  ·have:(U3 (Ob n) t).take (i+1)=(U3 (Ob n) t).take i++[jE ((t.drop (mP ((Ob n).take i))).take (Ob n)[i].1)]:=by
    rw[List.take_add_one,hvi];rfl
   rw[this]
   unfold Ry at o28⊢
   rw[List.map_append];exact o28
  ·have a1:Ap (λz=>z=p) w13 w24:=Ap.trans (hU.Ai g21) u24 λ_ _ x=>x
   exact Ap.trans (a1.Ai u26) u28 λj hj ⟨a,ha,e⟩=>by have:=(hO.blk ha).1;omega
  ·show(100-wrap .i64 ((i:Int)+1)).toNat<(100-(i:Int)).toNat
   rw[Af (by unfold I64;omega)];omega
 ·have c5: ¬(i:Int)<(q.2.1:Int):=c5
  have:i=(Ob n).length:=by omega
  subst this
  have hOr:=hO.row
  rw[←lcut,List.take_length] at hOr
  have GW:Ah w W:=Ap.trans G13 hU λj hj e=>by omega
  refine Fr.Avq (kF n []) (n:=s) hOr (by rw[lcut,lf]) λw30 u30=>?_
  rw[Aq4 hk0]
  obtain⟨q1,q2⟩:=Akh hk0 lcut (sH (L:=Ob n) (hx.drop 1))
  refine Fr.good (kF n (U3 (Ob n) t)) λw32 u32=>En (λcf=>?_) λcf=>?_
  ·have cf:(kF n (U3 (Ob n) t)).ok=false:=cf
   exact he 3 (by rw[D4,if_pos (by rw[←q1];exact cf)]) (by decide) w32 ((GW.trans u30).trans u32)
  ·have cf:(kF n (U3 (Ob n) t)).ok=true:=cf
   rw[q1] at cf
   have:=hf (mkF n (U3 (Ob n) t)) (by rw[D4,if_neg (by rw[cf];decide)]) w32 ((GW.trans u30).trans u32)
   rw[q2 cf];exact this
theorem qA{xs:List Nat}{f:Fr}(hx:pG xs)(h:jP xs=.ok f):f.ok=true∧f.u:=by
 unfold jP at h
 split at h
 ·cases h
 split at h
 ·cases h
 rename_i h0
 split at h
 ·cases h
 rename_i h1
 split at h
 ·cases h
 split at h
 ·cases h
 rename_i h2
 injection h with h
 obtain⟨n,t,rfl⟩: ∃n t,xs=n::t:=by
  cases xs with
  |nil=>exact absurd rfl h0
  |cons n t=>exact⟨n,t,rfl⟩
 have hk0:Ob n≠[]:=λe=>h1 (.inl e)
 have lcut:(U3 (Ob n) t).length=(Ob n).length:=Acy _ _
 obtain⟨q1,q2⟩:=Akh hk0 lcut (sH (L:=Ob n) (hx.drop 1))
 have h2:vP (Ob n) (U3 (Ob n) t)=true:=by
  cases hb:vP (Ob n) (U3 (Ob n) t)
  ·exact absurd hb h2
  ·rfl
 have e:=q2 h2
 change mkF n (U3 (Ob n) t)=f at h
 rw[←h,←e]
 refine⟨by rw[q1];exact h2,?_⟩
 have hu: ∀v i,Y8 (wH v i):=λv i=>by unfold wH Y8;rw[Ad0];omega
 rcases Vy hk0 with rfl|rfl|rfl|rfl|rfl|rfl
 ·exact⟨hu _ _,hu _ _⟩
 ·trivial
 ·trivial
 ·trivial
 ·exact hu _ _
 ·exact⟨hu _ _,hu _ _⟩
theorem Ag3{w:World}{O:NP}{N:NB}{bf be:Nat}{d:Nd}{s:S6}{t:Int}(h:NW w O N bf be d){k:TR Kt→WP}
  (hk: ∀w' O',NW w' O' N bf be (d.take (.sync s) t).1→Nx (NO N O) w (NO N O') w'→k (((d.take (.sync s) t).2,()),()) w'):Ad prog F.Dz [pB (N 0),Fr.val (.sync s),iV t] w false Kt k:=by
 refine Xk.ok (f0:=s.1) (f1:=s.2.1) (f2:=s.2.2.1) (f3:=s.2.2.2.1) (f4:=s.2.2.2.2.1) (f5:=s.2.2.2.2.2) ?_
 refine Bh.by (λz W=>Ah w W) (Xb h (K:=λp e w'=>Ah w w') λp w' g _ _=>g) ?_
 rintro z W g _
 refine Ae λp19 w20 e19 k19 u20=>k19.E5 (encs KS (tS s)) rfl rfl λw21 k21 u21=>?_
 have g21:=Ah.fresh g u20 u21 e19
 rw[Aq,Ac]
 have H:=(h.Ai g21).drew
 have G:=g21.trans (Ah.drew w21)
 refine H.n0 15 (c:=.p) (x:=some ⟨bf,0,none⟩) rfl (k21.drew.cA (cs:=KS) (tS s) rfl ?_)
 refine Jd.cw (s:=s) H.fw (λh0 w27 u27=>⟨trivial,?_⟩) λc hc c0 hok w27 O' F27 x27=>⟨trivial,?_⟩
 ·have e:d.take (.sync s) t=(d,0):=by show(d.Xp s t,(0:Int))=_;unfold Nd.Xp;rw[if_pos h0]
  rw[e] at hk
  exact hk w27 O (H.Ai u27) (Nx.of (G.trans u27))
 ·have e:d.take (.sync s) t=({d with f:=hfF d.f s t,e:=hrE d.e s.2.1,l:=bM d.l s.2.1 (mrk s),es:=esF c d.es s t},0):=by show(d.Xp s t,(0:Int))=_;unfold Nd.Xp;rw[hc,if_neg c0]
  rw[e] at hk
  exact hk w27 O' (H.Asg F27 x27) (Nx.pre G (NW.nxF (N:=N) x27))
theorem Agv{w:World}{O:NP}{N:NB}{bf be:Nat}{d:Nd}{x:Int×Int}{t:Int}(h:NW w O N bf be d){k:TR Kt→WP}
  (hk: ∀w' O',NW w' O' N bf be (d.take (.find x) t).1→Nx (NO N O) w (NO N O') w'→k (((d.take (.find x) t).2,()),()) w'):Ad prog F.Dz [pB (N 0),Fr.val (.find x),iV t] w false Kt k:=by
 refine Xl.ok (f0:=x.1) (f1:=x.2) ?_
 refine Bh.by (λz W=>Ah w W) (Xb h (K:=λp e w'=>Ah w w') λp w' g _ _=>g) ?_
 rintro z W g _
 refine Ae λp19 w20 e19 k19 u20=>k19.E5 [iV x.1,iV x.2] rfl rfl λw21 k21 u21=>?_
 have g21:=Ah.fresh g u20 u21 e19
 have H21:=h.Ai g21
 rw[Ac]
 refine H21.n0 15 (c:=.p) (x:=some ⟨bf,0,none⟩) rfl (Az.cw H21.fw λw25 u25=>En (λc=>?_) λc=>?_)
 ·have e:d.take (.find x) t=({d with lev:=(V4 d.s.me d.lev d.par x).1.1,par:=(V4 d.s.me d.lev d.par x).1.2},0):=by show(if Xm d.f d.e d.es.length=true then _ else _)=_;rw[if_neg (by have c:Xm d.f d.e d.es.length=false:=c;rw[c];decide)]
  rw[e] at hk
  rw[Aq,Ac]
  have G:=(g21.trans u25).trans (Ah.drew w25)
  have H:=(H21.Ai u25).drew
  refine H.n0 16 (c:=.p) (x:=some ⟨N 2,0,none⟩) rfl ((k21.Ai u25).drew.cA (cs:=[KI,KI]) (x.1,x.2,()) rfl ?_)
  refine Jj.cl (x:=x) H.lb λw31 k31 u31=>⟨trivial,hk w31 O (H.set2 k31 u31) (Nx.pre G (NW.nx 2 (by decide) u31))⟩
 ·have e:d.take (.find x) t=(d,0):=by show(if Xm d.f d.e d.es.length=true then _ else _)=_;rw[if_pos c]
  rw[e] at hk
  exact hk w25 O (H21.Ai u25) (Nx.of (g21.trans u25))
theorem Ahl{w:World}{O:NP}{N:NB}{bf be:Nat}{d:Nd}{m t:Int}(h:NW w O N bf be d){k:TR Kt→WP}
  (hk: ∀w' O',NW w' O' N bf be (d.take (.want m) t).1→Nx (NO N O) w (NO N O') w'→k (((d.take (.want m) t).2,()),()) w'):Ad prog F.Dz [pB (N 0),Fr.val (.want m),iV t] w false Kt k:=by
 refine Xf.ok (f0:=m) ?_
 refine Bh.by (λz W=>Ah w W∧z.2=((d.tm t).2,())) (Xb h (K:=λp e w'=>Ah w w'∧((e,()):Int×Unit)=((d.tm t).2,())) λp w' g _ _=>⟨g,rfl⟩) ?_
 rintro⟨z1,z2⟩ W ⟨g,ez⟩ _
 dsimp only at ez
 subst ez
 refine Ae λp19 w20 e19 k19 u20=>k19.E5 [iV m] rfl rfl λw21 k21 u21=>?_
 have g21:=Ah.fresh g u20 u21 e19
 have H21:=h.Ai g21
 refine Vh (λc=>?_) λc=>?_
 ·have e:d.take (.want m) t=d.push .find:=by show(if(d.tm t).2=0 then _ else _)=_;rw[if_pos c]
  rw[e] at hk
  rw[Ac]
  refine H21.n0 27 (c:=.p) (x:=some ⟨N 8,0,none⟩) rfl (gI (j:=.find) H21 λw25 H25 x25=>hk w25 O H25 (Nx.pre g21 x25))
 ·have e:d.take (.want m) t=(d,0):=by show(if(d.tm t).2=0 then _ else _)=_;rw[if_neg c]
  rw[e] at hk
  exact hk w21 O H21 (Nx.of g21)
theorem Aeh{w:World}{O:NP}{N:NB}{bf be:Nat}{d:Nd}{x:Int×Int×Int}{t:Int}(h:NW w O N bf be d){k:TR Kt→WP}
  (hk: ∀w' O',NW w' O' N bf be (d.take (.pulse x) t).1→Nx (NO N O) w (NO N O') w'→k (((d.take (.pulse x) t).2,()),()) w'):Ad prog F.Dz [pB (N 0),Fr.val (.pulse x),iV t] w false Kt k:=by
 refine Xa.ok (f0:=x.1) (f1:=x.2.1) (f2:=x.2.2) ?_
 refine Bh.by (λz W=>Ah w W∧ ∃p,z=(⟨p,0,none⟩,(d.tm t).2,())∧w.heap.size≤p∧Ar W p (encs K5 (dM (d.tm t).1))) (Xb h (K:=λp e w'=>Ah w w'∧ ∃q,((p,e,()):Addr×Int×Unit)=(⟨q,0,none⟩,(d.tm t).2,())∧w.heap.size≤q∧Ar w' q (encs K5 (dM (d.tm t).1))) λp w' g hp kp=>⟨g,p,rfl,hp,kp⟩) ?_
 rintro z W ⟨g,p,rfl,hp,kp⟩ _
 have lp:=kp.lt
 refine Ae λp19 w20 e19 k19 u20=>k19.E5 [iV x.1,iV x.2.1,iV x.2.2] rfl rfl λw21 k21 u21=>?_
 have f21:Ah W w21:=Ah.fresh (Ah.refl _) u20 u21 e19
 have g21:=g.trans f21
 have H21:=h.Ai g21
 have P21:=kp.Ai f21
 have lt:=h.lt
 have sW:=g.size
 refine Bh.by (λz W'=>Ah w21 W'∧z=(decide ((d.tm t).2=0∧x.2.1=d.s.me),())) ?_ ?_
 ·rw[Aq]
  refine Vh (λc=>?_) λc=>⟨Ah.drew _,?_⟩
  ·have c:(d.tm t).2=0:=c
   refine k21.drew.c1 1 (c:=KI) (x:=x.2.1) rfl ?_
   rw[Ac]
   refine H21.drew.nb.c0 (c:=KI) (x:=d.s.me) rfl ⟨Ah.drew _,?_⟩
   by_cases q:x.2.1=d.s.me
   ·rw[beq_iff_eq.2 q,decide_eq_true ⟨c,q⟩]
   ·rw[beq_eq_false_iff_ne.2 q,decide_eq_false λh=>q h.2]
  ·have c:(d.tm t).2≠0:=c
   rw[decide_eq_false λh=>c h.1]
 ·rintro z W' ⟨g',rfl⟩ _
  refine Cf (λc=>?_) λc=>?_
  ·have e:d.take (.pulse x) t=d.push (.reply x.1 x.2.2 (d.tm t).1):=by show(if(d.tm t).2=0∧x.2.1=d.s.me then _ else _)=_;rw[if_pos c]
   rw[e] at hk
   rw[Aq,Ac]
   have H:=(H21.Ai g').drew
   have G:=(g21.trans g').trans (Ah.drew W')
   have K:=(k21.Ai g').drew
   have P:=(P21.Ai g').drew
   generalize W'.drew=w29 at*
   refine H.n0 27 (c:=.p) (x:=some ⟨N 8,0,none⟩) rfl (K.c0 (c:=KI) (x:=x.1) rfl (K.c1 2 (c:=KI) (x:=x.2.2) rfl (P.cA (cs:=K5) (dM (d.tm t).1) rfl ?_)))
   have np: ¬NO N O p19:=λhz=>by have:=lt _ hz;omega
   have npp: ¬NO N O p:=λhz=>by have:=lt _ hz;omega
   exact gI (j:=.reply x.1 x.2.2 (d.tm t).1) H λw36 H36 x36=>⟨⟨P.hold x36.u npp 0 (by simp[encs]),P.hold x36.u npp 1 (by simp[encs]),P.hold x36.u npp 2 (by simp[encs]),P.hold x36.u npp 3 (by simp[encs]),P.hold x36.u npp 4 (by simp[encs]),K.hold x36.u np 2 (by simp),K.hold x36.u np 0 (by simp),trivial⟩,hk w36 O H36 (Nx.pre G x36)⟩
  ·have e:d.take (.pulse x) t=(d,0):=by show(if(d.tm t).2=0∧x.2.1=d.s.me then _ else _)=_;rw[if_neg c]
   rw[e] at hk
   exact hk W' O (H21.Ai g') (Nx.of (g21.trans g'))
abbrev K8r:List CK:=[KI,KI,KI,KI,KI,KI,KU,KI]
def tR8(r:R8):Ky K8r:=(r.1,r.2.1,r.2.2.1,r.2.2.2.1,r.2.2.2.2.1,r.2.2.2.2.2.1,r.2.2.2.2.2.2.1,r.2.2.2.2.2.2.2,())
theorem Aer{w:World}{O:NP}{N:NB}{bf be:Nat}{d:Nd}{r:R8}{t:Int}(h:NW w O N bf be d)(hr:okF (flR r)=true){k:TR Kt→WP}
  (hk: ∀w' O',NW w' O' N bf be (d.take (.reply r) t).1→Nx (NO N O) w (NO N O') w'→k (((d.take (.reply r) t).2,()),()) w'):Ad prog F.Dz [pB (N 0),Fr.val (.reply r),iV t] w false Kt k:=by
 refine Wq.ok (f0:=r.1) (f1:=r.2.1) (f2:=r.2.2.1) (f3:=r.2.2.2.1) (f4:=r.2.2.2.2.1) (f5:=r.2.2.2.2.2.1) (f6:=r.2.2.2.2.2.2.1) (f7:=r.2.2.2.2.2.2.2) ?_
 refine Bh.by (λz W=>Ah w W) (Xb h (K:=λp e w'=>Ah w w') λp w' g _ _=>g) ?_
 rintro z W g _
 refine Ae λp19 w20 e19 k19 u20=>k19.E5 (encs K8r (tR8 r)) rfl rfl λw21 k21 u21=>?_
 have g21:=Ah.fresh g u20 u21 e19
 have H21:=h.Ai g21
 have lt:=h.lt
 have sW:=g.size
 have n19: ∀z,NO N O z→z≠p19:=λz hz=>by have:=lt _ hz;omega
 have l19:=k21.lt
 refine Bh.by (λz W'=> ∃q,z.1=⟨q,0,none⟩∧Ap (λz=>z=N 3) w W'∧Ar W' p19 (encs K8r (tR8 r))∧
   ((Qv d.pr r t=true∧z.2=(true,())∧Ar W' q [iV (Vp r t).1,iV (Vp r t).2.1,iV (Vp r t).2.2]∧NW W' O N bf be {d with pr:=Zw d.pr r t})∨(Qv d.pr r t=false∧z.2=(false,())∧NW W' O N bf be d))) ?_ ?_
 ·rw[Aq,Ac]
  have H:=H21.drew
  have G:=g21.trans (Ah.drew w21)
  have K:=k21.drew
  have sd:w21.drew.heap.size=w21.heap.size:=rfl
  generalize w21.drew=w25 at*
  refine H.n0 17 (c:=.p) (x:=some ⟨N 3,0,none⟩) rfl (K.cA (cs:=K8r) (tR8 r) rfl ⟨?_,?_⟩)
  ·have n3:p19≠N 3:=λe=>n19 (N 3) (.inl ⟨3,by decide,rfl⟩) e.symm
   have HH: ∀{S:NP} {w':World},Ap S w25 w'→ ¬S p19→ ∀j,j<8→w'.cell? (Addr.add ⟨p19,0,none⟩ j)=some ((w25.cell? (Addr.add ⟨p19,0,none⟩ j)).getD undef):=λu n j hj=>K.hold u n j (by rw[Ld];exact hj)
   have H17: ∀{S:NP} {w':World},Ap S w25 w'→ ¬S (N 0)→w'.cell? (Addr.add ⟨N 0,0,none⟩ 17)=some ((w25.cell? (Addr.add ⟨N 0,0,none⟩ 17)).getD undef):=λu n=>H.nb.hold u n 17 (by rw[Rx];decide)
   have n03: ¬N 0=N 3:=H.ne 0 3
   refine Ij.cl (r:=r) (loc:=t) H.pb hr (λhf w30 u30=>?_) λhf w30 k30 u30=>?_
   ·refine⟨⟨HH u30 (λx=>x) 0 (by decide),HH u30 (λx=>x) 1 (by decide),HH u30 (λx=>x) 2 (by decide),HH u30 (λx=>x) 3 (by decide),HH u30 (λx=>x) 4 (by decide),HH u30 (λx=>x) 5 (by decide),HH u30 (λx=>x) 6 (by decide),HH u30 (λx=>x) 7 (by decide),H17 u30 (λx=>x),trivial⟩,Ae λp31 w32 e31 k31 u32=>⟨?_,k31.E5 [_,_,_] rfl rfl λw33 k33 u33=>⟨trivial,p31,rfl,?_,?_,.inr ⟨hf,rfl,?_⟩⟩⟩⟩
    ·have v:=u30.trans u32
     exact⟨HH v (λx=>x) 0 (by decide),HH v (λx=>x) 1 (by decide),HH v (λx=>x) 2 (by decide),HH v (λx=>x) 3 (by decide),HH v (λx=>x) 4 (by decide),HH v (λx=>x) 5 (by decide),HH v (λx=>x) 6 (by decide),HH v (λx=>x) 7 (by decide),H17 v (λx=>x),trivial⟩
    ·exact Ap.Ed (G.trans (Ah.fresh u30 u32 u33 e31))
    ·exact K.Ai (Ah.fresh u30 u32 u33 e31)
    ·exact H.Ai (Ah.fresh u30 u32 u33 e31)
   ·have s30:=u30.size
    refine⟨⟨HH u30 n3 0 (by decide),HH u30 n3 1 (by decide),HH u30 n3 2 (by decide),HH u30 n3 3 (by decide),HH u30 n3 4 (by decide),HH u30 n3 5 (by decide),HH u30 n3 6 (by decide),HH u30 n3 7 (by decide),H17 u30 n03,trivial⟩,Ae λp31 w32 e31 k31 u32=>⟨?_,k31.E5 [_,_,_] rfl rfl λw33 k33 u33=>⟨trivial,p31,rfl,?_,?_,.inl ⟨hf,rfl,k33,?_⟩⟩⟩⟩
    ·have v:Ap (λz=>z=N 3) w25 w32:=u30.Ai u32
     exact⟨HH v n3 0 (by decide),HH v n3 1 (by decide),HH v n3 2 (by decide),HH v n3 3 (by decide),HH v n3 4 (by decide),HH v n3 5 (by decide),HH v n3 6 (by decide),HH v n3 7 (by decide),H17 v n03,trivial⟩
    ·exact Ap.trans (Ap.Ed G) (u30.Ai (Ah.fresh (Ah.refl _) u32 u33 e31)) λ_ _ x=>x
    ·exact(K.upd u30 n3).Ai (Ah.fresh (Ah.refl _) u32 u33 e31)
    ·have e:Zw d.pr r t={d.pr with waits:=false,tries:=0}:=by unfold Zw;rw[if_pos hf]
     rw[e]
     exact(H.Amj k30 u30).Ai (Ah.fresh (Ah.refl _) u32 u33 e31)
  ·have n3:p19≠N 3:=λe=>n19 (N 3) (.inl ⟨3,by decide,rfl⟩) e.symm
   refine Ae λp34 w35 e34 k34 u35=>⟨?_,?_⟩
   ·have HH: ∀j,j<8→w35.cell? (Addr.add ⟨p19,0,none⟩ j)=some ((w25.cell? (Addr.add ⟨p19,0,none⟩ j)).getD undef):=λj hj=>K.hold u35 (λx=>x) j (by rw[Ld];exact hj)
    exact⟨HH 0 (by decide),HH 1 (by decide),HH 2 (by decide),HH 3 (by decide),HH 4 (by decide),HH 5 (by decide),HH 6 (by decide),HH 7 (by decide),H.nb.hold u35 (λx=>x) 17 (by rw[Rx];decide),trivial⟩
   have n34:p34≠N 3:=λe=>by have:=H.lt (N 3) (.inl ⟨3,by decide,rfl⟩);omega
   have s35:=u35.size
   have l34:=k34.lt
   refine Ij.cl (r:=r) (loc:=t) (H.Ai u35).pb hr (λhf w37 u37=>⟨trivial,?_⟩) λhf w37 k37 u37=>⟨trivial,?_⟩
   ·refine(k34.Ai u37).E5 [_,_,_] rfl rfl λw38 k38 u38=>⟨trivial,p34,rfl,?_,?_,.inr ⟨hf,rfl,?_⟩⟩
    ·exact Ap.Ed (G.trans (Ah.fresh (Ah.refl _) (u35.trans u37) u38 e34))
    ·exact K.Ai (Ah.fresh (Ah.refl _) (u35.trans u37) u38 e34)
    ·exact H.Ai (Ah.fresh (Ah.refl _) (u35.trans u37) u38 e34)
   ·have H37:=(H.Ai u35).Amj k37 u37
    refine(k34.upd u37 n34).E5 [_,_,_] rfl rfl λw38 k38 u38=>⟨trivial,p34,rfl,?_,?_,.inl ⟨hf,rfl,k38,?_⟩⟩
    ·have a1:Ap (λz=>z=N 3) w w37:=Ap.trans (Ap.Ed (G.trans u35)) u37 λ_ _ x=>x
     exact Ap.new a1 u38 λhh=>by have:=G.size;omega
    ·exact((K.Ai u35).upd u37 n3).upd u38 (by omega)
    ·have e:Zw d.pr r t={d.pr with waits:=false,tries:=0}:=by unfold Zw;rw[if_pos hf]
     rw[e]
     exact H37.upd u38 λz hz e=>by have:=H.lt z hz;omega
 ·rintro⟨z1,z2⟩ W' ⟨q,rfl,U,K,hc⟩ _
  rcases hc with ⟨hp,ez,kq,H'⟩|⟨hp,ez,H'⟩
  ·dsimp only at ez
   subst ez
   refine We rfl ?_
   have e:d.take (.reply r) t=({d with pr:=Zw d.pr r t,so:=iT d.so (Vp r t) r.2.2.2.2.2.1 r.2.2.2.2.2.2.1},0):=by show(if Qv d.pr r t=true then _ else _)=_;rw[if_pos hp]
   rw[e] at hk
   rw[Aq,Ac]
   have H:=H'.drew
   have Kd:=K.drew
   have U':Ap (λz=>z=N 3) w W'.drew:=U.Ai (Ah.drew W')
   have kqd:=kq.drew
   generalize W'.drew=w39 at*
   have n4:p19≠N 4:=λe=>n19 (N 4) (.inl ⟨4,by decide,rfl⟩) e.symm
   refine H.n0 18 (c:=.p) (x:=some ⟨N 4,0,none⟩) rfl (kqd.Xd (Kd.c1 5 (c:=KI) (x:=r.2.2.2.2.2.1) rfl (Kd.c1 6 (c:=KU) (x:=r.2.2.2.2.2.2.1) rfl ?_)))
   have NX:Nx (NO N O) w (NO N O) w39:=NW.nx 3 (by decide) U'
   refine Iy.cl (e:=Vp r t) H.sb (λhf w46 u46=>⟨⟨Kd.hold u46 (λx=>x) 6 (by rw[Ld];decide),Kd.hold u46 (λx=>x) 5 (by rw[Ld];decide),trivial⟩,?_⟩) λhf w46 k46 u46=>⟨⟨Kd.hold u46 n4 6 (by rw[Ld];decide),Kd.hold u46 n4 5 (by rw[Ld];decide),trivial⟩,?_⟩
   ·have e2:iT d.so (Vp r t) r.2.2.2.2.2.1 r.2.2.2.2.2.2.1=d.so:=by unfold iT;rw[if_neg (by rw[hf];decide)]
    rw[e2] at hk
    exact hk w46 O (H.Ai u46) (NX.Ai u46)
   ·have e2:iT d.so (Vp r t) r.2.2.2.2.2.1 r.2.2.2.2.2.2.1={d.so with e:=Vp r t,root:=r.2.2.2.2.2.1,boot:=r.2.2.2.2.2.2.1,age:=0,has:=true}:=by unfold iT;rw[if_pos hf]
    rw[e2] at hk
    exact hk w46 O (H.Asl k46 u46) (NX.trans (NW.nx 4 (by decide) u46))
  ·dsimp only at ez
   subst ez
   refine Le rfl ?_
   have e:d.take (.reply r) t=(d,0):=by show(if Qv d.pr r t=true then _ else _)=_;rw[if_neg (by rw[hp];decide)]
   rw[e] at hk
   exact hk W' O H' (NW.nx 3 (by decide) U)
theorem Acm{w:World}{O:NP}{N:NB}{bf be:Nat}{d:Nd}{a:A6}{t:Int}(h:NW w O N bf be d){k:TR Kt→WP}
  (hk: ∀w' O',NW w' O' N bf be (d.take (.anchor a) t).1→Nx (NO N O) w (NO N O') w'→k (((d.take (.anchor a) t).2,()),()) w'):Ad prog F.Dz [pB (N 0),Fr.val (.anchor a),iV t] w false Kt k:=by
 refine V5.ok (f0:=a.1) (f1:=a.2.1) (f2:=a.2.2.1) (f3:=a.2.2.2.1) (f4:=a.2.2.2.2.1) (f5:=a.2.2.2.2.2) ?_
 refine Bh.by (λz W=>Ah w W) (Xb h (K:=λp e w'=>Ah w w') λp w' g _ _=>g) ?_
 rintro z W g _
 refine Ae λp19 w20 e19 k19 u20=>k19.E5 (a6 a) rfl rfl λw21 k21 u21=>?_
 have g21:=Ah.fresh g u20 u21 e19
 rw[Aq,Ac]
 have H:=(h.Ai g21).drew
 have G:=g21.trans (Ah.drew w21)
 refine k21.drew.cA (cs:=K6) (t6 a) rfl ?_
 refine Jg.in (a:=a) H.nb (λhf w26 u26=>⟨trivial,Le rfl ?_⟩) λhf w26 k26 u26=>⟨trivial,We rfl ?_⟩
 ·have e:d.take (.anchor a) t=(d,0):=by show(if iU d.bh d.ba a=true then _ else _)=_;rw[if_neg (by rw[hf];decide)]
  rw[e] at hk
  exact hk w26 O (H.Ai u26) (Nx.of (G.trans u26))
 ·have e:d.take (.anchor a) t=({d with bh:=true,ba:=a}:Nd).pass:=by show(if iU d.bh d.ba a=true then _ else _)=_;rw[if_pos hf]
  rw[e] at hk
  have H26:=H.set0 (on:=d.on) (boot:=d.boot) (bh:=true) (ba:=a) k26 u26
  exact Oq.n H26 λw28 H28 x28=>hk w28 O H28 (Nx.trans (Nx.pre G (NW.nx 0 (by decide) u26)) x28)
theorem Dz.n{w:World}{O:NP}{N:NB}{bf be:Nat}{d:Nd}{f:Fr}{t:Int}(h:NW w O N bf be d)(hf:f.ok=true){k:TR Kt→WP}
  (hk: ∀w' O',NW w' O' N bf be (d.take f t).1→Nx (NO N O) w (NO N O') w'→k (((d.take f t).2,()),()) w'):Ad prog F.Dz [pB (N 0),f.val,iV t] w false Kt k:=by
 cases f with
 |sync s=>exact Ag3 h hk
 |find x=>exact Agv h hk
 |want m=>exact Ahl h hk
 |pulse x=>exact Aeh h hk
 |reply r=>exact Aer h hf hk
 |anchor a=>exact Acm h hk
theorem Hg.n{w:World}{O:NP}{N:NB}{bf be:Nat}{d:Nd}{j:Int}{b:Sl}{xs:List Nat}(h:NW w O N bf be d)(hG:Zf d)(hx:pG xs)(hR:dC w b xs)(hcap:b.2.1≤b.2.2){k:TR Kt→WP}
  (hk: ∀w' O',NW w' O' N bf be (d.hear j xs).1→Nx (NO N O) w (NO N O') w'→k (((d.hear j xs).2,()),()) w'):Ad prog F.Hg [pB (N 0),iV j,.slice b.1 b.2.1 b.2.2] w false Kt k:=by
 refine Hg.ok (b:=b) ?_
 refine Hy.n h hG (dS (λc=>?_) λc0=>?_)
 ·have e:d.hear j xs=(d,(d.Ui j).2):=by unfold Nd.hear;rw[if_pos c]
  rw[e] at hk
  exact hk w O h (Nx.of (Ah.refl _))
 have c0:(d.Ui j).2=0:=c0
 have e0:d.hear j xs=match jP xs with| .error e=>(d,e)| .ok f=>d.heard f (d.Ui j).1:=by unfold Nd.hear;rw[if_neg (by omega)];rfl
 refine Rh.cl hx hR hcap (λe he hne w4 u4=>?_) λf hf w4 u4=>?_
 ·rw[e0,he] at hk
  rw[Aq]
  refine We (bne_iff_ne.2 hne) (hk w4.drew O (h.Ai u4).drew (Nx.of (u4.trans (Ah.drew w4))))
 ·rw[e0,hf] at hk
  rw[Aq]
  refine Le rfl ?_
  rw[Ac]
  have H:=(h.Ai u4).drew
  have G:=u4.trans (Ah.drew w4)
  generalize w4.drew=w5 at*
  refine H.nb.c0 (c:=KI) (x:=d.s.me) rfl (f.Apn λw9 u9=>⟨⟨H.nb.hold u9 (λx=>x) 0 (by rw[Rx];decide),trivial⟩,Vh (λc=>?_) λc=>?_⟩)
  ·have c:f.from=d.s.me:=c
   have e:d.heard f (d.Ui j).1=(d,0):=by unfold Nd.heard;rw[if_pos c]
   rw[show(match (Except.ok f:Except Int Fr) with| .error e=>(d,e)| .ok f=>d.heard f (d.Ui j).1)=d.heard f (d.Ui j).1 from rfl,e] at hk
   exact hk w9 O (H.Ai u9) (Nx.of (G.trans u9))
  ·have c:f.from≠d.s.me:=c
   have e:d.heard f (d.Ui j).1=d.take f (d.Ui j).1:=by unfold Nd.heard;rw[if_neg c]
   rw[show(match (Except.ok f:Except Int Fr) with| .error e=>(d,e)| .ok f=>d.heard f (d.Ui j).1)=d.heard f (d.Ui j).1 from rfl,e] at hk
   exact Dz.n (H.Ai u9) (qA hx hf).1 λw11 O' H11 x11=>hk w11 O' H11 (Nx.pre (G.trans u9) x11)
structure BTG(dr ji tm rn:Int):Prop where
 d:0≤dr∧dr≤10
 j:0≤ji∧ji≤20
 t:1≤tm∧tm≤1000
 r:1≤rn∧rn≤64
abbrev btV(dr ji tm rn:Int):Value:=.agg #[iV dr,iV ji,iV tm,iV rn]
theorem D7.cl{dr ji tm rn:Int}(g:BTG dr ji tm rn){w:World}{k:TR Vl→WP}(h: ∀w',Ah w w'→k ((true,()),()) w'):Ad prog F.D7 [btV dr ji tm rn] w false Vl k:=by
 refine D7.ok ?_
 obtain⟨d,j,t,r⟩:=g
 refine Ae λp w2 e2 k2 u2=>k2.c0 rfl (Cf (λ_=>k2.c0 rfl (Cf (λ_=>k2.c1 1 rfl (Cf (λ_=>k2.c1 1 rfl (Cf (λ_=>k2.c1 2 rfl (Cf (λ_=>k2.c1 2 rfl (Cf (λ_=>k2.c1 3 rfl (Cf (λ_=>k2.c1 3 rfl ?_) λn=>absurd r.1 n)) λn=>absurd t.2 n)) λn=>absurd t.1 n)) λn=>absurd j.2 n)) λn=>absurd j.1 n)) λn=>absurd d.2 n)) λn=>absurd d.1 n)
 have:=h w2 u2
 rw[decide_eq_true r.2]
 exact this
def Vt(dr rn n:Int):Int:=n*rn*(1000+dr)
def vY(dr rn n:Int):Int:=(2*dr*Vt dr rn n+(1000-dr)-1)/(1000-dr)
def yS(dr ji tm rn:Int):Int:=2*ji+vY dr rn (tm+1)+2
def lF(dr ji tm rn:Int):Int:=2*ji+2*vY dr rn (8*(tm+1))+6
def vV(dr ji tm rn h:Int):Int:=if h<0∨h>63 then 0 else h*(yS dr ji tm rn+lF dr ji tm rn)
theorem uH{dr ji tm rn n:Int}(g:BTG dr ji tm rn)(h0:0≤n)(h1:n≤8008):0≤n*rn∧n*rn≤512512∧0≤Vt dr rn n∧Vt dr rn n≤517637120:=by
 obtain⟨d,j,t,r⟩:=g
 have a0:0≤n*rn:=Int.mul_nonneg h0 (by omega)
 have a1:n*rn≤8008*64:=Int.mul_le_mul h1 r.2 (by omega) (by omega)
 have b0:0≤n*rn*(1000+dr):=Int.mul_nonneg a0 (by omega)
 have b1:n*rn*(1000+dr)≤512512*1010:=Int.mul_le_mul (by omega) (by omega) (by omega) (by omega)
 unfold Vt
 omega
theorem Yk{dr ji tm rn n:Int}(g:BTG dr ji tm rn)(h0:0≤n)(h1:n≤8008):0≤2*dr*Vt dr rn n∧2*dr*Vt dr rn n≤10352742400∧0≤vY dr rn n∧vY dr rn n≤10352743400:=by
 have T:=uH g h0 h1
 obtain⟨d,j,t,r⟩:=g
 have a0:0≤2*dr*Vt dr rn n:=Int.mul_nonneg (by omega) T.2.2.1
 have a1:2*dr*Vt dr rn n≤20*517637120:=Int.mul_le_mul (by omega) T.2.2.2 T.2.2.1 (by omega)
 refine⟨a0,by omega,Int.ediv_nonneg (by omega) (by omega),?_⟩
 unfold vY
 refine Int.le_trans (Int.ediv_le_self _ (by omega)) (by omega)
theorem Iq.cl{dr ji tm rn n:Int}(g:BTG dr ji tm rn)(h0:0≤n)(h1:n≤8008){w:World}{k:TR Kt→WP}(h: ∀w',Ah w w'→k ((Vt dr rn n,()),()) w'):Ad prog F.Iq [btV dr ji tm rn,iV n] w false Kt k:=by
 refine Iq.ok ?_
 have T:=uH g h0 h1
 refine Ae λp w2 e2 k2 u2=>k2.cA (cs:=K4i) (dr,ji,tm,rn,()) rfl (D7.cl g λw5 u5=>Le rfl (Cf (λc=>by omega) λ_=>Cf (λc=>by omega) λ_=>?_))
 have k5:=k2.Ai u5
 refine k5.c1 3 (c:=KI) (x:=rn) rfl (k5.c0 (c:=KI) (x:=dr) rfl ?_)
 have:=h w5 (u2.trans u5)
 have d:=g.d
 rw[Af (n:=n*rn) (by unfold I64;omega),Af (n:=1000+dr) (by unfold I64;omega),Af (by unfold I64;unfold Vt at T;omega)]
 exact this
theorem H9.cl{dr ji tm rn n:Int}(g:BTG dr ji tm rn)(h0:0≤n)(h1:n≤8008){w:World}{k:TR Kt→WP}(h: ∀w',Ah w w'→k ((vY dr rn n,()),()) w'):Ad prog F.H9 [btV dr ji tm rn,iV n] w false Kt k:=by
 refine H9.ok ?_
 have T:=Yk g h0 h1
 have d:=g.d
 refine Ae λp w2 e2 k2 u2=>?_
 rw[Aq]
 have k3:=k2.drew
 have g3:=u2.trans (Ah.drew w2)
 generalize w2.drew=w3 at*
 refine k3.c0 (c:=KI) (x:=dr) rfl (k3.cA (cs:=K4i) (dr,ji,tm,rn,()) rfl (Iq.cl g h0 h1 λw7 u7=>⟨⟨k3.hold u7 (λx=>x) 0 (by simp),trivial⟩,?_⟩))
 have k7:=k3.Ai u7
 refine k7.c0 (c:=KI) (x:=dr) rfl (k7.cA (cs:=K4i) (dr,ji,tm,rn,()) rfl (D7.cl g λw11 u11=>Le rfl ?_))
 dsimp only
 rw[Af (n:=1000-dr) (by unfold I64;omega),Gm (by omega),Af (n:=2*dr) (by unfold I64;omega),Af (n:=2*dr*Vt dr rn n) (by unfold I64;omega),Af (n:=2*dr*Vt dr rn n+(1000-dr)) (by unfold I64;omega),Af (n:=2*dr*Vt dr rn n+(1000-dr)-1) (by unfold I64;omega),Int.tdiv_eq_ediv_of_nonneg (by omega),Af (by unfold I64;unfold vY at T;omega)]
 exact h w11 ((g3.trans u7).trans u11)
theorem Me.cl{dr ji tm rn:Int}(g:BTG dr ji tm rn){w:World}{k:TR Kt→WP}(h: ∀w',Ah w w'→k ((yS dr ji tm rn,()),()) w'):Ad prog F.Me [btV dr ji tm rn] w false Kt k:=by
 refine Me.ok ?_
 have t:=g.t
 have j:=g.j
 have T:=Yk g (n:=tm+1) (by omega) (by omega)
 refine Ae λp w2 e2 k2 u2=>k2.cA (cs:=K4i) (dr,ji,tm,rn,()) rfl (D7.cl g λw5 u5=>Le rfl ?_)
 rw[Aq]
 have k6:=(k2.Ai u5).drew
 have g6:=(u2.trans u5).trans (Ah.drew w5)
 generalize w5.drew=w6 at*
 refine k6.c1 1 (c:=KI) (x:=ji) rfl (k6.cA (cs:=K4i) (dr,ji,tm,rn,()) rfl (k6.c1 2 (c:=KI) (x:=tm) rfl ?_))
 dsimp only
 rw[Af (n:=tm+1) (by unfold I64;omega)]
 refine H9.cl g (by omega) (by omega) λw11 u11=>⟨⟨k6.hold u11 (λx=>x) 2 (by simp),k6.hold u11 (λx=>x) 1 (by simp),trivial⟩,?_⟩
 rw[Af (n:=2*ji) (by unfold I64;omega),Af (n:=2*ji+vY dr rn (tm+1)) (by unfold I64;omega),Af (by unfold I64;omega)]
 exact h w11 (g6.trans u11)
theorem Jz.cl{dr ji tm rn:Int}(g:BTG dr ji tm rn){w:World}{k:TR Kt→WP}(h: ∀w',Ah w w'→k ((lF dr ji tm rn,()),()) w'):Ad prog F.Jz [btV dr ji tm rn] w false Kt k:=by
 refine Jz.ok ?_
 have t:=g.t
 have j:=g.j
 have T:=Yk g (n:=8*(tm+1)) (by omega) (by omega)
 refine Ae λp w2 e2 k2 u2=>k2.cA (cs:=K4i) (dr,ji,tm,rn,()) rfl (D7.cl g λw5 u5=>Le rfl ?_)
 rw[Aq]
 have k6:=(k2.Ai u5).drew
 have g6:=(u2.trans u5).trans (Ah.drew w5)
 generalize w5.drew=w6 at*
 refine k6.c1 1 (c:=KI) (x:=ji) rfl (k6.cA (cs:=K4i) (dr,ji,tm,rn,()) rfl (k6.c1 2 (c:=KI) (x:=tm) rfl ?_))
 dsimp only
 rw[Af (n:=tm+1) (by unfold I64;omega),Af (n:=8*(tm+1)) (by unfold I64;omega)]
 refine H9.cl g (by omega) (by omega) λw11 u11=>⟨⟨k6.hold u11 (λx=>x) 2 (by simp),k6.hold u11 (λx=>x) 1 (by simp),trivial⟩,?_⟩
 rw[Af (n:=2*ji) (by unfold I64;omega),Af (n:=2*vY dr rn (8*(tm+1))) (by unfold I64;omega),Af (n:=2*ji+2*vY dr rn (8*(tm+1))) (by unfold I64;omega),Af (by unfold I64;omega)]
 exact h w11 (g6.trans u11)
theorem Aaw{dr ji tm rn n:Int}(g:BTG dr ji tm rn):0≤vV dr ji tm rn n∧vV dr ji tm rn n≤3000000000000:=by
 have t:=g.t
 have j:=g.j
 have T1:=Yk g (n:=tm+1) (by omega) (by omega)
 have T2:=Yk g (n:=8*(tm+1)) (by omega) (by omega)
 unfold vV
 split
 ·omega
 ·rename_i c
  have c:0≤n∧n≤63:=by omega
  have a0:0≤yS dr ji tm rn+lF dr ji tm rn:=by unfold yS lF;omega
  have a1:yS dr ji tm rn+lF dr ji tm rn≤32000000000:=by unfold yS lF;omega
  refine⟨Int.mul_nonneg c.1 a0,Int.le_trans (Int.mul_le_mul c.2 a1 a0 (by omega)) (by omega)⟩
theorem I4.cl{dr ji tm rn n:Int}(g:BTG dr ji tm rn){w:World}{k:TR Kt→WP}(h: ∀w',Ah w w'→k ((vV dr ji tm rn n,()),()) w'):Ad prog F.I4 [btV dr ji tm rn,iV n] w false Kt k:=by
 refine I4.ok ?_
 have t:=g.t
 have j:=g.j
 have T1:=Yk g (n:=tm+1) (by omega) (by omega)
 have T2:=Yk g (n:=8*(tm+1)) (by omega) (by omega)
 have E:=Aaw g (n:=n)
 have z:(n<0∨n>63)→vV dr ji tm rn n=0:=λc=>by unfold vV;rw[if_pos c]
 refine Ae λp w2 e2 k2 u2=>Cf (λc=>by have:=h w2 u2;rw[z (.inl c)] at this;exact this) λc=>Cf (λc=>by have:=h w2 u2;rw[z (.inr c)] at this;exact this) λc2=>?_
 have e:vV dr ji tm rn n=n*(yS dr ji tm rn+lF dr ji tm rn):=by unfold vV;rw[if_neg (by omega)]
 rw[Aq]
 have k3:=k2.drew
 have g3:=u2.trans (Ah.drew w2)
 generalize w2.drew=w3 at*
 have H: ∀{w':World},Ah w3 w'→ ∀j,j<4→w'.cell? (Addr.add ⟨p,0,none⟩ j)=some ((w3.cell? (Addr.add ⟨p,0,none⟩ j)).getD undef):=λu j hj=>k3.hold u (λx=>x) j hj
 refine k3.cA (cs:=K4i) (dr,ji,tm,rn,()) rfl (k3.cA (cs:=K4i) (dr,ji,tm,rn,()) rfl (Me.cl g λw7 u7=>⟨⟨H u7 0 (by decide),H u7 1 (by decide),H u7 2 (by decide),H u7 3 (by decide),H u7 0 (by decide),H u7 1 (by decide),H u7 2 (by decide),H u7 3 (by decide),trivial⟩,?_⟩))
 refine Jz.cl g λw9 u9=>⟨⟨H (u7.trans u9) 0 (by decide),H (u7.trans u9) 1 (by decide),H (u7.trans u9) 2 (by decide),H (u7.trans u9) 3 (by decide),trivial⟩,?_⟩
 have:=h w9 (g3.trans (u7.trans u9))
 rw[e] at this E
 rw[Af (n:=yS dr ji tm rn+lF dr ji tm rn) (by unfold I64 yS lF;omega),Af (by unfold I64;omega)]
 exact this
theorem Yi.cl{r0 r1 r2 r3 p0 p1 p2 ji:Int}{w:World}{k:TR [(true,K4i)]→WP}(h: ∀w',Ah w w'→k ((r3,ji,r0,p0,()),()) w'):Ad prog F.Yi [.agg #[iV r0,iV r1,iV r2,iV r3],.agg #[iV p0,iV p1,iV p2],iV ji] w false [(true,K4i)] k:=by
 refine Yi.ok ?_
 refine Ae λp3 w4 e4 k4 u4=>Ae λp5 w6 e6 k6 u6=>Ae λp7 w8 e8 k8 u8=>?_
 have k48:=(k4.Ai u6).Ai u8
 have k68:=k6.Ai u8
 refine k48.c1 3 (c:=KI) (x:=r3) rfl (k48.c0 (c:=KI) (x:=r0) rfl (k68.c0 (c:=KI) (x:=p0) rfl (k8.E5 [iV r3,iV ji,iV r0,iV p0] rfl rfl λw12 k12 u12=>k12.cA (cs:=K4i) (r3,ji,r0,p0,()) rfl (h w12 ?_))))
 exact Ah.fresh (u4.trans u6) u8 u12 e8
theorem Fq.cl{a b c:Int}(hg:plG a b c=true){w:World}{k:TR Kt→WP}(h: ∀w',Ah w w'→k ((a*1000,()),()) w'):Ad prog F.Fq [.agg #[iV a,iV b,iV c]] w false Kt k:=by
 refine Fq.ok ?_
 have hp:=lQ.1 hg
 refine Ae λp w4 e k4 u4=>k4.c0 (c:=KI) (x:=a) rfl ?_
 rw[Af (by unfold I64;omega)]
 exact h w4 u4
def awP(a b t g:Int):Bool:=decide (t%(a*1000)<b*1000+min (a*1000) g)||decide (t%(a*1000)≥a*1000-min (a*1000) g)
theorem L9.cl{a b c t gd:Int}(hg:plG a b c=true)(ht:I64 t)(h0:0≤gd){w:World}{k:TR Vl→WP}(h: ∀w',Ah w w'→k ((awP a b t gd,()),()) w'):Ad prog F.L9 [.agg #[iV a,iV b,iV c],iV t,iV gd] w false Vl k:=by
 refine L9.ok ?_
 have hp:=lQ.1 hg
 refine Ae λp w4 e k4 u4=>k4.cA (cs:=K3i) (a,b,c,()) rfl (Gn.cl λw7 u7=>?_)
 rw[hg]
 have k7:=k4.Ai u7
 refine Le rfl (Cf (λn=>by omega) λ_=>k7.cA (cs:=K3i) (a,b,c,()) rfl (Fq.cl hg λw10 u10=>Jm.cl ht (show I64 (a*1000) by unfold I64;omega) λw12 u12=>?_))
 have k12:=(k7.Ai u10).Ai u12
 refine k12.cA (cs:=K3i) (a,b,c,()) rfl (Fq.cl hg λw15 u15=>?_)
 have k15:=k12.Ai u15
 have e1:nJ t (a*1000)=t%(a*1000):=by unfold nJ;rw[if_neg (by omega)]
 have e2:(if a*1000<gd then a*1000 else gd)=min (a*1000) gd:=by rw[Int.min_def];split<;>split<;>omega
 refine k15.c1 1 (c:=KI) (x:=b) rfl ?_
 dsimp only
 rw[e1,e2,Af (n:=b*1000) (by unfold I64;omega),Af (n:=b*1000+min (a*1000) gd) (by unfold I64;omega)]
 have g15:=(((u4.trans u7).trans u10).trans u12).trans u15
 refine Cf (λq=>?_) λq=>?_
 ·have:=h w15 g15
  unfold awP at this
  rw[decide_eq_true q] at this
  exact this
 ·refine k15.cA (cs:=K3i) (a,b,c,()) rfl (Fq.cl hg λw19 u19=>?_)
  have:=h w19 (g15.trans u19)
  unfold awP at this
  rw[decide_eq_false q] at this
  dsimp only
  rw[Af (by unfold I64;omega)]
  exact this
def Nd.Vo(d:Nd):Bool:=if d.on=false then false else if(wP d.f d.e d.es d.now).2.2≠0 then true
 else awP d.s.rnd d.s.opn (wP d.f d.e d.es d.now).1 (vV d.s.drift d.s.jit d.s.tmo d.s.rnd (wP d.f d.e d.es d.now).2.1)
theorem Auw(f:Fl)(e:El)(es:List E3)(t:Int):0≤(wP f e es t).1∧(wP f e es t).1≤1125899906842624:=by
 unfold wP
 split
 ·decide
 split
 ·decide
 rename_i _ h
 split
 ·have:=kX.1 (show inT t=true by cases hb:inT t;exact absurd hb h;rfl)
  exact this
 split
 ·rename_i h
  have:=Apm.1 h
  unfold gV
  rw[if_pos h]
  omega
 ·decide
theorem Aat{s:zG}(h:U1 s=true):BTG s.drift s.jit s.tmo s.rnd:=by
 obtain⟨m0,m1,gf,gp,l1,l2,j1,j2⟩:=Lj.1 h
 have g:=Vg.1 gf
 have e:=pV.1 g.1
 have p:=lQ.1 gp
 exact⟨by omega,by omega,by omega,by omega⟩
theorem Gu.n{w:World}{O:NP}{N:NB}{bf be:Nat}{d:Nd}(h:NW w O N bf be d)(g:U1 d.s=true){k:TR Vl→WP}
  (hk: ∀w',Ah w w'→k ((d.Vo,()),()) w'):Ad prog F.Gu [pB (N 0)] w false Vl k:=by
 refine Gu.ok ?_
 refine D8.cl h ?_
 by_cases hon:d.on=true
 case neg=>
  rw[if_neg hon]
  have:=hk w (Ah.refl _)
  unfold Nd.Vo at this
  rw[if_pos (by simpa using hon)] at this
  exact We rfl this
 rw[if_pos hon]
 obtain⟨m0,m1,gf,gp,l1,l2,j1,j2⟩:=Lj.1 g
 refine Le rfl ?_
 rw[Aq,Ac]
 have H:=h.drew
 have G:=Ah.drew w
 generalize w.drew=w3 at*
 have HN: ∀{w':World},Ah w3 w'→ ∀j,j<28→w'.cell? (Addr.add ⟨N 0,0,none⟩ j)=some ((w3.cell? (Addr.add ⟨N 0,0,none⟩ j)).getD undef):=λu j hj=>H.nb.hold u (λx=>x) j (by rw[Rx];exact hj)
 refine H.n0 15 (c:=.p) (x:=some ⟨bf,0,none⟩) rfl ?_
 rw[Ac]
 refine H.n0 14 (c:=.p) (x:=some ⟨N 1,0,none⟩) rfl (Ew.cl H.cb ⟨⟨HN (Ah.refl _) 14 (by decide),HN (Ah.refl _) 15 (by decide),trivial⟩,?_⟩)
 refine Gv.cw H.fw λw11 u11=>⟨⟨HN u11 14 (by decide),trivial⟩,?_⟩
 refine dS (λc=>?_) λc=>?_
 ·have c:(wP d.f d.e d.es d.now).2.2≠0:=c
  have:=hk w11 (G.trans u11)
  unfold Nd.Vo at this
  rw[if_neg (by rw[hon];decide),if_pos c] at this
  exact this
 have c:(wP d.f d.e d.es d.now).2.2=0:=c
 have e:d.Vo=awP d.s.rnd d.s.opn (wP d.f d.e d.es d.now).1 (vV d.s.drift d.s.jit d.s.tmo d.s.rnd (wP d.f d.e d.es d.now).2.1):=by unfold Nd.Vo;rw[if_neg (by rw[hon];decide),if_neg (by omega)]
 rw[Aq,Ac]
 have H11:=(H.Ai u11).drew
 have G11:=(G.trans u11).trans (Ah.drew w11)
 generalize w11.drew=w12 at*
 refine H11.nb.cN 5 (cs:=K3i) (d.s.rnd,d.s.opn,d.s.own,()) rfl ?_
 rw[Ac]
 refine H11.nb.cN 1 (cs:=K4i) (d.s.tmo,d.s.ign,d.s.need,d.s.drift,()) rfl ?_
 rw[Ac]
 refine H11.nb.cN 5 (cs:=K3i) (d.s.rnd,d.s.opn,d.s.own,()) rfl ?_
 rw[Ac]
 refine H11.n0 9 (c:=KI) (x:=d.s.jit) rfl ?_
 have HM: ∀{w':World},Ah w12 w'→ ∀j,j<28→w'.cell? (Addr.add ⟨N 0,0,none⟩ j)=some ((w12.cell? (Addr.add ⟨N 0,0,none⟩ j)).getD undef):=λu j hj=>H11.nb.hold u (λx=>x) j (by rw[Rx];exact hj)
 have HM2: ∀{w':World},Ah w12 w'→ ∀o j,o+j<28→w'.cell? (Addr.add (Addr.add ⟨N 0,0,none⟩ o) j)=some ((w12.cell? (Addr.add (Addr.add ⟨N 0,0,none⟩ o) j)).getD undef):=λu o j hj=>H11.nb.Zo u (λx=>x) o j (by rw[Rx];exact hj)
 refine Yi.cl λw22 u22=>⟨⟨HM u22 9 (by decide),HM2 u22 5 0 (by decide),HM2 u22 5 1 (by decide),HM2 u22 5 2 (by decide),HM2 u22 1 0 (by decide),HM2 u22 1 1 (by decide),HM2 u22 1 2 (by decide),HM2 u22 1 3 (by decide),HM2 u22 5 0 (by decide),HM2 u22 5 1 (by decide),HM2 u22 5 2 (by decide),trivial⟩,?_⟩
 refine I4.cl (Aat g) λw24 u24=>?_
 have u:=u22.trans u24
 refine⟨⟨HM u 9 (by decide),HM2 u 5 0 (by decide),HM2 u 5 1 (by decide),HM2 u 5 2 (by decide),HM2 u 1 0 (by decide),HM2 u 1 1 (by decide),HM2 u 1 2 (by decide),HM2 u 1 3 (by decide),HM2 u 5 0 (by decide),HM2 u 5 1 (by decide),HM2 u 5 2 (by decide),trivial⟩,?_⟩
 have I:=Auw d.f d.e d.es d.now
 refine L9.cl gp (show I64 (wP d.f d.e d.es d.now).1 by unfold I64;omega) (Aaw (Aat g)).1 λw26 u26=>?_
 have u:=u.trans u26
 refine⟨⟨HM u 9 (by decide),HM2 u 5 0 (by decide),HM2 u 5 1 (by decide),HM2 u 5 2 (by decide),HM2 u 1 0 (by decide),HM2 u 1 1 (by decide),HM2 u 1 2 (by decide),HM2 u 1 3 (by decide),trivial⟩,?_⟩
 have:=hk w26 (G11.trans u)
 rw[e] at this
 exact this
theorem Alt(n:Int):Y8 (wrap .u16 n):=by
 rw[IntKind.wrap_u16];unfold Y8;omega
theorem Atn(f:Fl)(e:El):(b1f f e).me=f.me:=by unfold b1f;split<;>rfl
theorem Aiv(e:El):(lU e).me=e.me:=by unfold lU;split;rfl;split<;>rfl
theorem Arx(e:El):(isE e).me=e.me:=by unfold isE;split<;>rfl
theorem Ars(e:El)(t:Int):(b2e e t).me=e.me:=by unfold b2e;split;exact(Arx _).trans (Aiv e);exact Aiv e
theorem z02:(0:Int)≤0∧(0:Int)≤2:=by decide
theorem u0:Y8 0:=by unfold Y8;decide
theorem Aqk(m:Int):PrG (prN m):=⟨z02,z02,(by decide:(0:Int)≤0∧(0:Int)≤7),λh=>by cases h⟩
theorem Aj3{p:Pr}(h:PrG p):PrG (Xh p)∧(Xh p).me=p.me:=by
 obtain⟨a,b,c,d⟩:=h
 unfold Xh
 split
 ·rename_i hw
  exact⟨⟨a,b,by dsimp only;omega,λh=>by rw[hw] at h;cases h⟩,rfl⟩
 split
 ·exact⟨⟨by dsimp only;omega,b,c,λh=>by dsimp only;omega⟩,rfl⟩
 rename_i hw _
 have:=d (by simpa using hw)
 split
 ·exact⟨⟨by dsimp only;omega,by dsimp only;omega,by dsimp only;split<;>omega,λh=>by cases h⟩,rfl⟩
 ·exact⟨⟨by dsimp only;omega,by dsimp only;omega,by dsimp only;omega,λh=>by cases h⟩,rfl⟩
theorem Apa{p:Pr}(h:PrG p)(to loc:Int):PrG (kQ p to loc)∧(kQ p to loc).me=p.me:=by
 unfold kQ
 split
 ·exact⟨⟨z02,h.tries,h.rest,λ_=>(by decide:(0:Int)≤1)⟩,rfl⟩
 ·exact⟨h,rfl⟩
theorem Ai8{p:Pr}(h:PrG p)(r:R8)(loc:Int):PrG (Zw p r loc)∧(Zw p r loc).me=p.me:=by
 unfold Zw
 split
 ·exact⟨⟨h.waited,z02,h.rest,λh=>by cases h⟩,rfl⟩
 ·exact⟨h,rfl⟩
theorem Aj2(s:So):(Aeq s).limit=s.limit:=by unfold Aeq;split;rfl;split<;>rfl
theorem Aib(s:So)(e:E3)(r b:Int):(iT s e r b).limit=s.limit:=by unfold iT;split<;>rfl
theorem Zf.push{d:Nd}(h:Zf d)(j:Jb):Zf (d.push j).1:=by
 unfold Nd.push
 split
 ·exact h
 ·exact⟨h.s,h.now,h.pr,h.me,h.lim,h.bk,h.fme⟩
theorem Zf.pass{d:Nd}(h:Zf d):Zf d.pass.1:=by
 unfold Nd.pass
 split
 ·exact h
 ·exact h.push _
theorem Zf.Si{d:Nd}(h:Zf d)(st:Int):Zf (d.Si st):=by
 have p:=Aj3 h.pr
 exact⟨h.s,h.now,p.1,p.2.trans h.me,(Aj2 d.so).trans h.lim,h.bk,(Atn _ _).trans h.fme.1,(Ars _ _).trans h.fme.2⟩
theorem Zf.word{d:Nd}(h:Zf d)(st:Int):Zf (d.word st).1:=by
 unfold Nd.word
 split
 ·exact h
 ·have p:=Apa h.pr d.par st
  exact⟨h.s,h.now,p.1,p.2.trans h.me,h.lim,h.bk,h.fme⟩
theorem Zf.Uy{d:Nd}(h:Zf d)(st:Int)(p:List Jb×List Fr):Zf (d.Uy st p).1:=by
 have h2:Zf {d with jobs:=p.1}:=⟨h.s,h.now,h.pr,h.me,h.lim,h.bk,h.fme⟩
 unfold Nd.Uy
 dsimp only
 split
 ·exact h2.word st
 ·exact h2
theorem Zf.send{d:Nd}(h:Zf d)(step j:Int):Zf (d.send step j).1:=by
 unfold Nd.send
 split
 ·exact h
 split
 ·exact h
 ·exact(h.Si _).Uy _ _
theorem Zf.Xp{d:Nd}(h:Zf d)(s:S6)(t:Int):Zf (d.Xp s t):=by
 unfold Nd.Xp
 dsimp only
 split
 ·exact h
 ·exact⟨h.s,h.now,h.pr,h.me,h.lim,h.bk,h.fme⟩
theorem Zf.take{d:Nd}(h:Zf d){f:Fr}(hu:f.u)(t:Int):Zf (d.take f t).1:=by
 cases f with
 |sync s=>exact h.Xp s t
 |find x=>
  unfold Nd.take;dsimp only
  split
  ·exact h
  ·exact⟨h.s,h.now,h.pr,h.me,h.lim,h.bk,h.fme⟩
 |want m=>
  unfold Nd.take;dsimp only
  split
  ·exact h.push _
  ·exact h
 |pulse x=>
  unfold Nd.take;dsimp only
  split
  ·exact h.push _
  ·exact h
 |reply r=>
  unfold Nd.take;dsimp only
  split
  ·have p:=Ai8 h.pr r t
   exact⟨h.s,h.now,p.1,p.2.trans h.me,(Aib _ _ _ _).trans h.lim,h.bk,h.fme⟩
  ·exact h
 |anchor a=>
  unfold Nd.take;dsimp only
  split
  ·exact Zf.pass (d:={d with bh:=true,ba:=a}) ⟨h.s,h.now,h.pr,h.me,h.lim,hu,h.fme⟩
  ·exact h
theorem Zf.hear{d:Nd}(h:Zf d)(j:Int){b:List Nat}(hb:pG b):Zf (d.hear j b).1:=by
 unfold Nd.hear
 split
 ·exact h
 cases hd:jP b with
 |error e=>exact h
 |ok f=>
  show Zf (d.heard f (d.Ui j).1).1
  unfold Nd.heard
  split
  ·exact h
  ·exact h.take (qA hb hd).2 _
theorem Zf.turn{d:Nd}(h:Zf d){raw:Int}(h0:0≤raw)(h1:raw<4294967296):Zf (d.turn raw):=
 ⟨h.s,⟨h0,by show raw≤_;omega⟩,Aqk _,h.me,h.lim,⟨u0,u0⟩,h.fme⟩
theorem Zf.nd0{s:zG}(h:U1 s=true)(lp:Option Addr):Zf (nd0 s lp):=⟨h,(by decide:(0:Int)≤0∧(0:Int)≤1125899906842624),Aqk _,rfl,rfl,⟨u0,u0⟩,rfl,rfl⟩
def aY(d:Nd):Prop:=Y8 d.so.boot
theorem aY.bt{s:So}(h:Y8 s.boot):Y8 (Aeq s).boot:=by unfold Aeq;split;exact h;split;exact u0;exact h
theorem aY.put{s:So}(h:Y8 s.boot){b:Int}(hb:Y8 b)(e:E3)(r:Int):Y8 (iT s e r b).boot:=by unfold iT;split;exact hb;exact h
theorem aY.push{d:Nd}(h:aY d)(j:Jb):aY (d.push j).1:=by unfold Nd.push;split;exact h;exact h
theorem aY.pass{d:Nd}(h:aY d):aY d.pass.1:=by unfold Nd.pass;split;exact h;exact h.push _
theorem aY.word{d:Nd}(h:aY d)(st:Int):aY (d.word st).1:=by unfold Nd.word;split;exact h;exact h
theorem aY.Uy{d:Nd}(h:aY d)(st:Int)(p:List Jb×List Fr):aY (d.Uy st p).1:=by
 have h2:aY {d with jobs:=p.1}:=h
 unfold Nd.Uy
 dsimp only
 split
 ·exact h2.word st
 ·exact h2
theorem aY.send{d:Nd}(h:aY d)(step j:Int):aY (d.send step j).1:=by
 unfold Nd.send
 split
 ·exact h
 split
 ·exact h
 ·exact aY.Uy (show aY (d.Si _) from aY.bt h) _ _
theorem aY.take{d:Nd}(h:aY d){f:Fr}(hu:f.u)(t:Int):aY (d.take f t).1:=by
 cases f with
 |sync s=>
  show aY (d.Xp s t)
  unfold Nd.Xp
  dsimp only
  split
  ·exact h
  ·exact h
 |find x=>unfold Nd.take;dsimp only;split;exact h;exact h
 |want m=>unfold Nd.take;dsimp only;split;exact h.push _;exact h
 |pulse x=>unfold Nd.take;dsimp only;split;exact h.push _;exact h
 |reply r=>unfold Nd.take;dsimp only;split;exact aY.put h hu _ _;exact h
 |anchor a=>unfold Nd.take;dsimp only;split;exact aY.pass (d:={d with bh:=true,ba:=a}) h;exact h
theorem aY.hear{d:Nd}(h:aY d)(j:Int){b:List Nat}(hb:pG b):aY (d.hear j b).1:=by
 unfold Nd.hear
 split
 ·exact h
 cases hd:jP b with
 |error e=>exact h
 |ok f=>show aY (d.heard f (d.Ui j).1).1;unfold Nd.heard;split;exact h;exact h.take (qA hb hd).2 _
theorem aY.go{d:Nd}(h:aY d)(t:Int):aY (d.go t).1:=by unfold Nd.go;split;exact h;exact h
theorem aY.turn(d:Nd)(raw:Int):aY (d.turn raw):=u0
theorem aY.nd0(s:zG)(lp:Option Addr):aY (nd0 s lp):=u0
end Go.Proofs.YtppeepkmnijdpaaGreatDoor
