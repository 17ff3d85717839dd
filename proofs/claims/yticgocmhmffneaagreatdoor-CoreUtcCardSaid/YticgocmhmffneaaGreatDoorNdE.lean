import Derived.Test.YticgocmhmffneaaGreatDoorNdD
namespace Go.Proofs.YticgocmhmffneaaGreatDoor
open Go Go.Eng Tryz
open Go.IntKind (wrap)
set_option linter.unusedSimpArgs false
set_option linter.unusedVariables false
set_option maxRecDepth 100000
set_option maxHeartbeats 8000000
theorem Yh{n:Nat}(h:P7 n≠[]):n=1∨n=2∨n=3∨n=4∨n=5∨n=6:=by
 unfold P7 at h
 split at h<;>first|omega|exact absurd rfl h
theorem Abw{n:Nat}(h: ¬(n=1∨n=2∨n=3∨n=4∨n=5∨n=6)):P7 n=[]:=by
 by_cases h0:P7 n=[]
 ·exact h0
 ·exact absurd (Yh h0) h
theorem uI{s:Int}{v m:Nat}(h:v<18446744073709551616)(hm:m≤1125899906842624):Yy (s,wrap .i64 (v:Int),(m:Int))=decide (v≤m):=by
 unfold Yy
 show(decide (0≤wrap .i64 (v:Int))&&decide (wrap .i64 (v:Int)≤(m:Int)))=decide (v≤m)
 rw[kJ]
 by_cases hv:v≤m
 ·rw[decide_eq_true hv,decide_eq_true (by omega),decide_eq_true (by omega)];rfl
 ·rw[decide_eq_false hv]
  by_cases h2:v<9223372036854775808
  ·rw[decide_eq_false (p:=((v:Int)+9223372036854775808)%18446744073709551616-9223372036854775808≤(m:Int)) (by omega),Bool.and_false]
  ·rw[decide_eq_false (p:=0≤((v:Int)+9223372036854775808)%18446744073709551616-9223372036854775808) (by omega),Bool.false_and]
theorem inH{s:Int}{v:Nat}(h:v<65536):Yy (s,wrap .i64 (wrap .u16 (v:Int)),65535)=decide (v≤65535):=by
 unfold Yy
 rw[aQ (by unfold Xe;omega),Ah (by unfold I64;omega),decide_eq_true (show v≤65535 by omega),decide_eq_true (by show 0≤(v:Int);omega),decide_eq_true (by show(v:Int)≤65535;omega)];rfl
theorem Ag4{n:Nat}{vals:List Nat}(hn:P7 n≠[])(hl:vals.length=(P7 n).length)(hb: ∀(i v:Nat) (s:Nat×Nat),vals[i]? =some v→(P7 n)[i]? =some s→v<256^s.1):(kG n vals).ok=iD (P7 n) vals∧(iD (P7 n) vals=true→kG n vals=mJ n vals):=by
 rcases Yh hn with rfl|rfl|rfl|rfl|rfl|rfl
 ·match vals,hl with
  |[v0,v1,v2,v3,v4,v5],_=>
   have b0:v0<256:=hb 0 v0 (1,63) rfl rfl
   have b1:v1<256:=hb 1 v1 (1,63) rfl rfl
   have b2:v2<65536:=hb 2 v2 (2,65535) rfl rfl
   have b3:v3<65536:=hb 3 v3 (2,65535) rfl rfl
   have b4:v4<256:=hb 4 v4 (1,63) rfl rfl
   have b5:v5<18446744073709551616:=hb 5 v5 (8,1125899906842624) rfl rfl
   have e1:kG 1 [v0,v1,v2,v3,v4,v5]=.sync (wrap .i64 (v0:Int),wrap .i64 (v1:Int),wrap .u16 (v2:Int),wrap .u16 (v3:Int),wrap .i64 (v4:Int),wrap .i64 (v5:Int)):=rfl
   have e2:mJ 1 [v0,v1,v2,v3,v4,v5]=.sync ((v0:Int),(v1:Int),(v2:Int),(v3:Int),(v4:Int),(v5:Int)):=rfl
   refine⟨?_,λhf=>?_⟩
   ·rw[e1]
    show okF (Z4 (wrap .i64 (v0:Int),wrap .i64 (v1:Int),wrap .u16 (v2:Int),wrap .u16 (v3:Int),wrap .i64 (v4:Int),wrap .i64 (v5:Int)))=_
    unfold okF Z4
    have i0:Yy (1,wrap .i64 (v0:Int),63)=decide (v0≤63):=uI (m:=63) (by have:=b0;omega) (by decide)
    have i1:Yy (1,wrap .i64 (v1:Int),63)=decide (v1≤63):=uI (m:=63) (by have:=b1;omega) (by decide)
    have i2:Yy (2,wrap .i64 (wrap .u16 (v2:Int)),65535)=decide (v2≤65535):=inH (by have:=b2;omega)
    have i3:Yy (2,wrap .i64 (wrap .u16 (v3:Int)),65535)=decide (v3≤65535):=inH (by have:=b3;omega)
    have i4:Yy (1,wrap .i64 (v4:Int),63)=decide (v4≤63):=uI (m:=63) (by have:=b4;omega) (by decide)
    have i5:Yy (8,wrap .i64 (v5:Int),1125899906842624)=decide (v5≤1125899906842624):=uI (m:=1125899906842624) (by have:=b5;omega) (by decide)
    simp only[List.all_cons,List.all_nil,i0,i1,i2,i3,i4,i5]
    rfl
   ·have hf:(decide (v0≤63)&&(decide (v1≤63)&&(decide (v2≤65535)&&(decide (v3≤65535)&&(decide (v4≤63)&&(decide (v5≤1125899906842624)&&true))))))=true:=hf
    simp only[Bool.and_eq_true,decide_eq_true_eq,Bool.and_true] at hf
    rw[e1,e2]
    simp only[Ah (n:=(v0:Int)) (by unfold I64;omega),Ah (n:=(v1:Int)) (by unfold I64;omega),aQ (n:=(v2:Int)) (by unfold Xe;omega),aQ (n:=(v3:Int)) (by unfold Xe;omega),Ah (n:=(v4:Int)) (by unfold I64;omega),Ah (n:=(v5:Int)) (by unfold I64;omega)]
 ·match vals,hl with
  |[v0,v1],_=>
   have b0:v0<256:=hb 0 v0 (1,63) rfl rfl
   have b1:v1<256:=hb 1 v1 (1,63) rfl rfl
   have e1:kG 2 [v0,v1]=.find (wrap .i64 (v0:Int),wrap .i64 (v1:Int)):=rfl
   have e2:mJ 2 [v0,v1]=.find ((v0:Int),(v1:Int)):=rfl
   refine⟨?_,λhf=>?_⟩
   ·rw[e1]
    show okF (tY (wrap .i64 (v0:Int),wrap .i64 (v1:Int)))=_
    unfold okF tY
    have i0:Yy (1,wrap .i64 (v0:Int),63)=decide (v0≤63):=uI (m:=63) (by have:=b0;omega) (by decide)
    have i1:Yy (1,wrap .i64 (v1:Int),63)=decide (v1≤63):=uI (m:=63) (by have:=b1;omega) (by decide)
    simp only[List.all_cons,List.all_nil,i0,i1]
    rfl
   ·have hf:(decide (v0≤63)&&(decide (v1≤63)&&true))=true:=hf
    simp only[Bool.and_eq_true,decide_eq_true_eq,Bool.and_true] at hf
    rw[e1,e2]
    simp only[Ah (n:=(v0:Int)) (by unfold I64;omega),Ah (n:=(v1:Int)) (by unfold I64;omega)]
 ·match vals,hl with
  |[v0],_=>
   have b0:v0<256:=hb 0 v0 (1,63) rfl rfl
   have e1:kG 3 [v0]=.want (wrap .i64 (v0:Int)):=rfl
   have e2:mJ 3 [v0]=.want ((v0:Int)):=rfl
   refine⟨?_,λhf=>?_⟩
   ·rw[e1]
    show okF (lW (wrap .i64 (v0:Int)))=_
    unfold okF lW
    have i0:Yy (1,wrap .i64 (v0:Int),63)=decide (v0≤63):=uI (m:=63) (by have:=b0;omega) (by decide)
    simp only[List.all_cons,List.all_nil,i0]
    rfl
   ·have hf:(decide (v0≤63)&&true)=true:=hf
    simp only[Bool.and_eq_true,decide_eq_true_eq,Bool.and_true] at hf
    rw[e1,e2]
    simp only[Ah (n:=(v0:Int)) (by unfold I64;omega)]
 ·match vals,hl with
  |[v0,v1,v2],_=>
   have b0:v0<256:=hb 0 v0 (1,63) rfl rfl
   have b1:v1<256:=hb 1 v1 (1,63) rfl rfl
   have b2:v2<18446744073709551616:=hb 2 v2 (8,1125899906842624) rfl rfl
   have e1:kG 4 [v0,v1,v2]=.pulse (wrap .i64 (v0:Int),wrap .i64 (v1:Int),wrap .i64 (v2:Int)):=rfl
   have e2:mJ 4 [v0,v1,v2]=.pulse ((v0:Int),(v1:Int),(v2:Int)):=rfl
   refine⟨?_,λhf=>?_⟩
   ·rw[e1]
    show okF (flU (wrap .i64 (v0:Int),wrap .i64 (v1:Int),wrap .i64 (v2:Int)))=_
    unfold okF flU
    have i0:Yy (1,wrap .i64 (v0:Int),63)=decide (v0≤63):=uI (m:=63) (by have:=b0;omega) (by decide)
    have i1:Yy (1,wrap .i64 (v1:Int),63)=decide (v1≤63):=uI (m:=63) (by have:=b1;omega) (by decide)
    have i2:Yy (8,wrap .i64 (v2:Int),1125899906842624)=decide (v2≤1125899906842624):=uI (m:=1125899906842624) (by have:=b2;omega) (by decide)
    simp only[List.all_cons,List.all_nil,i0,i1,i2]
    rfl
   ·have hf:(decide (v0≤63)&&(decide (v1≤63)&&(decide (v2≤1125899906842624)&&true)))=true:=hf
    simp only[Bool.and_eq_true,decide_eq_true_eq,Bool.and_true] at hf
    rw[e1,e2]
    simp only[Ah (n:=(v0:Int)) (by unfold I64;omega),Ah (n:=(v1:Int)) (by unfold I64;omega),Ah (n:=(v2:Int)) (by unfold I64;omega)]
 ·match vals,hl with
  |[v0,v1,v2,v3,v4,v5,v6,v7],_=>
   have b0:v0<256:=hb 0 v0 (1,63) rfl rfl
   have b1:v1<256:=hb 1 v1 (1,63) rfl rfl
   have b2:v2<18446744073709551616:=hb 2 v2 (8,1125899906842624) rfl rfl
   have b3:v3<18446744073709551616:=hb 3 v3 (8,1125899906842624) rfl rfl
   have b4:v4<18446744073709551616:=hb 4 v4 (8,1125899906842624) rfl rfl
   have b5:v5<256:=hb 5 v5 (1,63) rfl rfl
   have b6:v6<65536:=hb 6 v6 (2,65535) rfl rfl
   have b7:v7<256:=hb 7 v7 (1,63) rfl rfl
   have e1:kG 5 [v0,v1,v2,v3,v4,v5,v6,v7]=.reply (wrap .i64 (v0:Int),wrap .i64 (v1:Int),wrap .i64 (v2:Int),wrap .i64 (v3:Int),wrap .i64 (v4:Int),wrap .i64 (v5:Int),wrap .u16 (v6:Int),wrap .i64 (v7:Int)):=rfl
   have e2:mJ 5 [v0,v1,v2,v3,v4,v5,v6,v7]=.reply ((v0:Int),(v1:Int),(v2:Int),(v3:Int),(v4:Int),(v5:Int),(v6:Int),(v7:Int)):=rfl
   refine⟨?_,λhf=>?_⟩
   ·rw[e1]
    show okF (flR (wrap .i64 (v0:Int),wrap .i64 (v1:Int),wrap .i64 (v2:Int),wrap .i64 (v3:Int),wrap .i64 (v4:Int),wrap .i64 (v5:Int),wrap .u16 (v6:Int),wrap .i64 (v7:Int)))=_
    unfold okF flR
    have i0:Yy (1,wrap .i64 (v0:Int),63)=decide (v0≤63):=uI (m:=63) (by have:=b0;omega) (by decide)
    have i1:Yy (1,wrap .i64 (v1:Int),63)=decide (v1≤63):=uI (m:=63) (by have:=b1;omega) (by decide)
    have i2:Yy (8,wrap .i64 (v2:Int),1125899906842624)=decide (v2≤1125899906842624):=uI (m:=1125899906842624) (by have:=b2;omega) (by decide)
    have i3:Yy (8,wrap .i64 (v3:Int),1125899906842624)=decide (v3≤1125899906842624):=uI (m:=1125899906842624) (by have:=b3;omega) (by decide)
    have i4:Yy (8,wrap .i64 (v4:Int),1125899906842624)=decide (v4≤1125899906842624):=uI (m:=1125899906842624) (by have:=b4;omega) (by decide)
    have i5:Yy (1,wrap .i64 (v5:Int),63)=decide (v5≤63):=uI (m:=63) (by have:=b5;omega) (by decide)
    have i6:Yy (2,wrap .i64 (wrap .u16 (v6:Int)),65535)=decide (v6≤65535):=inH (by have:=b6;omega)
    have i7:Yy (1,wrap .i64 (v7:Int),63)=decide (v7≤63):=uI (m:=63) (by have:=b7;omega) (by decide)
    simp only[List.all_cons,List.all_nil,i0,i1,i2,i3,i4,i5,i6,i7]
    rfl
   ·have hf:(decide (v0≤63)&&(decide (v1≤63)&&(decide (v2≤1125899906842624)&&(decide (v3≤1125899906842624)&&(decide (v4≤1125899906842624)&&(decide (v5≤63)&&(decide (v6≤65535)&&(decide (v7≤63)&&true))))))))=true:=hf
    simp only[Bool.and_eq_true,decide_eq_true_eq,Bool.and_true] at hf
    rw[e1,e2]
    simp only[Ah (n:=(v0:Int)) (by unfold I64;omega),Ah (n:=(v1:Int)) (by unfold I64;omega),Ah (n:=(v2:Int)) (by unfold I64;omega),Ah (n:=(v3:Int)) (by unfold I64;omega),Ah (n:=(v4:Int)) (by unfold I64;omega),Ah (n:=(v5:Int)) (by unfold I64;omega),aQ (n:=(v6:Int)) (by unfold Xe;omega),Ah (n:=(v7:Int)) (by unfold I64;omega)]
 ·match vals,hl with
  |[v0,v1,v2,v3,v4,v5],_=>
   have b0:v0<256:=hb 0 v0 (1,63) rfl rfl
   have b1:v1<65536:=hb 1 v1 (2,65535) rfl rfl
   have b2:v2<256:=hb 2 v2 (1,63) rfl rfl
   have b3:v3<65536:=hb 3 v3 (2,65535) rfl rfl
   have b4:v4<18446744073709551616:=hb 4 v4 (8,1125899906842624) rfl rfl
   have b5:v5<18446744073709551616:=hb 5 v5 (8,1125899906842624) rfl rfl
   have e1:kG 6 [v0,v1,v2,v3,v4,v5]=.anchor (wrap .i64 (v0:Int),wrap .u16 (v1:Int),wrap .i64 (v2:Int),wrap .u16 (v3:Int),wrap .i64 (v4:Int),wrap .i64 (v5:Int)):=rfl
   have e2:mJ 6 [v0,v1,v2,v3,v4,v5]=.anchor ((v0:Int),(v1:Int),(v2:Int),(v3:Int),(v4:Int),(v5:Int)):=rfl
   refine⟨?_,λhf=>?_⟩
   ·rw[e1]
    show okF (mG (wrap .i64 (v0:Int),wrap .u16 (v1:Int),wrap .i64 (v2:Int),wrap .u16 (v3:Int),wrap .i64 (v4:Int),wrap .i64 (v5:Int)))=_
    unfold okF mG
    have i0:Yy (1,wrap .i64 (v0:Int),63)=decide (v0≤63):=uI (m:=63) (by have:=b0;omega) (by decide)
    have i1:Yy (2,wrap .i64 (wrap .u16 (v1:Int)),65535)=decide (v1≤65535):=inH (by have:=b1;omega)
    have i2:Yy (1,wrap .i64 (v2:Int),63)=decide (v2≤63):=uI (m:=63) (by have:=b2;omega) (by decide)
    have i3:Yy (2,wrap .i64 (wrap .u16 (v3:Int)),65535)=decide (v3≤65535):=inH (by have:=b3;omega)
    have i4:Yy (8,wrap .i64 (v4:Int),1125899906842624)=decide (v4≤1125899906842624):=uI (m:=1125899906842624) (by have:=b4;omega) (by decide)
    have i5:Yy (8,wrap .i64 (v5:Int),1125899906842624)=decide (v5≤1125899906842624):=uI (m:=1125899906842624) (by have:=b5;omega) (by decide)
    simp only[List.all_cons,List.all_nil,i0,i1,i2,i3,i4,i5]
    rfl
   ·have hf:(decide (v0≤63)&&(decide (v1≤65535)&&(decide (v2≤63)&&(decide (v3≤65535)&&(decide (v4≤1125899906842624)&&(decide (v5≤1125899906842624)&&true))))))=true:=hf
    simp only[Bool.and_eq_true,decide_eq_true_eq,Bool.and_true] at hf
    rw[e1,e2]
    simp only[Ah (n:=(v0:Int)) (by unfold I64;omega),aQ (n:=(v1:Int)) (by unfold Xe;omega),Ah (n:=(v2:Int)) (by unfold I64;omega),aQ (n:=(v3:Int)) (by unfold Xe;omega),Ah (n:=(v4:Int)) (by unfold I64;omega),Ah (n:=(v5:Int)) (by unfold I64;omega)]
theorem jQ{L:List (Nat×Nat)}{b:List Nat}(hx:eH b): ∀(i v:Nat) (s:Nat×Nat),(Yd L b)[i]? =some v→L[i]? =some s→v<256^s.1:=by
 intro i v s hv hs
 rw[lM L b i s hs] at hv
 injection hv with hv
 subst hv
 refine Nat.lt_of_lt_of_le (wZ _ ((hx.drop _).take _)) (Nat.pow_le_pow_right (by decide) ?_)
 rw[List.length_take];omega
theorem Al4{n:Nat}(hn:P7 n≠[])(v:List Nat):(kG n v).kd=n:=by
 rcases Yh hn with rfl|rfl|rfl|rfl|rfl|rfl<;>rfl
theorem Aht{n:Nat}(hn:P7 n≠[]):(kG n []).fs.map (·.1)=(P7 n).map λs=>(s.1:Int):=by
 rcases Yh hn with rfl|rfl|rfl|rfl|rfl|rfl<;>rfl
theorem Am5{n:Nat}(hn:P7 n≠[]):zD (kG n []).fs=(Zx (P7 n):Int):=by
 rcases Yh hn with rfl|rfl|rfl|rfl|rfl|rfl<;>rfl
abbrev Aoz:List (Bool×List CK):=[(false,[.any])]
theorem Sr.cl{n:Nat}{w:World}{k:TR Aoz→WP}(h0:P7 n=[]→k ((.nilIface,()),()) w)(h1:P7 n≠[]→k (((kG n []).val,()),()) w):Ae prog F.Sr [.int .u64 (n:Int)] w false Aoz k:=by
 refine Sr.ok ?_
 unfold Sr.wp
 have g: ∀{m:Nat},n=m→P7 m≠[]→k (((kG m []).val,()),()) w:=λe h=>by subst e;exact h1 h
 refine Yl (λc=>g (m:=1) (by have c:(n:Int)=1:=c;omega) (by decide)) λc1=>Yl (λc=>g (m:=2) (by have c:(n:Int)=2:=c;omega) (by decide)) λc2=>Yl (λc=>g (m:=3) (by have c:(n:Int)=3:=c;omega) (by decide)) λc3=>Yl (λc=>g (m:=4) (by have c:(n:Int)=4:=c;omega) (by decide)) λc4=>Yl (λc=>g (m:=5) (by have c:(n:Int)=5:=c;omega) (by decide)) λc5=>Yl (λc=>g (m:=6) (by have c:(n:Int)=6:=c;omega) (by decide)) λc6=>h0 (Abw ?_)
 have c1:(n:Int)≠1:=c1
 have c2:(n:Int)≠2:=c2
 have c3:(n:Int)≠3:=c3
 have c4:(n:Int)≠4:=c4
 have c5:(n:Int)≠5:=c5
 have c6:(n:Int)≠6:=c6
 omega
theorem Ahl{k:Bool→Prop}(h:k true):nlK .nilIface k:=h
theorem Fr.nl(f:Fr){k:Bool→Prop}(h:k false):nlK f.val k:=by cases f<;>exact h
abbrev RAI:List (Bool×List CK):=[(false,[.any]),(false,[KI])]
theorem Afn(v:List Nat): ∀u∈iY v,u.oneCell'=true:=by
 intro u hu
 simp only[List.mem_map] at hu
 obtain⟨x,_,rfl⟩:=hu;rfl
theorem Ru.cl{xs:List Nat}(hx:eH xs){b:Sl}{w:World}(hR:Ur w b xs)(hcap:b.2.1≤b.2.2){k:TR RAI→WP}
  (he: ∀e,Xg xs=.error e→e≠0→ ∀w',Af w w'→k ((.nilIface,()),(e,()),()) w') (hf: ∀f,Xg xs=.ok f→ ∀w',Af w w'→k ((f.val,()),(0,()),()) w'):Ae prog F.Ru [.slice b.1 b.2.1 b.2.2] w true RAI k:=by
 refine Ru.ok (b:=b) ?_
 unfold Ru.wp
 have hn:=hR.len'
 refine Dx (λc=>?_) λc=>?_
 ·have c:(b.2.1:Int)>64:=c
  exact he 5 (by unfold Xg;rw[if_pos (by omega)]) (by decide) w (Af.refl _)
 have c: ¬(b.2.1:Int)>64:=c
 have l64: ¬xs.length>64:=by omega
 have D1:Xg xs=if xs.length=0 then .error 3 else if P7 (xs.headD 0)=[]∨xs.length≠Zx (P7 (xs.headD 0))+3 then .error 3 else if Uh 65535 xs≠0 then .error 4 else if iD (P7 (xs.headD 0)) (Yd (P7 (xs.headD 0)) xs.tail)=false then .error 3 else .ok (mJ (xs.headD 0) (Yd (P7 (xs.headD 0)) xs.tail)):=by
  unfold Xg;rw[if_neg l64]
 refine Xu.cl hR (by omega) λp y w2 hp hE hy u2=>?_
 have R2:=Row.Ai hR u2
 refine Nj.cl (n:=1) rfl (by decide) hx (by omega) (by omega) hE (λhlt w4 u4=>?_) λhle w4 E4 u4=>?_
 ·have hl0:xs.length=0:=by omega
  refine Sr.cl (n:=0) (λ_=>?_) λh=>absurd rfl h
  refine Ahl (Vt rfl ?_)
  exact he 3 (by rw[D1,if_pos hl0]) (by decide) w4 (u2.trans u4)
 obtain⟨n,t,rfl⟩: ∃n t,xs=n::t:=by
  cases xs with
  |nil=>simp at hle
  |cons n t=>exact⟨n,t,rfl⟩
 have hg1:aV (((n::t).drop 0).take 1)=n:=by simp[aV]
 rw[hg1]
 have D2:Xg (n::t)=if P7 n=[]∨(n::t).length≠Zx (P7 n)+3 then .error 3 else if Uh 65535 (n::t)≠0 then .error 4 else if iD (P7 n) (Yd (P7 n) t)=false then .error 3 else .ok (mJ n (Yd (P7 n) t)):=by
  rw[D1,if_neg (by simp)];rfl
 have lw:=u2.size
 have U4:Af w w4:=Am.trans u2 u4 λi hi e=>by omega
 refine Sr.cl (n:=n) (λh0=>?_) λhk0=>?_
 ·refine Ahl (Vt rfl ?_)
  exact he 3 (by rw[D2,if_pos (.inl h0)]) (by decide) w4 U4
 refine Fr.nl (kG n []) (Jl rfl (Fr.Aon (kG n []) λw9 u9=>?_))
 rw[Am5 hk0]
 have hS:Zx (P7 n)≤64:=by
  rcases Yh hk0 with rfl|rfl|rfl|rfl|rfl|rfl<;>decide
 rw[Ah (n:=(Zx (P7 n):Int)+3) (by unfold I64;omega)]
 refine bK (λc3=>?_) λc3=>?_
 ·have c3:(b.2.1:Int)≠(Zx (P7 n):Int)+3:=c3
  exact he 3 (by rw[D2,if_pos (.inr (by omega))]) (by decide) w9 (U4.trans u9)
 have c3:(b.2.1:Int)=(Zx (P7 n):Int)+3:=c3
 have hlen:(n::t).length=Zx (P7 n)+3:=by omega
 have D3:Xg (n::t)=if Uh 65535 (n::t)≠0 then .error 4 else if iD (P7 n) (Yd (P7 n) t)=false then .error 3 else .ok (mJ n (Yd (P7 n) t)):=by
  rw[D2,if_neg (by rintro(h|h);exact hk0 h;exact h hlen)]
 have hbl: ∀a,b.1=some a→a.block<w.heap.size:=λa ha=>by
  obtain⟨a',ha',hc⟩:=hR.at_ (by simp)
  rw[ha] at ha';cases ha'
  have:=cell_lt (hc 0 _ rfl)
  rw[add_block] at this;exact this
 have R4:Ur w4 b (n::t):=Row.upd R2 u4 λa ha e=>by have:=hbl a ha;omega
 have R9:=Row.Ai R4 u9
 have E9:=E4.Ai u9
 refine Xy.cl hx R9 hcap (by omega) (by omega) λyy w11 u11=>Ee (λcc=>?_) λcc=>?_
 ·have cc:decide (Uh 65535 (n::t)=0)=false:=cc
  exact he 4 (by rw[D3,if_pos (by simpa using cc)]) (by decide) w11 ((U4.trans u9).trans u11)
 have cc:decide (Uh 65535 (n::t)=0)=true:=cc
 have D4:Xg (n::t)=if iD (P7 n) (Yd (P7 n) t)=false then .error 3 else .ok (mJ n (Yd (P7 n) t)):=by
  rw[D3,if_neg (by simpa using cc)]
 have E11:=E9.Ai u11
 refine Fr.Ajs (kG n []) λq w13 u13 hQ hq=>?_
 have E13:=E11.Ai u13
 have G13:=((U4.trans u9).trans u11).trans u13
 have pl:p<w11.heap.size:=E11.b.lt
 have lf:(kG n []).fs.length=(P7 n).length:=by
  have:=congrArg List.length (Aht hk0)
  simpa using this
 have ls:(P7 n).length≤8:=by rw[←lf];exact(kG n []).few
 have hql:=hQ.len
 have lcut:(Yd (P7 n) t).length=(P7 n).length:=qG _ _
 have tot: ∀i,i≤(P7 n).length→Zx ((P7 n).take i)≤Zx (P7 n):=λi hi=>by
  conv=>rhs;rw[←List.take_append_drop i (P7 n)]
  generalize (P7 n).drop i=B
  generalize (P7 n).take i=A
  induction A with
  |nil=>exact Nat.zero_le _
  |cons a A ih=>rw[List.cons_append,Zc,Zc];omega
 refine Ci.by (λz W=> ∃i:Nat,i≤(P7 n).length∧z.2=((i:Int),())∧oD W p y (n::t) (1+Zx ((P7 n).take i))∧Gs W w13.heap.size T.uint64 1 z.1 i (iY ((Yd (P7 n) t).take i))∧Am (λz=>z=p) w13 W) (λz=>(100-z.2.1).toNat)
  ⟨0,by omega,rfl,by simpa [Zx] using E13,Gs.nil _ _ _ _,Am.refl _ _⟩ ?_
 rintro⟨s,z2⟩ W ⟨i,hi,ez,hW,hO,hU⟩ _
 dsimp only at ez hO⊢
 subst ez
 have hQW:Ku W q (kG n []).fs:=Row.upd hQ hU λa ha e=>by have:=hq a ha;omega
 refine Dx (λc5=>?_) λc5=>?_
 ·have c5:(i:Int)<(q.2.1:Int):=c5
  have hil:i<(P7 n).length:=by omega
  have hif:i<(kG n []).fs.length:=by rw[lf];exact hil
  have hfi:(kG n []).fs[i]? =some ((kG n []).fs[i]'hif):=List.getElem?_eq_getElem _
  have hsi:(P7 n)[i]? =some (P7 n)[i]:=List.getElem?_eq_getElem hil
  have hfs:((kG n []).fs[i]'hif).1=((P7 n)[i].1:Int):=by
   have:=congrArg (·[i]?) (Aht hk0)
   simp only[List.getElem?_map,hfi,hsi,Option.map_some,Option.some.injEq] at this
   exact this
  have hs8:(P7 n)[i].1≤8:=by
   have h1:=(kG n []).small _ (List.getElem_mem hif)
   have:=h1.2.1
   rw[hfs] at this;omega
  generalize (kG n []).fs[i]'hif=e at hfi hfs
  refine hQW.ix (z:=(i:Int)) rfl hfi λad ha=>hQW.A8 ha hfi ?_
  refine Ad λp19 w20 e19 k19 u20=>k19.Fg [_,_,_] rfl rfl λw21 k21 u21=>k21.c0 (c:=KI) (x:=e.1) rfl ?_
  have g21:Af W w21:=Af.fresh (Af.refl _) u20 u21 e19
  have tk:Zx ((P7 n).take (i+1))=Zx ((P7 n).take i)+(P7 n)[i].1:=by
   rw[List.take_add_one,hsi]
   simp only[Option.toList_some]
   generalize (P7 n).take i=A
   induction A with
   |nil=>rw[List.nil_append,Zc];simp[Zx]
   |cons a A ih=>rw[List.cons_append,Zc,Zc,ih];omega
  have tl:=tot (i+1) (by omega)
  refine Nj.cl (n:=(P7 n)[i].1) hfs hs8 hx (by omega) (by rw[hlen];omega) (hW.Ai g21) (λhlt=>absurd hlt (by rw[hlen];omega)) λ_ w24 E24 u24=>?_
  have hval:aV (((n::t).drop (1+Zx ((P7 n).take i))).take (P7 n)[i].1)=aV ((t.drop (Zx ((P7 n).take i))).take (P7 n)[i].1):=by
   rw[show 1+Zx ((P7 n).take i)=Zx ((P7 n).take i)+1 by omega,List.drop_succ_cons]
  rw[hval]
  have hvi:=lM (P7 n) t i _ hsi
  refine Ad λp25 w26 e25 k25 u26=>?_
  have O24:=(hO.Ai g21).upd u24 λa ha e=>by have:=(hO.blk ha).1;have:=u13.size;omega
  have O26:=O24.Ai u26
  have s24:=u24.size
  have s26:=u26.size
  have s21:=g21.size
  have sW:=hU.size
  refine Vx (s:=s) (x:=(some ⟨p25,0,none⟩,1,1)) (base:=w13.heap.size) (e:=T.uint64) (size:=1) (n:=i) (xs:=iY ((Yd (P7 n) t).take i)) (news:=iY [aV ((t.drop (Zx ((P7 n).take i))).take (P7 n)[i].1)]) (by kernel_rfl) (by kernel_rfl) (by decide) O26 (k25.row rfl) (Afn _) (by show i+1≤1000000000;omega) (by omega) λs' w28 o28 u28 hb28=>⟨⟨i+1,by omega,?_,?_,?_,?_⟩,?_⟩
  ·show(wrap .i64 ((i:Int)+1),())=_
   rw[Ah (by unfold I64;omega)];rfl
  ·have E26:=E24.Ai u26
   rw[tk,←Nat.add_assoc]
   refine E26.upd u28 (λ⟨a,ha,e⟩=>?_) λa ha ⟨a',ha',e⟩=>?_
   ·have:=(hO.blk ha).1;have:=u13.size;omega
   ·have h1:=(hO.blk ha').1
    have:a.block<w13.heap.size:=by
     obtain⟨a0,ha0,hc⟩:=E13.r.at_ (by simp)
     rw[ha] at ha0;cases ha0
     have:=cell_lt (hc 0 _ rfl)
     rw[add_block] at this;exact this
    omega
  ·have:(Yd (P7 n) t).take (i+1)=(Yd (P7 n) t).take i++[aV ((t.drop (Zx ((P7 n).take i))).take (P7 n)[i].1)]:=by
    rw[List.take_add_one,hvi];rfl
   rw[this]
   unfold iY at o28⊢
   rw[List.map_append];exact o28
  ·have a1:Am (λz=>z=p) w13 w24:=Am.trans (hU.Ai g21) u24 λ_ _ x=>x
   exact Am.trans (a1.Ai u26) u28 λj hj ⟨a,ha,e⟩=>by have:=(hO.blk ha).1;omega
  ·show(100-wrap .i64 ((i:Int)+1)).toNat<(100-(i:Int)).toNat
   rw[Ah (by unfold I64;omega)];omega
 ·have c5: ¬(i:Int)<(q.2.1:Int):=c5
  have:i=(P7 n).length:=by omega
  subst this
  have hOr:=hO.row
  rw[←lcut,List.take_length] at hOr
  have GW:Af w W:=Am.trans G13 hU λj hj e=>by omega
  refine Fr.Apa (kG n []) (n:=s) hOr (by rw[lcut,lf]) λw30 u30=>?_
  rw[Al4 hk0]
  obtain⟨q1,q2⟩:=Ag4 hk0 lcut (jQ (L:=P7 n) (hx.drop 1))
  refine Fr.good (kG n (Yd (P7 n) t)) λw32 u32=>Ee (λcf=>?_) λcf=>?_
  ·have cf:(kG n (Yd (P7 n) t)).ok=false:=cf
   exact he 3 (by rw[D4,if_pos (by rw[←q1];exact cf)]) (by decide) w32 ((GW.trans u30).trans u32)
  ·have cf:(kG n (Yd (P7 n) t)).ok=true:=cf
   rw[q1] at cf
   have:=hf (mJ n (Yd (P7 n) t)) (by rw[D4,if_neg (by rw[cf];decide)]) w32 ((GW.trans u30).trans u32)
   rw[q2 cf];exact this
theorem oU{xs:List Nat}{f:Fr}(hx:eH xs)(h:Xg xs=.ok f):f.ok=true∧f.u:=by
 unfold Xg at h
 split at h
 ·cases h
 split at h
 ·cases h
 rename_i h0
 split at h
 ·cases h
 rename_i h1
 split at h
 ·cases h
 split at h
 ·cases h
 rename_i h2
 injection h with h
 obtain⟨n,t,rfl⟩: ∃n t,xs=n::t:=by
  cases xs with
  |nil=>exact absurd rfl h0
  |cons n t=>exact⟨n,t,rfl⟩
 have hk0:P7 n≠[]:=λe=>h1 (.inl e)
 have lcut:(Yd (P7 n) t).length=(P7 n).length:=qG _ _
 obtain⟨q1,q2⟩:=Ag4 hk0 lcut (jQ (L:=P7 n) (hx.drop 1))
 have h2:iD (P7 n) (Yd (P7 n) t)=true:=by
  cases hb:iD (P7 n) (Yd (P7 n) t)
  ·exact absurd hb h2
  ·rfl
 have e:=q2 h2
 change mJ n (Yd (P7 n) t)=f at h
 rw[←h,←e]
 refine⟨by rw[q1];exact h2,?_⟩
 have hu: ∀v i,Xe (wH v i):=λv i=>by unfold wH Xe;rw[oL];omega
 rcases Yh hk0 with rfl|rfl|rfl|rfl|rfl|rfl
 ·exact⟨hu _ _,hu _ _⟩
 ·trivial
 ·trivial
 ·trivial
 ·exact hu _ _
 ·exact⟨hu _ _,hu _ _⟩
theorem Aec{w:World}{O:NP}{N:NB}{bf be:Nat}{d:Nd}{s:S6}{t:Int}(h:NW w O N bf be d){k:TR Si→WP}
  (hk: ∀w' O',NW w' O' N bf be (d.take (.sync s) t).1→Nx (NO N O) w (NO N O') w'→k (((d.take (.sync s) t).2,()),()) w'):Ae prog F.Gm [pB (N 0),Fr.val (.sync s),iV t] w false Si k:=by
 refine Px.ok (f0:=s.1) (f1:=s.2.1) (f2:=s.2.2.1) (f3:=s.2.2.2.1) (f4:=s.2.2.2.2.1) (f5:=s.2.2.2.2.2) ?_
 unfold Px.wp
 refine Cc.by (λz W=>Af w W) (Zg h (K:=λp e w'=>Af w w') λp w' g _ _=>g) ?_
 rintro z W g _
 refine Ad λp19 w20 e19 k19 u20=>k19.Fg (encs KS (tS s)) rfl rfl λw21 k21 u21=>?_
 have g21:=Af.fresh g u20 u21 e19
 rw[Be,Ac]
 have H:=(h.Ai g21).drew
 have G:=g21.trans (Af.drew w21)
 refine H.n0 15 (c:=.p) (x:=some ⟨bf,0,none⟩) rfl (k21.drew.cA (cs:=KS) (tS s) rfl ?_)
 refine Le.cw (s:=s) H.fw (λh0 w27 u27=>⟨trivial,?_⟩) λc hc c0 hok w27 O' F27 x27=>⟨trivial,?_⟩
 ·have e:d.take (.sync s) t=(d,0):=by show(d.aH s t,(0:Int))=_;unfold Nd.aH;rw[if_pos h0]
  rw[e] at hk
  exact hk w27 O (H.Ai u27) (Nx.of (G.trans u27))
 ·have e:d.take (.sync s) t=({d with f:=hfF d.f s t,e:=xU d.e s.2.1,l:=Xd d.l s.2.1 (yH s),es:=esF c d.es s t},0):=by show(d.aH s t,(0:Int))=_;unfold Nd.aH;rw[hc,if_neg c0]
  rw[e] at hk
  exact hk w27 O' (H.Aeo F27 x27) (Nx.pre G (NW.nxF (N:=N) x27))
theorem Aes{w:World}{O:NP}{N:NB}{bf be:Nat}{d:Nd}{x:Int×Int}{t:Int}(h:NW w O N bf be d){k:TR Si→WP}
  (hk: ∀w' O',NW w' O' N bf be (d.take (.find x) t).1→Nx (NO N O) w (NO N O') w'→k (((d.take (.find x) t).2,()),()) w'):Ae prog F.Gm [pB (N 0),Fr.val (.find x),iV t] w false Si k:=by
 refine Pm.ok (f0:=x.1) (f1:=x.2) ?_
 unfold Pm.wp
 refine Cc.by (λz W=>Af w W) (Zg h (K:=λp e w'=>Af w w') λp w' g _ _=>g) ?_
 rintro z W g _
 refine Ad λp19 w20 e19 k19 u20=>k19.Fg [iV x.1,iV x.2] rfl rfl λw21 k21 u21=>?_
 have g21:=Af.fresh g u20 u21 e19
 have H21:=h.Ai g21
 rw[Ac]
 refine H21.n0 15 (c:=.p) (x:=some ⟨bf,0,none⟩) rfl (Ba.cw H21.fw λw25 u25=>Ee (λc=>?_) λc=>?_)
 ·have e:d.take (.find x) t=({d with lev:=(N7 d.s.me d.lev d.par x).1.1,par:=(N7 d.s.me d.lev d.par x).1.2},0):=by show(if Xb d.f d.e d.es.length=true then _ else _)=_;rw[if_neg (by have c:Xb d.f d.e d.es.length=false:=c;rw[c];decide)]
  rw[e] at hk
  rw[Be,Ac]
  have G:=(g21.trans u25).trans (Af.drew w25)
  have H:=(H21.Ai u25).drew
  refine H.n0 16 (c:=.p) (x:=some ⟨N 2,0,none⟩) rfl ((k21.Ai u25).drew.cA (cs:=[KI,KI]) (x.1,x.2,()) rfl ?_)
  refine Kv.cl (x:=x) H.lb λw31 k31 u31=>⟨trivial,hk w31 O (H.set2 k31 u31) (Nx.pre G (NW.nx 2 (by decide) u31))⟩
 ·have e:d.take (.find x) t=(d,0):=by show(if Xb d.f d.e d.es.length=true then _ else _)=_;rw[if_pos c]
  rw[e] at hk
  exact hk w25 O (H21.Ai u25) (Nx.of (g21.trans u25))
theorem Ad9{w:World}{O:NP}{N:NB}{bf be:Nat}{d:Nd}{m t:Int}(h:NW w O N bf be d){k:TR Si→WP}
  (hk: ∀w' O',NW w' O' N bf be (d.take (.want m) t).1→Nx (NO N O) w (NO N O') w'→k (((d.take (.want m) t).2,()),()) w'):Ae prog F.Gm [pB (N 0),Fr.val (.want m),iV t] w false Si k:=by
 refine Pq.ok (f0:=m) ?_
 unfold Pq.wp
 refine Cc.by (λz W=>Af w W∧z.2=((d.tm t).2,())) (Zg h (K:=λp e w'=>Af w w'∧((e,()):Int×Unit)=((d.tm t).2,())) λp w' g _ _=>⟨g,rfl⟩) ?_
 rintro⟨z1,z2⟩ W ⟨g,ez⟩ _
 dsimp only at ez
 subst ez
 refine Ad λp19 w20 e19 k19 u20=>k19.Fg [iV m] rfl rfl λw21 k21 u21=>?_
 have g21:=Af.fresh g u20 u21 e19
 have H21:=h.Ai g21
 refine Yl (λc=>?_) λc=>?_
 ·have e:d.take (.want m) t=d.push .find:=by show(if(d.tm t).2=0 then _ else _)=_;rw[if_pos c]
  rw[e] at hk
  rw[Ac]
  refine H21.n0 27 (c:=.p) (x:=some ⟨N 8,0,none⟩) rfl (fP (j:=.find) H21 λw25 H25 x25=>hk w25 O H25 (Nx.pre g21 x25))
 ·have e:d.take (.want m) t=(d,0):=by show(if(d.tm t).2=0 then _ else _)=_;rw[if_neg c]
  rw[e] at hk
  exact hk w21 O H21 (Nx.of g21)
theorem Ab4{w:World}{O:NP}{N:NB}{bf be:Nat}{d:Nd}{x:Int×Int×Int}{t:Int}(h:NW w O N bf be d){k:TR Si→WP}
  (hk: ∀w' O',NW w' O' N bf be (d.take (.pulse x) t).1→Nx (NO N O) w (NO N O') w'→k (((d.take (.pulse x) t).2,()),()) w'):Ae prog F.Gm [pB (N 0),Fr.val (.pulse x),iV t] w false Si k:=by
 refine Oa.ok (f0:=x.1) (f1:=x.2.1) (f2:=x.2.2) ?_
 unfold Oa.wp
 refine Cc.by (λz W=>Af w W∧ ∃p,z=(⟨p,0,none⟩,(d.tm t).2,())∧w.heap.size≤p∧Az W p (encs K5 (Yc (d.tm t).1))) (Zg h (K:=λp e w'=>Af w w'∧ ∃q,((p,e,()):Addr×Int×Unit)=(⟨q,0,none⟩,(d.tm t).2,())∧w.heap.size≤q∧Az w' q (encs K5 (Yc (d.tm t).1))) λp w' g hp kp=>⟨g,p,rfl,hp,kp⟩) ?_
 rintro z W ⟨g,p,rfl,hp,kp⟩ _
 have lp:=kp.lt
 refine Ad λp19 w20 e19 k19 u20=>k19.Fg [iV x.1,iV x.2.1,iV x.2.2] rfl rfl λw21 k21 u21=>?_
 have f21:Af W w21:=Af.fresh (Af.refl _) u20 u21 e19
 have g21:=g.trans f21
 have H21:=h.Ai g21
 have P21:=kp.Ai f21
 have lt:=h.lt
 have sW:=g.size
 refine Cc.by (λz W'=>Af w21 W'∧z=(decide ((d.tm t).2=0∧x.2.1=d.s.me),())) ?_ ?_
 ·rw[Be]
  refine Yl (λc=>?_) λc=>⟨Af.drew _,?_⟩
  ·have c:(d.tm t).2=0:=c
   refine k21.drew.c1 1 (c:=KI) (x:=x.2.1) rfl ?_
   rw[Ac]
   refine H21.drew.nb.c0 (c:=KI) (x:=d.s.me) rfl ⟨Af.drew _,?_⟩
   by_cases q:x.2.1=d.s.me
   ·rw[beq_iff_eq.2 q,decide_eq_true ⟨c,q⟩]
   ·rw[beq_eq_false_iff_ne.2 q,decide_eq_false λh=>q h.2]
  ·have c:(d.tm t).2≠0:=c
   rw[decide_eq_false λh=>c h.1]
 ·rintro z W' ⟨g',rfl⟩ _
  refine Dx (λc=>?_) λc=>?_
  ·have e:d.take (.pulse x) t=d.push (.reply x.1 x.2.2 (d.tm t).1):=by show(if(d.tm t).2=0∧x.2.1=d.s.me then _ else _)=_;rw[if_pos c]
   rw[e] at hk
   rw[Be,Ac]
   have H:=(H21.Ai g').drew
   have G:=(g21.trans g').trans (Af.drew W')
   have K:=(k21.Ai g').drew
   have P:=(P21.Ai g').drew
   generalize W'.drew=w29 at*
   refine H.n0 27 (c:=.p) (x:=some ⟨N 8,0,none⟩) rfl (K.c0 (c:=KI) (x:=x.1) rfl (K.c1 2 (c:=KI) (x:=x.2.2) rfl (P.cA (cs:=K5) (Yc (d.tm t).1) rfl ?_)))
   have np: ¬NO N O p19:=λhz=>by have:=lt _ hz;omega
   have npp: ¬NO N O p:=λhz=>by have:=lt _ hz;omega
   exact fP (j:=.reply x.1 x.2.2 (d.tm t).1) H λw36 H36 x36=>⟨⟨P.hold x36.u npp 0 (by simp[encs]),P.hold x36.u npp 1 (by simp[encs]),P.hold x36.u npp 2 (by simp[encs]),P.hold x36.u npp 3 (by simp[encs]),P.hold x36.u npp 4 (by simp[encs]),K.hold x36.u np 2 (by simp),K.hold x36.u np 0 (by simp),trivial⟩,hk w36 O H36 (Nx.pre G x36)⟩
  ·have e:d.take (.pulse x) t=(d,0):=by show(if(d.tm t).2=0∧x.2.1=d.s.me then _ else _)=_;rw[if_neg c]
   rw[e] at hk
   exact hk W' O (H21.Ai g') (Nx.of (g21.trans g'))
abbrev K8r:List CK:=[KI,KI,KI,KI,KI,KI,KU,KI]
def tR8(r:R8):Jf K8r:=(r.1,r.2.1,r.2.2.1,r.2.2.2.1,r.2.2.2.2.1,r.2.2.2.2.2.1,r.2.2.2.2.2.2.1,r.2.2.2.2.2.2.2,())
theorem Abn{w:World}{O:NP}{N:NB}{bf be:Nat}{d:Nd}{r:R8}{t:Int}(h:NW w O N bf be d)(hr:okF (flR r)=true){k:TR Si→WP}
  (hk: ∀w' O',NW w' O' N bf be (d.take (.reply r) t).1→Nx (NO N O) w (NO N O') w'→k (((d.take (.reply r) t).2,()),()) w'):Ae prog F.Gm [pB (N 0),Fr.val (.reply r),iV t] w false Si k:=by
 refine Og.ok (f0:=r.1) (f1:=r.2.1) (f2:=r.2.2.1) (f3:=r.2.2.2.1) (f4:=r.2.2.2.2.1) (f5:=r.2.2.2.2.2.1) (f6:=r.2.2.2.2.2.2.1) (f7:=r.2.2.2.2.2.2.2) ?_
 unfold Og.wp
 refine Cc.by (λz W=>Af w W) (Zg h (K:=λp e w'=>Af w w') λp w' g _ _=>g) ?_
 rintro z W g _
 refine Ad λp19 w20 e19 k19 u20=>k19.Fg (encs K8r (tR8 r)) rfl rfl λw21 k21 u21=>?_
 have g21:=Af.fresh g u20 u21 e19
 have H21:=h.Ai g21
 have lt:=h.lt
 have sW:=g.size
 have n19: ∀z,NO N O z→z≠p19:=λz hz=>by have:=lt _ hz;omega
 have l19:=k21.lt
 refine Cc.by (λz W'=> ∃q,z.1=⟨q,0,none⟩∧Am (λz=>z=N 3) w W'∧Az W' p19 (encs K8r (tR8 r))∧
   ((Ij d.pr r t=true∧z.2=(true,())∧Az W' q [iV (Py r t).1,iV (Py r t).2.1,iV (Py r t).2.2]∧NW W' O N bf be {d with pr:=Xp d.pr r t})∨(Ij d.pr r t=false∧z.2=(false,())∧NW W' O N bf be d))) ?_ ?_
 ·rw[Be,Ac]
  have H:=H21.drew
  have G:=g21.trans (Af.drew w21)
  have K:=k21.drew
  have sd:w21.drew.heap.size=w21.heap.size:=rfl
  generalize w21.drew=w25 at*
  refine H.n0 17 (c:=.p) (x:=some ⟨N 3,0,none⟩) rfl (K.cA (cs:=K8r) (tR8 r) rfl ⟨?_,?_⟩)
  ·have n3:p19≠N 3:=λe=>n19 (N 3) (.inl ⟨3,by decide,rfl⟩) e.symm
   have HH: ∀{S:NP} {w':World},Am S w25 w'→ ¬S p19→ ∀j,j<8→w'.cell? (Addr.add ⟨p19,0,none⟩ j)=some ((w25.cell? (Addr.add ⟨p19,0,none⟩ j)).getD undef):=λu n j hj=>K.hold u n j (by rw[Ak];exact hj)
   have H17: ∀{S:NP} {w':World},Am S w25 w'→ ¬S (N 0)→w'.cell? (Addr.add ⟨N 0,0,none⟩ 17)=some ((w25.cell? (Addr.add ⟨N 0,0,none⟩ 17)).getD undef):=λu n=>H.nb.hold u n 17 (by rw[Q8];decide)
   have n03: ¬N 0=N 3:=H.ne 0 3
   refine Jo.cl (r:=r) (loc:=t) H.pb hr (λhf w30 u30=>?_) λhf w30 k30 u30=>?_
   ·refine⟨⟨HH u30 (λx=>x) 0 (by decide),HH u30 (λx=>x) 1 (by decide),HH u30 (λx=>x) 2 (by decide),HH u30 (λx=>x) 3 (by decide),HH u30 (λx=>x) 4 (by decide),HH u30 (λx=>x) 5 (by decide),HH u30 (λx=>x) 6 (by decide),HH u30 (λx=>x) 7 (by decide),H17 u30 (λx=>x),trivial⟩,Ad λp31 w32 e31 k31 u32=>⟨?_,k31.Fg [_,_,_] rfl rfl λw33 k33 u33=>⟨trivial,p31,rfl,?_,?_,.inr ⟨hf,rfl,?_⟩⟩⟩⟩
    ·have v:=u30.trans u32
     exact⟨HH v (λx=>x) 0 (by decide),HH v (λx=>x) 1 (by decide),HH v (λx=>x) 2 (by decide),HH v (λx=>x) 3 (by decide),HH v (λx=>x) 4 (by decide),HH v (λx=>x) 5 (by decide),HH v (λx=>x) 6 (by decide),HH v (λx=>x) 7 (by decide),H17 v (λx=>x),trivial⟩
    ·exact Am.Bj (G.trans (Af.fresh u30 u32 u33 e31))
    ·exact K.Ai (Af.fresh u30 u32 u33 e31)
    ·exact H.Ai (Af.fresh u30 u32 u33 e31)
   ·have s30:=u30.size
    refine⟨⟨HH u30 n3 0 (by decide),HH u30 n3 1 (by decide),HH u30 n3 2 (by decide),HH u30 n3 3 (by decide),HH u30 n3 4 (by decide),HH u30 n3 5 (by decide),HH u30 n3 6 (by decide),HH u30 n3 7 (by decide),H17 u30 n03,trivial⟩,Ad λp31 w32 e31 k31 u32=>⟨?_,k31.Fg [_,_,_] rfl rfl λw33 k33 u33=>⟨trivial,p31,rfl,?_,?_,.inl ⟨hf,rfl,k33,?_⟩⟩⟩⟩
    ·have v:Am (λz=>z=N 3) w25 w32:=u30.Ai u32
     exact⟨HH v n3 0 (by decide),HH v n3 1 (by decide),HH v n3 2 (by decide),HH v n3 3 (by decide),HH v n3 4 (by decide),HH v n3 5 (by decide),HH v n3 6 (by decide),HH v n3 7 (by decide),H17 v n03,trivial⟩
    ·exact Am.trans (Am.Bj G) (u30.Ai (Af.fresh (Af.refl _) u32 u33 e31)) λ_ _ x=>x
    ·exact(K.upd u30 n3).Ai (Af.fresh (Af.refl _) u32 u33 e31)
    ·have e:Xp d.pr r t={d.pr with waits:=false,tries:=0}:=by unfold Xp;rw[if_pos hf]
     rw[e]
     exact(H.qN k30 u30).Ai (Af.fresh (Af.refl _) u32 u33 e31)
  ·have n3:p19≠N 3:=λe=>n19 (N 3) (.inl ⟨3,by decide,rfl⟩) e.symm
   refine Ad λp34 w35 e34 k34 u35=>⟨?_,?_⟩
   ·have HH: ∀j,j<8→w35.cell? (Addr.add ⟨p19,0,none⟩ j)=some ((w25.cell? (Addr.add ⟨p19,0,none⟩ j)).getD undef):=λj hj=>K.hold u35 (λx=>x) j (by rw[Ak];exact hj)
    exact⟨HH 0 (by decide),HH 1 (by decide),HH 2 (by decide),HH 3 (by decide),HH 4 (by decide),HH 5 (by decide),HH 6 (by decide),HH 7 (by decide),H.nb.hold u35 (λx=>x) 17 (by rw[Q8];decide),trivial⟩
   have n34:p34≠N 3:=λe=>by have:=H.lt (N 3) (.inl ⟨3,by decide,rfl⟩);omega
   have s35:=u35.size
   have l34:=k34.lt
   refine Jo.cl (r:=r) (loc:=t) (H.Ai u35).pb hr (λhf w37 u37=>⟨trivial,?_⟩) λhf w37 k37 u37=>⟨trivial,?_⟩
   ·refine(k34.Ai u37).Fg [_,_,_] rfl rfl λw38 k38 u38=>⟨trivial,p34,rfl,?_,?_,.inr ⟨hf,rfl,?_⟩⟩
    ·exact Am.Bj (G.trans (Af.fresh (Af.refl _) (u35.trans u37) u38 e34))
    ·exact K.Ai (Af.fresh (Af.refl _) (u35.trans u37) u38 e34)
    ·exact H.Ai (Af.fresh (Af.refl _) (u35.trans u37) u38 e34)
   ·have H37:=(H.Ai u35).qN k37 u37
    refine(k34.upd u37 n34).Fg [_,_,_] rfl rfl λw38 k38 u38=>⟨trivial,p34,rfl,?_,?_,.inl ⟨hf,rfl,k38,?_⟩⟩
    ·have a1:Am (λz=>z=N 3) w w37:=Am.trans (Am.Bj (G.trans u35)) u37 λ_ _ x=>x
     exact Am.new a1 u38 λhh=>by have:=G.size;omega
    ·exact((K.Ai u35).upd u37 n3).upd u38 (by omega)
    ·have e:Xp d.pr r t={d.pr with waits:=false,tries:=0}:=by unfold Xp;rw[if_pos hf]
     rw[e]
     exact H37.upd u38 λz hz e=>by have:=H.lt z hz;omega
 ·rintro⟨z1,z2⟩ W' ⟨q,rfl,U,K,hc⟩ _
  rcases hc with ⟨hp,ez,kq,H'⟩|⟨hp,ez,H'⟩
  ·dsimp only at ez
   subst ez
   refine Vt rfl ?_
   have e:d.take (.reply r) t=({d with pr:=Xp d.pr r t,so:=aG d.so (Py r t) r.2.2.2.2.2.1 r.2.2.2.2.2.2.1},0):=by show(if Ij d.pr r t=true then _ else _)=_;rw[if_pos hp]
   rw[e] at hk
   rw[Be,Ac]
   have H:=H'.drew
   have Kd:=K.drew
   have U':Am (λz=>z=N 3) w W'.drew:=U.Ai (Af.drew W')
   have kqd:=kq.drew
   generalize W'.drew=w39 at*
   have n4:p19≠N 4:=λe=>n19 (N 4) (.inl ⟨4,by decide,rfl⟩) e.symm
   refine H.n0 18 (c:=.p) (x:=some ⟨N 4,0,none⟩) rfl (kqd.bC (Kd.c1 5 (c:=KI) (x:=r.2.2.2.2.2.1) rfl (Kd.c1 6 (c:=KU) (x:=r.2.2.2.2.2.2.1) rfl ?_)))
   have NX:Nx (NO N O) w (NO N O) w39:=NW.nx 3 (by decide) U'
   refine Je.cl (e:=Py r t) H.sb (λhf w46 u46=>⟨⟨Kd.hold u46 (λx=>x) 6 (by rw[Ak];decide),Kd.hold u46 (λx=>x) 5 (by rw[Ak];decide),trivial⟩,?_⟩) λhf w46 k46 u46=>⟨⟨Kd.hold u46 n4 6 (by rw[Ak];decide),Kd.hold u46 n4 5 (by rw[Ak];decide),trivial⟩,?_⟩
   ·have e2:aG d.so (Py r t) r.2.2.2.2.2.1 r.2.2.2.2.2.2.1=d.so:=by unfold aG;rw[if_neg (by rw[hf];decide)]
    rw[e2] at hk
    exact hk w46 O (H.Ai u46) (NX.Ai u46)
   ·have e2:aG d.so (Py r t) r.2.2.2.2.2.1 r.2.2.2.2.2.2.1={d.so with e:=Py r t,root:=r.2.2.2.2.2.1,boot:=r.2.2.2.2.2.2.1,age:=0,has:=true}:=by unfold aG;rw[if_pos hf]
    rw[e2] at hk
    exact hk w46 O (H.Ae2 k46 u46) (NX.trans (NW.nx 4 (by decide) u46))
  ·dsimp only at ez
   subst ez
   refine Jl rfl ?_
   have e:d.take (.reply r) t=(d,0):=by show(if Ij d.pr r t=true then _ else _)=_;rw[if_neg (by rw[hp];decide)]
   rw[e] at hk
   exact hk W' O H' (NW.nx 3 (by decide) U)
theorem Aa8{w:World}{O:NP}{N:NB}{bf be:Nat}{d:Nd}{a:A6}{t:Int}(h:NW w O N bf be d){k:TR Si→WP}
  (hk: ∀w' O',NW w' O' N bf be (d.take (.anchor a) t).1→Nx (NO N O) w (NO N O') w'→k (((d.take (.anchor a) t).2,()),()) w'):Ae prog F.Gm [pB (N 0),Fr.val (.anchor a),iV t] w false Si k:=by
 refine Ii.ok (f0:=a.1) (f1:=a.2.1) (f2:=a.2.2.1) (f3:=a.2.2.2.1) (f4:=a.2.2.2.2.1) (f5:=a.2.2.2.2.2) ?_
 unfold Ii.wp
 refine Cc.by (λz W=>Af w W) (Zg h (K:=λp e w'=>Af w w') λp w' g _ _=>g) ?_
 rintro z W g _
 refine Ad λp19 w20 e19 k19 u20=>k19.Fg (a6 a) rfl rfl λw21 k21 u21=>?_
 have g21:=Af.fresh g u20 u21 e19
 rw[Be,Ac]
 have H:=(h.Ai g21).drew
 have G:=g21.trans (Af.drew w21)
 refine k21.drew.cA (cs:=K6) (t6 a) rfl ?_
 refine Gh.in (a:=a) H.nb (λhf w26 u26=>⟨trivial,Jl rfl ?_⟩) λhf w26 k26 u26=>⟨trivial,Vt rfl ?_⟩
 ·have e:d.take (.anchor a) t=(d,0):=by show(if Zi d.bh d.ba a=true then _ else _)=_;rw[if_neg (by rw[hf];decide)]
  rw[e] at hk
  exact hk w26 O (H.Ai u26) (Nx.of (G.trans u26))
 ·have e:d.take (.anchor a) t=({d with bh:=true,ba:=a}:Nd).pass:=by show(if Zi d.bh d.ba a=true then _ else _)=_;rw[if_pos hf]
  rw[e] at hk
  have H26:=H.set0 (on:=d.on) (boot:=d.boot) (bh:=true) (ba:=a) k26 u26
  exact Ib.n H26 λw28 H28 x28=>hk w28 O H28 (Nx.trans (Nx.pre G (NW.nx 0 (by decide) u26)) x28)
theorem Gm.n{w:World}{O:NP}{N:NB}{bf be:Nat}{d:Nd}{f:Fr}{t:Int}(h:NW w O N bf be d)(hf:f.ok=true){k:TR Si→WP}
  (hk: ∀w' O',NW w' O' N bf be (d.take f t).1→Nx (NO N O) w (NO N O') w'→k (((d.take f t).2,()),()) w'):Ae prog F.Gm [pB (N 0),f.val,iV t] w false Si k:=by
 cases f with
 |sync s=>exact Aec h hk
 |find x=>exact Aes h hk
 |want m=>exact Ad9 h hk
 |pulse x=>exact Ab4 h hk
 |reply r=>exact Abn h hf hk
 |anchor a=>exact Aa8 h hk
theorem Ia.n{w:World}{O:NP}{N:NB}{bf be:Nat}{d:Nd}{j:Int}{b:Sl}{xs:List Nat}(h:NW w O N bf be d)(hG:Xn d)(hx:eH xs)(hR:Ur w b xs)(hcap:b.2.1≤b.2.2){k:TR Si→WP}
  (hk: ∀w' O',NW w' O' N bf be (d.hear j xs).1→Nx (NO N O) w (NO N O') w'→k (((d.hear j xs).2,()),()) w'):Ae prog F.Ia [pB (N 0),iV j,.slice b.1 b.2.1 b.2.2] w false Si k:=by
 refine Ia.ok (b:=b) ?_
 unfold Ia.wp
 refine Iu.n h hG (bK (λc=>?_) λc0=>?_)
 ·have e:d.hear j xs=(d,(d.Yf j).2):=by unfold Nd.hear;rw[if_pos c]
  rw[e] at hk
  exact hk w O h (Nx.of (Af.refl _))
 have c0:(d.Yf j).2=0:=c0
 have e0:d.hear j xs=match Xg xs with| .error e=>(d,e)| .ok f=>d.heard f (d.Yf j).1:=by unfold Nd.hear;rw[if_neg (by omega)];rfl
 refine Ru.cl hx hR hcap (λe he hne w4 u4=>?_) λf hf w4 u4=>?_
 ·rw[e0,he] at hk
  rw[Be]
  refine Vt (bne_iff_ne.2 hne) (hk w4.drew O (h.Ai u4).drew (Nx.of (u4.trans (Af.drew w4))))
 ·rw[e0,hf] at hk
  rw[Be]
  refine Jl rfl ?_
  rw[Ac]
  have H:=(h.Ai u4).drew
  have G:=u4.trans (Af.drew w4)
  generalize w4.drew=w5 at*
  refine H.nb.c0 (c:=KI) (x:=d.s.me) rfl (f.Akh λw9 u9=>⟨⟨H.nb.hold u9 (λx=>x) 0 (by rw[Q8];decide),trivial⟩,Yl (λc=>?_) λc=>?_⟩)
  ·have c:f.from=d.s.me:=c
   have e:d.heard f (d.Yf j).1=(d,0):=by unfold Nd.heard;rw[if_pos c]
   rw[show(match (Except.ok f:Except Int Fr) with| .error e=>(d,e)| .ok f=>d.heard f (d.Yf j).1)=d.heard f (d.Yf j).1 from rfl,e] at hk
   exact hk w9 O (H.Ai u9) (Nx.of (G.trans u9))
  ·have c:f.from≠d.s.me:=c
   have e:d.heard f (d.Yf j).1=d.take f (d.Yf j).1:=by unfold Nd.heard;rw[if_neg c]
   rw[show(match (Except.ok f:Except Int Fr) with| .error e=>(d,e)| .ok f=>d.heard f (d.Yf j).1)=d.heard f (d.Yf j).1 from rfl,e] at hk
   exact Gm.n (H.Ai u9) (oU hx hf).1 λw11 O' H11 x11=>hk w11 O' H11 (Nx.pre (G.trans u9) x11)
theorem NW.nx0{w w':World}{O:NP}{N:NB}(u:Am (λz=>z=N 0) w w'):Nx (NO N O) w (NO N O) w':=⟨u.mono λz hz=>.inl ⟨0,by decide,hz.symm⟩,λz hz=>.inl hz⟩
theorem Qj.n{w:World}{O:NP}{N:NB}{bf be:Nat}{d:Nd}{s:ByteArray}(h:NW w O N bf be d)(hs:s.size≤1000000){k:TR Aji→WP}
  (hk: ∀w',NW w' O N bf be (d.tag s).1→Nx (NO N O) w (NO N O) w'→k (((d.tag s).2.1,()),((d.tag s).2.2,()),()) w'):Ae prog F.Qj [pB (N 0),.string s] w true Aji k:=by
 refine Qj.ok ?_
 unfold Qj.wp
 refine D6.n h λw2 u2=>Ad λp3 w4 e3 k3 u4=>k3.Fg (encs K5 (Yc d.time.1)) rfl rfl λw5 k5 u5=>?_
 have g5:=Af.fresh u2 u4 u5 e3
 have H5:=h.Ai g5
 have lt:=h.lt
 have sz:=(u2.trans u4).size
 refine bK (λc=>?_) λc0=>?_
 ·have c:d.time.2≠0:=c
  have e:d.tag s=(d,0,d.time.2):=by unfold Nd.tag;rw[if_pos c]
  rw[e] at hk
  exact hk w5 H5 (Nx.of g5)
 have c0:d.time.2=0:=c0
 rw[Be,Ac]
 have H:=H5.drew
 have K:=k5.drew
 have G:=g5.trans (Af.drew w5)
 have n3: ∀z,NO N O z→z≠p3:=λz hz=>by have:=lt z hz;have:=u2.size;omega
 generalize w5.drew=w6 at*
 refine H.n0 26 (c:=.p) (x:=some ⟨N 5,0,none⟩) rfl ?_
 rw[Ac]
 refine H.n0 14 (c:=.p) (x:=some ⟨N 1,0,none⟩) rfl (K.cA (cs:=K5) (Yc d.time.1) rfl ?_)
 have HK: ∀{S:NP} {w':World},Am S w6 w'→ ¬S p3→ ∀j,j<5→w'.cell? (Addr.add ⟨p3,0,none⟩ j)=some ((w6.cell? (Addr.add ⟨p3,0,none⟩ j)).getD undef):=λu n j hj=>K.hold u n j (by rw[Ak];exact hj)
 have HN: ∀{S:NP} {w':World},Am S w6 w'→ ¬S (N 0)→ ∀j,j<28→w'.cell? (Addr.add ⟨N 0,0,none⟩ j)=some ((w6.cell? (Addr.add ⟨N 0,0,none⟩ j)).getD undef):=λu n j hj=>H.nb.hold u n j (by rw[Q8];exact hj)
 have G0:=Af.refl w6
 refine Ez.cl H.cb ⟨⟨HK G0 (λx=>x) 0 (by decide),HK G0 (λx=>x) 1 (by decide),HK G0 (λx=>x) 2 (by decide),HK G0 (λx=>x) 3 (by decide),HK G0 (λx=>x) 4 (by decide),HN G0 (λx=>x) 14 (by decide),HN G0 (λx=>x) 26 (by decide),trivial⟩,?_⟩
 refine Qk.cL (a:=d.time.1) (js:=d.evs) (last:=d.last) hs (H.ne 6 7) (H.ne 5 6) (H.ne 5 7) H.ge H.gb (λhl w15 u15=>⟨⟨HN u15 (λx=>x) 14 (by decide),trivial⟩,?_⟩) (λhl hf w15 u15=>⟨⟨HN u15 (λx=>x) 14 (by decide),trivial⟩,?_⟩) λhl hf w15 R15 k15 u15=>⟨⟨HN u15 (by rintro(e|e|e);exact(H.ne 0 5) e;exact(H.ne 0 6) e;exact(H.ne 0 7) e) 14 (by decide),trivial⟩,?_⟩
 ·have e:d.tag s=(d,0,1):=by unfold Nd.tag;rw[if_neg (by omega),if_pos hl]
  rw[e] at hk
  exact hk w15 (H.Ai u15) (Nx.of (G.trans u15))
 ·have e:d.tag s=(d,0,6):=by unfold Nd.tag;rw[if_neg (by omega),if_neg (by rw[hl];decide),if_pos hf]
  rw[e] at hk
  exact hk w15 (H.Ai u15) (Nx.of (G.trans u15))
 ·have e:d.tag s=({d with evs:=d.evs++[⟨wrap .i64 (d.last+1),s,d.now,d.time.1⟩],last:=wrap .i64 (d.last+1)},wrap .i64 (d.last+1),0):=by unfold Nd.tag;rw[if_neg (by omega),if_neg (by rw[hl];decide),if_neg (by omega)]
  rw[e] at hk
  exact hk w15 (H.Aa7 k15 R15 u15) (Nx.pre G (NW.nx5 u15))
theorem Oq.n{w:World}{O:NP}{N:NB}{bf be:Nat}{d:Nd}(h:NW w O N bf be d){k:TR REB→WP}
  (hk: ∀w',NW w' O N bf be d.Ua.1→Nx (NO N O) w (NO N O) w'→k (fK (d.Ua.2.getD ev0),(d.Ua.2.isSome,()),()) w'):Ae prog F.Oq [pB (N 0)] w true REB k:=by
 refine Oq.ok ?_
 unfold Oq.wp
 have lt:=h.lt
 refine Ad λp1 w2 e1 k1 u1=>?_
 have H:=h.Ai u1
 refine Cm.cl H ?_
 have n1: ∀z,NO N O z→z≠p1:=λz hz=>by have:=lt z hz;omega
 by_cases hon:d.on=true
 ·rw[if_pos hon]
  have e:d.Ua=({d with evs:=d.evs.tail},d.evs.head?):=by unfold Nd.Ua;rw[if_neg (by rw[hon];decide)]
  rw[e] at hk
  refine Jl rfl ?_
  rw[Ac]
  refine H.n0 26 (c:=.p) (x:=some ⟨N 5,0,none⟩) rfl (Ou.cL (js:=d.evs) (last:=d.last) (H.ne 6 7) H.ge H.gb (λhe w10 u10=>?_) λj t he w10 R10 u10=>?_)
  ·refine(k1.Ai u10).Fg (encs jD (fK ev0)) rfl rfl λw11 k11 u11=>k11.cA (cs:=jD) (fK ev0) rfl ?_
   have g11:Af w w11:=Af.fresh (Af.refl _) (u1.trans u10) u11 e1
   have:=hk w11 (by rw[he];have:=h.Ai g11;rw[←he];exact(by rw[he];exact(show NW w11 O N bf be {d with evs:=[]} from by rw[←he];exact this))) (Nx.of g11)
   rw[he] at this
   exact this
  ·refine(k1.upd u10 (by rintro(e|e);exact n1 _ (.inl ⟨6,by decide,rfl⟩) e.symm;exact n1 _ (.inl ⟨7,by decide,rfl⟩) e.symm)).Fg (encs jD (fK j)) rfl rfl λw11 k11 u11=>k11.cA (cs:=jD) (fK j) rfl ?_
   have no: ∀i,i<10→i≠6→i≠7→ ¬(N i=N 6∨N i=N 7):=λi hi b c=>by
    rintro(e|e)
    ·exact b (H.inj _ _ hi (by decide) e)
    ·exact c (H.inj _ _ hi (by decide) e)
   have H10:=H.Aa7 (evs:=t) (last:=d.last) (H.gb.upd u10 (no 5 (by decide) (by decide) (by decide))) R10 (u10.mono λz hz=>.inr hz)
   have H11:=H10.upd u11 λz hz e=>n1 z hz e
   have X:Nx (NO N O) w (NO N O) w11:=by
    have a1:Am (λz=>z=N 5∨z=N 6∨z=N 7) w w10:=Am.trans (Am.Bj u1) (u10.mono λz hz=>.inr hz) λ_ _ x=>x
    exact NW.nx5 (Am.new a1 u11 λhh=>by omega)
   have:=hk w11 (by rw[he];exact H11) X
   rw[he] at this
   exact this
 ·rw[if_neg hon]
  have e:d.Ua=(d,none):=by unfold Nd.Ua;rw[if_pos (by simpa using hon)]
  rw[e] at hk
  refine Vt rfl (k1.Fg (encs jD (fK ev0)) rfl rfl λw5 k5 u5=>k5.cA (cs:=jD) (fK ev0) rfl ?_)
  have g:Af w w5:=Af.fresh (Af.refl _) u1 u5 e1
  exact hk w5 (h.Ai g) (Nx.of g)
theorem Qc.n{w:World}{O:NP}{N:NB}{bf be:Nat}{d:Nd}{tai:Int}(h:NW w O N bf be d){k:TR Si→WP}
  (hk: ∀w',NW w' O N bf be (d.fix tai).1→Nx (NO N O) w (NO N O) w'→k (((d.fix tai).2,()),()) w'):Ae prog F.Qc [pB (N 0),iV tai] w false Si k:=by
 refine Qc.ok ?_
 unfold Qc.wp
 refine Cm.cl h ?_
 by_cases hon:d.on=true
 case neg=>
  rw[if_neg hon]
  have e:d.fix tai=(d,10):=by unfold Nd.fix;rw[if_pos (by simpa using hon)]
  rw[e] at hk
  exact Vt rfl (hk w h (Nx.of (Af.refl _)))
 rw[if_pos hon]
 have n0: ¬d.on=false:=by rw[hon];decide
 refine Jl rfl ?_
 rw[Ac]
 refine h.n0 10 (c:=.b) (x:=d.s.gate) rfl (Ee (λc=>?_) λc1=>?_)
 ·have e:d.fix tai=(d,7):=by unfold Nd.fix;rw[if_neg n0,if_pos c]
  rw[e] at hk
  exact hk w h (Nx.of (Af.refl _))
 have n1: ¬d.s.gate=false:=by have c1:d.s.gate=true:=c1;rw[c1];decide
 refine D6.n h λw6 u6=>Ad λp7 w8 e7 k7 u8=>k7.Fg (encs K5 (Yc d.time.1)) rfl rfl λw9 k9 u9=>?_
 have g9:=Af.fresh u6 u8 u9 e7
 have H9:=h.Ai g9
 have lt:=h.lt
 refine bK (λc=>?_) λc0=>?_
 ·have c:d.time.2≠0:=c
  have e:d.fix tai=(d,d.time.2):=by unfold Nd.fix;rw[if_neg n0,if_neg n1,if_pos c]
  rw[e] at hk
  exact hk w9 H9 (Nx.of g9)
 have c0:d.time.2=0:=c0
 obtain⟨a,ea⟩: ∃a,a=d.Tc d.time.1 tai:=⟨_,rfl⟩
 have f0:okF (mG a)=false→d.fix tai=(d,1):=λhf=>by unfold Nd.fix;rw[if_neg n0,if_neg n1,if_neg (by omega),←ea,if_pos hf]
 have f1:okF (mG a)=true→d.fix tai=({d with bh:=true,ba:=a}:Nd).pass:=λhf=>by unfold Nd.fix;rw[if_neg n0,if_neg n1,if_neg (by omega),←ea,if_neg (by rw[hf];decide)]
 rw[Be,Ac,Ac]
 have H:=H9.drew
 have K:=k9.drew
 have G:=g9.trans (Af.drew w9)
 have sz:=u6.size
 have n7: ∀z,NO N O z→z≠p7:=λz hz=>by have:=lt z hz;omega
 generalize w9.drew=w10 at*
 refine H.nb.c0 (c:=KI) (x:=d.s.me) rfl (K.cA (cs:=K5) (Yc d.time.1) rfl ⟨?_,?_⟩)
 ·have n70:p7≠N 0:=λe=>n7 (N 0) (.inl ⟨0,by decide,rfl⟩) e.symm
  have HK: ∀{w':World},Am (λz=>z=N 0) w10 w'→ ∀j,j<5→w'.cell? (Addr.add ⟨p7,0,none⟩ j)=some ((w10.cell? (Addr.add ⟨p7,0,none⟩ j)).getD undef):=λu j hj=>K.hold u n70 j (by rw[Ak];exact hj)
  refine Et.in (t:=d.time.1) (a:=a) ea H.nb (λhf w16 u16=>⟨?_,?_⟩) λhf w16 k16 u16=>⟨?_,?_⟩
  ·have v:Am (λz=>z=N 0) w10 w16:=Am.Bj u16
   exact⟨HK v 0 (by decide),HK v 1 (by decide),HK v 2 (by decide),HK v 3 (by decide),HK v 4 (by decide),H.nb.hold u16 (λx=>x) 0 (by rw[Q8];decide),trivial⟩
  ·refine Ad λp17 w18 e17 k17 u18=>⟨?_,k17.Fg (a6 (0,0,0,0,0,0)) rfl rfl λw19 k19 u19=>⟨trivial,Vt rfl ?_⟩⟩
   ·have u:=u16.trans u18
    have v:Am (λz=>z=N 0) w10 w18:=Am.Bj u
    exact⟨HK v 0 (by decide),HK v 1 (by decide),HK v 2 (by decide),HK v 3 (by decide),HK v 4 (by decide),H.nb.hold u (λx=>x) 0 (by rw[Q8];decide),trivial⟩
   ·rw[f0 hf] at hk
    have g:=Af.fresh u16 u18 u19 e17
    exact hk w19 (H.Ai g) (Nx.of (G.trans g))
  ·have HA:w16.cell? (Addr.add ⟨N 0,0,none⟩ 0)=some ((w10.cell? (Addr.add ⟨N 0,0,none⟩ 0)).getD undef):=by rw[N8,k16.cell,H.nb.cell];rfl
   exact⟨HK u16 0 (by decide),HK u16 1 (by decide),HK u16 2 (by decide),HK u16 3 (by decide),HK u16 4 (by decide),HA,trivial⟩
  ·have HA:w16.cell? (Addr.add ⟨N 0,0,none⟩ 0)=some ((w10.cell? (Addr.add ⟨N 0,0,none⟩ 0)).getD undef):=by rw[N8,k16.cell,H.nb.cell];rfl
   refine Ad λp17 w18 e17 k17 u18=>⟨?_,k17.Fg (a6 a) rfl rfl λw19 k19 u19=>⟨trivial,Jl rfl ?_⟩⟩
   ·have v:Am (λz=>z=N 0) w10 w18:=Am.trans u16 (Am.Bj u18) λ_ _ x=>x
    have HB:w18.cell? (Addr.add ⟨N 0,0,none⟩ 0)=some ((w10.cell? (Addr.add ⟨N 0,0,none⟩ 0)).getD undef):=by rw[N8,(k16.Ai u18).cell,H.nb.cell];rfl
    exact⟨HK v 0 (by decide),HK v 1 (by decide),HK v 2 (by decide),HK v 3 (by decide),HK v 4 (by decide),HB,trivial⟩
   ·have hn:N 0≠p17:=by have:=k16.lt;omega
    have v:Am (λz=>z=N 0) w10 w19:=Am.new (Am.trans u16 (Am.Bj u18) λ_ _ x=>x) u19 λhh=>by have:=u16.size;omega
    rw[f1 hf] at hk
    refine Ib.n ((H.set0 (on:=d.on) (boot:=d.boot) (bh:=true) (ba:=a) ((k16.Ai u18).upd u19 hn) v)) λw21 H21 X21=>hk w21 H21 ((NW.nx0 (Am.trans (Am.Bj G) v λ_ _ x=>x)).trans X21)
 ·have n70:p7≠N 0:=λe=>n7 (N 0) (.inl ⟨0,by decide,rfl⟩) e.symm
  refine Ad λp22 w23 e22 k22 u23=>⟨⟨K.hold u23 (λx=>x) 0 (by rw[Ak];decide),K.hold u23 (λx=>x) 1 (by rw[Ak];decide),K.hold u23 (λx=>x) 2 (by rw[Ak];decide),K.hold u23 (λx=>x) 3 (by rw[Ak];decide),K.hold u23 (λx=>x) 4 (by rw[Ak];decide),H.nb.hold u23 (λx=>x) 0 (by rw[Q8];decide),trivial⟩,?_⟩
  have B23:=H.nb.Ai u23
  have hlt:=H.nb.lt
  refine Et.in (t:=d.time.1) (a:=a) ea B23 (λhf w25 u25=>⟨trivial,?_⟩) λhf w25 k25 u25=>⟨trivial,?_⟩
  ·refine(k22.Ai u25).Fg (a6 (0,0,0,0,0,0)) rfl rfl λw26 k26 u26=>⟨trivial,Vt rfl ?_⟩
   rw[f0 hf] at hk
   have g:Af w10 w26:=Am.new (u23.trans u25) u26 λhh=>by omega
   exact hk w26 (H.Ai g) (Nx.of (G.trans g))
  ·have hn:p22≠N 0:=by omega
   refine(k22.upd u25 hn).Fg (a6 a) rfl rfl λw26 k26 u26=>⟨trivial,Jl rfl ?_⟩
   have v:Am (λz=>z=N 0) w10 w26:=Am.new (Am.trans (Am.Bj u23) u25 λ_ _ x=>x) u26 λhh=>by omega
   rw[f1 hf] at hk
   refine Ib.n ((H.set0 (on:=d.on) (boot:=d.boot) (bh:=true) (ba:=a) (k25.upd u26 (λe=>hn e.symm)) v)) λw21 H21 X21=>hk w21 H21 ((NW.nx0 (Am.trans (Am.Bj G) v λ_ _ x=>x)).trans X21)
structure BTG(dr ji tm rn:Int):Prop where
 d:0≤dr∧dr≤10
 j:0≤ji∧ji≤20
 t:1≤tm∧tm≤1000
 r:1≤rn∧rn≤64
abbrev btV(dr ji tm rn:Int):Value:=.agg #[iV dr,iV ji,iV tm,iV rn]
theorem Es.cl{dr ji tm rn:Int}(g:BTG dr ji tm rn){w:World}{k:TR Wh→WP}(h: ∀w',Af w w'→k ((true,()),()) w'):Ae prog F.Es [btV dr ji tm rn] w false Wh k:=by
 refine Es.ok ?_
 unfold Es.wp
 obtain⟨d,j,t,r⟩:=g
 refine Ad λp w2 e2 k2 u2=>k2.c0 rfl (Dx (λ_=>k2.c0 rfl (Dx (λ_=>k2.c1 1 rfl (Dx (λ_=>k2.c1 1 rfl (Dx (λ_=>k2.c1 2 rfl (Dx (λ_=>k2.c1 2 rfl (Dx (λ_=>k2.c1 3 rfl (Dx (λ_=>k2.c1 3 rfl ?_) λn=>absurd r.1 n)) λn=>absurd t.2 n)) λn=>absurd t.1 n)) λn=>absurd j.2 n)) λn=>absurd j.1 n)) λn=>absurd d.2 n)) λn=>absurd d.1 n)
 have:=h w2 u2
 rw[decide_eq_true r.2]
 exact this
def Y3(dr rn n:Int):Int:=n*rn*(1000+dr)
def tN(dr rn n:Int):Int:=(2*dr*Y3 dr rn n+(1000-dr)-1)/(1000-dr)
def xC(dr ji tm rn:Int):Int:=2*ji+tN dr rn (tm+1)+2
def lX(dr ji tm rn:Int):Int:=2*ji+2*tN dr rn (8*(tm+1))+6
def tZ(dr ji tm rn h:Int):Int:=if h<0∨h>63 then 0 else h*(xC dr ji tm rn+lX dr ji tm rn)
theorem qU{dr ji tm rn n:Int}(g:BTG dr ji tm rn)(h0:0≤n)(h1:n≤8008):0≤n*rn∧n*rn≤512512∧0≤Y3 dr rn n∧Y3 dr rn n≤517637120:=by
 obtain⟨d,j,t,r⟩:=g
 have a0:0≤n*rn:=Int.mul_nonneg h0 (by omega)
 have a1:n*rn≤8008*64:=Int.mul_le_mul h1 r.2 (by omega) (by omega)
 have b0:0≤n*rn*(1000+dr):=Int.mul_nonneg a0 (by omega)
 have b1:n*rn*(1000+dr)≤512512*1010:=Int.mul_le_mul (by omega) (by omega) (by omega) (by omega)
 unfold Y3
 omega
theorem aI{dr ji tm rn n:Int}(g:BTG dr ji tm rn)(h0:0≤n)(h1:n≤8008):0≤2*dr*Y3 dr rn n∧2*dr*Y3 dr rn n≤10352742400∧0≤tN dr rn n∧tN dr rn n≤10352743400:=by
 have T:=qU g h0 h1
 obtain⟨d,j,t,r⟩:=g
 have a0:0≤2*dr*Y3 dr rn n:=Int.mul_nonneg (by omega) T.2.2.1
 have a1:2*dr*Y3 dr rn n≤20*517637120:=Int.mul_le_mul (by omega) T.2.2.2 T.2.2.1 (by omega)
 refine⟨a0,by omega,Int.ediv_nonneg (by omega) (by omega),?_⟩
 unfold tN
 refine Int.le_trans (Int.ediv_le_self _ (by omega)) (by omega)
theorem I7.cl{dr ji tm rn n:Int}(g:BTG dr ji tm rn)(h0:0≤n)(h1:n≤8008){w:World}{k:TR Si→WP}(h: ∀w',Af w w'→k ((Y3 dr rn n,()),()) w'):Ae prog F.I7 [btV dr ji tm rn,iV n] w false Si k:=by
 refine I7.ok ?_
 unfold I7.wp
 have T:=qU g h0 h1
 refine Ad λp w2 e2 k2 u2=>k2.cA (cs:=K4i) (dr,ji,tm,rn,()) rfl (Es.cl g λw5 u5=>Jl rfl (Dx (λc=>by omega) λ_=>Dx (λc=>by omega) λ_=>?_))
 have k5:=k2.Ai u5
 refine k5.c1 3 (c:=KI) (x:=rn) rfl (k5.c0 (c:=KI) (x:=dr) rfl ?_)
 have:=h w5 (u2.trans u5)
 have d:=g.d
 rw[Ah (n:=n*rn) (by unfold I64;omega),Ah (n:=1000+dr) (by unfold I64;omega),Ah (by unfold I64;unfold Y3 at T;omega)]
 exact this
theorem Ir.cl{dr ji tm rn n:Int}(g:BTG dr ji tm rn)(h0:0≤n)(h1:n≤8008){w:World}{k:TR Si→WP}(h: ∀w',Af w w'→k ((tN dr rn n,()),()) w'):Ae prog F.Ir [btV dr ji tm rn,iV n] w false Si k:=by
 refine Ir.ok ?_
 unfold Ir.wp
 have T:=aI g h0 h1
 have d:=g.d
 refine Ad λp w2 e2 k2 u2=>?_
 rw[Be]
 have k3:=k2.drew
 have g3:=u2.trans (Af.drew w2)
 generalize w2.drew=w3 at*
 refine k3.c0 (c:=KI) (x:=dr) rfl (k3.cA (cs:=K4i) (dr,ji,tm,rn,()) rfl (I7.cl g h0 h1 λw7 u7=>⟨⟨k3.hold u7 (λx=>x) 0 (by simp),trivial⟩,?_⟩))
 have k7:=k3.Ai u7
 refine k7.c0 (c:=KI) (x:=dr) rfl (k7.cA (cs:=K4i) (dr,ji,tm,rn,()) rfl (Es.cl g λw11 u11=>Jl rfl ?_))
 dsimp only
 rw[Ah (n:=1000-dr) (by unfold I64;omega),Pg (by omega),Ah (n:=2*dr) (by unfold I64;omega),Ah (n:=2*dr*Y3 dr rn n) (by unfold I64;omega),Ah (n:=2*dr*Y3 dr rn n+(1000-dr)) (by unfold I64;omega),Ah (n:=2*dr*Y3 dr rn n+(1000-dr)-1) (by unfold I64;omega),Int.tdiv_eq_ediv_of_nonneg (by omega),Ah (by unfold I64;unfold tN at T;omega)]
 exact h w11 ((g3.trans u7).trans u11)
theorem Nh.cl{dr ji tm rn:Int}(g:BTG dr ji tm rn){w:World}{k:TR Si→WP}(h: ∀w',Af w w'→k ((xC dr ji tm rn,()),()) w'):Ae prog F.Nh [btV dr ji tm rn] w false Si k:=by
 refine Nh.ok ?_
 unfold Nh.wp
 have t:=g.t
 have j:=g.j
 have T:=aI g (n:=tm+1) (by omega) (by omega)
 refine Ad λp w2 e2 k2 u2=>k2.cA (cs:=K4i) (dr,ji,tm,rn,()) rfl (Es.cl g λw5 u5=>Jl rfl ?_)
 rw[Be]
 have k6:=(k2.Ai u5).drew
 have g6:=(u2.trans u5).trans (Af.drew w5)
 generalize w5.drew=w6 at*
 refine k6.c1 1 (c:=KI) (x:=ji) rfl (k6.cA (cs:=K4i) (dr,ji,tm,rn,()) rfl (k6.c1 2 (c:=KI) (x:=tm) rfl ?_))
 dsimp only
 rw[Ah (n:=tm+1) (by unfold I64;omega)]
 refine Ir.cl g (by omega) (by omega) λw11 u11=>⟨⟨k6.hold u11 (λx=>x) 2 (by simp),k6.hold u11 (λx=>x) 1 (by simp),trivial⟩,?_⟩
 rw[Ah (n:=2*ji) (by unfold I64;omega),Ah (n:=2*ji+tN dr rn (tm+1)) (by unfold I64;omega),Ah (by unfold I64;omega)]
 exact h w11 (g6.trans u11)
theorem Kz.cl{dr ji tm rn:Int}(g:BTG dr ji tm rn){w:World}{k:TR Si→WP}(h: ∀w',Af w w'→k ((lX dr ji tm rn,()),()) w'):Ae prog F.Kz [btV dr ji tm rn] w false Si k:=by
 refine Kz.ok ?_
 unfold Kz.wp
 have t:=g.t
 have j:=g.j
 have T:=aI g (n:=8*(tm+1)) (by omega) (by omega)
 refine Ad λp w2 e2 k2 u2=>k2.cA (cs:=K4i) (dr,ji,tm,rn,()) rfl (Es.cl g λw5 u5=>Jl rfl ?_)
 rw[Be]
 have k6:=(k2.Ai u5).drew
 have g6:=(u2.trans u5).trans (Af.drew w5)
 generalize w5.drew=w6 at*
 refine k6.c1 1 (c:=KI) (x:=ji) rfl (k6.cA (cs:=K4i) (dr,ji,tm,rn,()) rfl (k6.c1 2 (c:=KI) (x:=tm) rfl ?_))
 dsimp only
 rw[Ah (n:=tm+1) (by unfold I64;omega),Ah (n:=8*(tm+1)) (by unfold I64;omega)]
 refine Ir.cl g (by omega) (by omega) λw11 u11=>⟨⟨k6.hold u11 (λx=>x) 2 (by simp),k6.hold u11 (λx=>x) 1 (by simp),trivial⟩,?_⟩
 rw[Ah (n:=2*ji) (by unfold I64;omega),Ah (n:=2*tN dr rn (8*(tm+1))) (by unfold I64;omega),Ah (n:=2*ji+2*tN dr rn (8*(tm+1))) (by unfold I64;omega),Ah (by unfold I64;omega)]
 exact h w11 (g6.trans u11)
theorem Aaq{dr ji tm rn n:Int}(g:BTG dr ji tm rn):0≤tZ dr ji tm rn n∧tZ dr ji tm rn n≤3000000000000:=by
 have t:=g.t
 have j:=g.j
 have T1:=aI g (n:=tm+1) (by omega) (by omega)
 have T2:=aI g (n:=8*(tm+1)) (by omega) (by omega)
 unfold tZ
 split
 ·omega
 ·rename_i c
  have c:0≤n∧n≤63:=by omega
  have a0:0≤xC dr ji tm rn+lX dr ji tm rn:=by unfold xC lX;omega
  have a1:xC dr ji tm rn+lX dr ji tm rn≤32000000000:=by unfold xC lX;omega
  refine⟨Int.mul_nonneg c.1 a0,Int.le_trans (Int.mul_le_mul c.2 a1 a0 (by omega)) (by omega)⟩
theorem I9.cl{dr ji tm rn n:Int}(g:BTG dr ji tm rn){w:World}{k:TR Si→WP}(h: ∀w',Af w w'→k ((tZ dr ji tm rn n,()),()) w'):Ae prog F.I9 [btV dr ji tm rn,iV n] w false Si k:=by
 refine I9.ok ?_
 unfold I9.wp
 have t:=g.t
 have j:=g.j
 have T1:=aI g (n:=tm+1) (by omega) (by omega)
 have T2:=aI g (n:=8*(tm+1)) (by omega) (by omega)
 have E:=Aaq g (n:=n)
 have z:(n<0∨n>63)→tZ dr ji tm rn n=0:=λc=>by unfold tZ;rw[if_pos c]
 refine Ad λp w2 e2 k2 u2=>Dx (λc=>by have:=h w2 u2;rw[z (.inl c)] at this;exact this) λc=>Dx (λc=>by have:=h w2 u2;rw[z (.inr c)] at this;exact this) λc2=>?_
 have e:tZ dr ji tm rn n=n*(xC dr ji tm rn+lX dr ji tm rn):=by unfold tZ;rw[if_neg (by omega)]
 rw[Be]
 have k3:=k2.drew
 have g3:=u2.trans (Af.drew w2)
 generalize w2.drew=w3 at*
 have H: ∀{w':World},Af w3 w'→ ∀j,j<4→w'.cell? (Addr.add ⟨p,0,none⟩ j)=some ((w3.cell? (Addr.add ⟨p,0,none⟩ j)).getD undef):=λu j hj=>k3.hold u (λx=>x) j hj
 refine k3.cA (cs:=K4i) (dr,ji,tm,rn,()) rfl (k3.cA (cs:=K4i) (dr,ji,tm,rn,()) rfl (Nh.cl g λw7 u7=>⟨⟨H u7 0 (by decide),H u7 1 (by decide),H u7 2 (by decide),H u7 3 (by decide),H u7 0 (by decide),H u7 1 (by decide),H u7 2 (by decide),H u7 3 (by decide),trivial⟩,?_⟩))
 refine Kz.cl g λw9 u9=>⟨⟨H (u7.trans u9) 0 (by decide),H (u7.trans u9) 1 (by decide),H (u7.trans u9) 2 (by decide),H (u7.trans u9) 3 (by decide),trivial⟩,?_⟩
 have:=h w9 (g3.trans (u7.trans u9))
 rw[e] at this E
 rw[Ah (n:=xC dr ji tm rn+lX dr ji tm rn) (by unfold I64 xC lX;omega),Ah (by unfold I64;omega)]
 exact this
theorem Xw.cl{r0 r1 r2 r3 p0 p1 p2 ji:Int}{w:World}{k:TR [(true,K4i)]→WP}(h: ∀w',Af w w'→k ((r3,ji,r0,p0,()),()) w'):Ae prog F.Xw [.agg #[iV r0,iV r1,iV r2,iV r3],.agg #[iV p0,iV p1,iV p2],iV ji] w false [(true,K4i)] k:=by
 refine Xw.ok ?_
 unfold Xw.wp
 refine Ad λp3 w4 e4 k4 u4=>Ad λp5 w6 e6 k6 u6=>Ad λp7 w8 e8 k8 u8=>?_
 have k48:=(k4.Ai u6).Ai u8
 have k68:=k6.Ai u8
 refine k48.c1 3 (c:=KI) (x:=r3) rfl (k48.c0 (c:=KI) (x:=r0) rfl (k68.c0 (c:=KI) (x:=p0) rfl (k8.Fg [iV r3,iV ji,iV r0,iV p0] rfl rfl λw12 k12 u12=>k12.cA (cs:=K4i) (r3,ji,r0,p0,()) rfl (h w12 ?_))))
 exact Af.fresh (u4.trans u6) u8 u12 e8
theorem Gu.cl{a b c:Int}(hg:sK a b c=true){w:World}{k:TR Si→WP}(h: ∀w',Af w w'→k ((a*1000,()),()) w'):Ae prog F.Gu [.agg #[iV a,iV b,iV c]] w false Si k:=by
 refine Gu.ok ?_
 unfold Gu.wp
 have hp:=iK.1 hg
 refine Ad λp w4 e k4 u4=>k4.c0 (c:=KI) (x:=a) rfl ?_
 rw[Ah (by unfold I64;omega)]
 exact h w4 u4
def awP(a b t g:Int):Bool:=decide (t%(a*1000)<b*1000+min (a*1000) g)||decide (t%(a*1000)≥a*1000-min (a*1000) g)
theorem Nb.cl{a b c t gd:Int}(hg:sK a b c=true)(ht:I64 t)(h0:0≤gd){w:World}{k:TR Wh→WP}(h: ∀w',Af w w'→k ((awP a b t gd,()),()) w'):Ae prog F.Nb [.agg #[iV a,iV b,iV c],iV t,iV gd] w false Wh k:=by
 refine Nb.ok ?_
 unfold Nb.wp
 have hp:=iK.1 hg
 refine Ad λp w4 e k4 u4=>k4.cA (cs:=K3i) (a,b,c,()) rfl (Ie.cl λw7 u7=>?_)
 rw[hg]
 have k7:=k4.Ai u7
 refine Jl rfl (Dx (λn=>by omega) λ_=>k7.cA (cs:=K3i) (a,b,c,()) rfl (Gu.cl hg λw10 u10=>Oi.cl ht (show I64 (a*1000) by unfold I64;omega) λw12 u12=>?_))
 have k12:=(k7.Ai u10).Ai u12
 refine k12.cA (cs:=K3i) (a,b,c,()) rfl (Gu.cl hg λw15 u15=>?_)
 have k15:=k12.Ai u15
 have e1:jW t (a*1000)=t%(a*1000):=by unfold jW;rw[if_neg (by omega)]
 have e2:(if a*1000<gd then a*1000 else gd)=min (a*1000) gd:=by rw[Int.min_def];split<;>split<;>omega
 refine k15.c1 1 (c:=KI) (x:=b) rfl ?_
 dsimp only
 rw[e1,e2,Ah (n:=b*1000) (by unfold I64;omega),Ah (n:=b*1000+min (a*1000) gd) (by unfold I64;omega)]
 have g15:=(((u4.trans u7).trans u10).trans u12).trans u15
 refine Dx (λq=>?_) λq=>?_
 ·have:=h w15 g15
  unfold awP at this
  rw[decide_eq_true q] at this
  exact this
 ·refine k15.cA (cs:=K3i) (a,b,c,()) rfl (Gu.cl hg λw19 u19=>?_)
  have:=h w19 (g15.trans u19)
  unfold awP at this
  rw[decide_eq_false q] at this
  dsimp only
  rw[Ah (by unfold I64;omega)]
  exact this
def Nd.S9(d:Nd):Bool:=if d.on=false then false else if(oH d.f d.e d.es d.now).2.2≠0 then true
 else awP d.s.rnd d.s.opn (oH d.f d.e d.es d.now).1 (tZ d.s.Aw d.s.jit d.s.tmo d.s.rnd (oH d.f d.e d.es d.now).2.1)
theorem Apf(f:Fl)(e:El)(es:List E3)(t:Int):0≤(oH f e es t).1∧(oH f e es t).1≤1125899906842624:=by
 unfold oH
 split
 ·decide
 split
 ·decide
 rename_i _ h
 split
 ·have:=Xk.1 (show inT t=true by cases hb:inT t;exact absurd hb h;rfl)
  exact this
 split
 ·rename_i h
  have:=Aj6.1 h
  unfold gV
  rw[if_pos h]
  omega
 ·decide
theorem Aai{s:nS}(h:Yj s=true):BTG s.Aw s.jit s.tmo s.rnd:=by
 obtain⟨m0,m1,gf,gp,l1,l2,j1,j2⟩:=Uj.1 h
 have g:=Ya.1 gf
 have e:=lF.1 g.1
 have p:=iK.1 gp
 exact⟨by omega,by omega,by omega,by omega⟩
theorem Iy.n{w:World}{O:NP}{N:NB}{bf be:Nat}{d:Nd}(h:NW w O N bf be d)(g:Yj d.s=true){k:TR Wh→WP}
  (hk: ∀w',Af w w'→k ((d.S9,()),()) w'):Ae prog F.Iy [pB (N 0)] w false Wh k:=by
 refine Iy.ok ?_
 unfold Iy.wp
 refine Cm.cl h ?_
 by_cases hon:d.on=true
 case neg=>
  rw[if_neg hon]
  have:=hk w (Af.refl _)
  unfold Nd.S9 at this
  rw[if_pos (by simpa using hon)] at this
  exact Vt rfl this
 rw[if_pos hon]
 obtain⟨m0,m1,gf,gp,l1,l2,j1,j2⟩:=Uj.1 g
 refine Jl rfl ?_
 rw[Be,Ac]
 have H:=h.drew
 have G:=Af.drew w
 generalize w.drew=w3 at*
 have HN: ∀{w':World},Af w3 w'→ ∀j,j<28→w'.cell? (Addr.add ⟨N 0,0,none⟩ j)=some ((w3.cell? (Addr.add ⟨N 0,0,none⟩ j)).getD undef):=λu j hj=>H.nb.hold u (λx=>x) j (by rw[Q8];exact hj)
 refine H.n0 15 (c:=.p) (x:=some ⟨bf,0,none⟩) rfl ?_
 rw[Ac]
 refine H.n0 14 (c:=.p) (x:=some ⟨N 1,0,none⟩) rfl (Ez.cl H.cb ⟨⟨HN (Af.refl _) 14 (by decide),HN (Af.refl _) 15 (by decide),trivial⟩,?_⟩)
 refine Hw.cw H.fw λw11 u11=>⟨⟨HN u11 14 (by decide),trivial⟩,?_⟩
 refine bK (λc=>?_) λc=>?_
 ·have c:(oH d.f d.e d.es d.now).2.2≠0:=c
  have:=hk w11 (G.trans u11)
  unfold Nd.S9 at this
  rw[if_neg (by rw[hon];decide),if_pos c] at this
  exact this
 have c:(oH d.f d.e d.es d.now).2.2=0:=c
 have e:d.S9=awP d.s.rnd d.s.opn (oH d.f d.e d.es d.now).1 (tZ d.s.Aw d.s.jit d.s.tmo d.s.rnd (oH d.f d.e d.es d.now).2.1):=by unfold Nd.S9;rw[if_neg (by rw[hon];decide),if_neg (by omega)]
 rw[Be,Ac]
 have H11:=(H.Ai u11).drew
 have G11:=(G.trans u11).trans (Af.drew w11)
 generalize w11.drew=w12 at*
 refine H11.nb.cN 5 (cs:=K3i) (d.s.rnd,d.s.opn,d.s.own,()) rfl ?_
 rw[Ac]
 refine H11.nb.cN 1 (cs:=K4i) (d.s.tmo,d.s.ign,d.s.need,d.s.Aw,()) rfl ?_
 rw[Ac]
 refine H11.nb.cN 5 (cs:=K3i) (d.s.rnd,d.s.opn,d.s.own,()) rfl ?_
 rw[Ac]
 refine H11.n0 9 (c:=KI) (x:=d.s.jit) rfl ?_
 have HM: ∀{w':World},Af w12 w'→ ∀j,j<28→w'.cell? (Addr.add ⟨N 0,0,none⟩ j)=some ((w12.cell? (Addr.add ⟨N 0,0,none⟩ j)).getD undef):=λu j hj=>H11.nb.hold u (λx=>x) j (by rw[Q8];exact hj)
 have HM2: ∀{w':World},Af w12 w'→ ∀o j,o+j<28→w'.cell? (Addr.add (Addr.add ⟨N 0,0,none⟩ o) j)=some ((w12.cell? (Addr.add (Addr.add ⟨N 0,0,none⟩ o) j)).getD undef):=λu o j hj=>H11.nb.X3 u (λx=>x) o j (by rw[Q8];exact hj)
 refine Xw.cl λw22 u22=>⟨⟨HM u22 9 (by decide),HM2 u22 5 0 (by decide),HM2 u22 5 1 (by decide),HM2 u22 5 2 (by decide),HM2 u22 1 0 (by decide),HM2 u22 1 1 (by decide),HM2 u22 1 2 (by decide),HM2 u22 1 3 (by decide),HM2 u22 5 0 (by decide),HM2 u22 5 1 (by decide),HM2 u22 5 2 (by decide),trivial⟩,?_⟩
 refine I9.cl (Aai g) λw24 u24=>?_
 have u:=u22.trans u24
 refine⟨⟨HM u 9 (by decide),HM2 u 5 0 (by decide),HM2 u 5 1 (by decide),HM2 u 5 2 (by decide),HM2 u 1 0 (by decide),HM2 u 1 1 (by decide),HM2 u 1 2 (by decide),HM2 u 1 3 (by decide),HM2 u 5 0 (by decide),HM2 u 5 1 (by decide),HM2 u 5 2 (by decide),trivial⟩,?_⟩
 have I:=Apf d.f d.e d.es d.now
 refine Nb.cl gp (show I64 (oH d.f d.e d.es d.now).1 by unfold I64;omega) (Aaq (Aai g)).1 λw26 u26=>?_
 have u:=u.trans u26
 refine⟨⟨HM u 9 (by decide),HM2 u 5 0 (by decide),HM2 u 5 1 (by decide),HM2 u 5 2 (by decide),HM2 u 1 0 (by decide),HM2 u 1 1 (by decide),HM2 u 1 2 (by decide),HM2 u 1 3 (by decide),trivial⟩,?_⟩
 have:=hk w26 (G11.trans u)
 rw[e] at this
 exact this
theorem Aaf(n:Int):Xe (wrap .u16 n):=by
 rw[IntKind.wrap_u16];unfold Xe;omega
theorem Am6(f:Fl)(e:El):(nD f e).me=f.me:=by unfold nD;split<;>rfl
theorem Ahg(e:El):(eG e).me=e.me:=by unfold eG;split;rfl;split<;>rfl
theorem An4(e:El):(isE e).me=e.me:=by unfold isE;split<;>rfl
theorem An5(e:El)(t:Int):(yL e t).me=e.me:=by unfold yL;split;exact(An4 _).trans (Ahg e);exact Ahg e
theorem z02:(0:Int)≤0∧(0:Int)≤2:=by decide
theorem u0:Xe 0:=by unfold Xe;decide
theorem Ala(m:Int):PrG (prN m):=⟨z02,z02,(by decide:(0:Int)≤0∧(0:Int)≤7),λh=>by cases h⟩
theorem Aan{p:Pr}(h:PrG p):PrG (Vz p)∧(Vz p).me=p.me:=by
 obtain⟨a,b,c,d⟩:=h
 unfold Vz
 split
 ·rename_i hw
  exact⟨⟨a,b,by dsimp only;omega,λh=>by rw[hw] at h;cases h⟩,rfl⟩
 split
 ·exact⟨⟨by dsimp only;omega,b,c,λh=>by dsimp only;omega⟩,rfl⟩
 rename_i hw _
 have:=d (by simpa using hw)
 split
 ·exact⟨⟨by dsimp only;omega,by dsimp only;omega,by dsimp only;split<;>omega,λh=>by cases h⟩,rfl⟩
 ·exact⟨⟨by dsimp only;omega,by dsimp only;omega,by dsimp only;omega,λh=>by cases h⟩,rfl⟩
theorem Akl{p:Pr}(h:PrG p)(to loc:Int):PrG (dD p to loc)∧(dD p to loc).me=p.me:=by
 unfold dD
 split
 ·exact⟨⟨z02,h.tries,h.rest,λ_=>(by decide:(0:Int)≤1)⟩,rfl⟩
 ·exact⟨h,rfl⟩
theorem Aik{p:Pr}(h:PrG p)(r:R8)(loc:Int):PrG (Xp p r loc)∧(Xp p r loc).me=p.me:=by
 unfold Xp
 split
 ·exact⟨⟨h.waited,z02,h.rest,λh=>by cases h⟩,rfl⟩
 ·exact⟨h,rfl⟩
theorem Afm(s:So):(Aj3 s).limit=s.limit:=by unfold Aj3;split;rfl;split<;>rfl
theorem Aeb(s:So)(e:E3)(r b:Int):(aG s e r b).limit=s.limit:=by unfold aG;split<;>rfl
theorem Xn.push{d:Nd}(h:Xn d)(j:Jb):Xn (d.push j).1:=by
 unfold Nd.push
 split
 ·exact h
 ·exact⟨h.s,h.now,h.pr,h.me,h.lim,h.bk,h.fme⟩
theorem Xn.pass{d:Nd}(h:Xn d):Xn d.pass.1:=by
 unfold Nd.pass
 split
 ·exact h
 ·exact h.push _
theorem Xn.Ri{d:Nd}(h:Xn d)(st:Int):Xn (d.Ri st):=by
 have p:=Aan h.pr
 exact⟨h.s,h.now,p.1,p.2.trans h.me,(Afm d.so).trans h.lim,h.bk,(Am6 _ _).trans h.fme.1,(An5 _ _).trans h.fme.2⟩
theorem Xn.word{d:Nd}(h:Xn d)(st:Int):Xn (d.word st).1:=by
 unfold Nd.word
 split
 ·exact h
 ·have p:=Akl h.pr d.par st
  exact⟨h.s,h.now,p.1,p.2.trans h.me,h.lim,h.bk,h.fme⟩
theorem Xn.Yi{d:Nd}(h:Xn d)(st:Int)(p:List Jb×List Fr):Xn (d.Yi st p).1:=by
 have h2:Xn {d with jobs:=p.1}:=⟨h.s,h.now,h.pr,h.me,h.lim,h.bk,h.fme⟩
 unfold Nd.Yi
 dsimp only
 split
 ·exact h2.word st
 ·exact h2
theorem Xn.send{d:Nd}(h:Xn d)(step j:Int):Xn (d.send step j).1:=by
 unfold Nd.send
 split
 ·exact h
 split
 ·exact h
 ·exact(h.Ri _).Yi _ _
theorem Xn.aH{d:Nd}(h:Xn d)(s:S6)(t:Int):Xn (d.aH s t):=by
 unfold Nd.aH
 dsimp only
 split
 ·exact h
 ·exact⟨h.s,h.now,h.pr,h.me,h.lim,h.bk,h.fme⟩
theorem Xn.take{d:Nd}(h:Xn d){f:Fr}(hu:f.u)(t:Int):Xn (d.take f t).1:=by
 cases f with
 |sync s=>exact h.aH s t
 |find x=>
  unfold Nd.take;dsimp only
  split
  ·exact h
  ·exact⟨h.s,h.now,h.pr,h.me,h.lim,h.bk,h.fme⟩
 |want m=>
  unfold Nd.take;dsimp only
  split
  ·exact h.push _
  ·exact h
 |pulse x=>
  unfold Nd.take;dsimp only
  split
  ·exact h.push _
  ·exact h
 |reply r=>
  unfold Nd.take;dsimp only
  split
  ·have p:=Aik h.pr r t
   exact⟨h.s,h.now,p.1,p.2.trans h.me,(Aeb _ _ _ _).trans h.lim,h.bk,h.fme⟩
  ·exact h
 |anchor a=>
  unfold Nd.take;dsimp only
  split
  ·exact Xn.pass (d:={d with bh:=true,ba:=a}) ⟨h.s,h.now,h.pr,h.me,h.lim,hu,h.fme⟩
  ·exact h
theorem Xn.hear{d:Nd}(h:Xn d)(j:Int){b:List Nat}(hb:eH b):Xn (d.hear j b).1:=by
 unfold Nd.hear
 split
 ·exact h
 cases hd:Xg b with
 |error e=>exact h
 |ok f=>
  show Xn (d.heard f (d.Yf j).1).1
  unfold Nd.heard
  split
  ·exact h
  ·exact h.take (oU hb hd).2 _
theorem Xn.tag{d:Nd}(h:Xn d)(s:ByteArray):Xn (d.tag s).1:=by
 unfold Nd.tag
 split
 ·exact h
 split
 ·exact h
 split
 ·exact h
 ·exact⟨h.s,h.now,h.pr,h.me,h.lim,h.bk,h.fme⟩
theorem Xn.Ua{d:Nd}(h:Xn d):Xn d.Ua.1:=by
 unfold Nd.Ua
 split
 ·exact h
 ·exact⟨h.s,h.now,h.pr,h.me,h.lim,h.bk,h.fme⟩
theorem Xn.off{d:Nd}(h:Xn d):Xn d.off.1:=by
 unfold Nd.off
 split
 ·exact h
 ·exact⟨h.s,h.now,h.pr,h.me,h.lim,h.bk,h.fme⟩
theorem Xn.turn{d:Nd}(h:Xn d){raw:Int}(h0:0≤raw)(h1:raw<4294967296):Xn (d.turn raw):=
 ⟨h.s,⟨h0,by show raw≤_;omega⟩,Ala _,h.me,h.lim,⟨u0,u0⟩,h.fme⟩
theorem Xn.nd0{s:nS}(h:Yj s=true)(lp:Option Addr):Xn (nd0 s lp):=⟨h,(by decide:(0:Int)≤0∧(0:Int)≤1125899906842624),Ala _,rfl,rfl,⟨u0,u0⟩,rfl,rfl⟩
structure Y8(d:Nd):Prop where
 f:d.f.me=d.s.me∧d.f.tmo=d.s.tmo∧d.f.ign=d.s.ign∧d.f.need=d.s.need∧d.f.Aw=d.s.Aw
 e:d.e.me=d.s.me∧d.e.tmo=d.s.tmo∧d.e.ign=d.s.ign
theorem Aok(f:Fl)(e:El):(nD f e).me=f.me∧(nD f e).tmo=f.tmo∧(nD f e).ign=f.ign∧(nD f e).need=f.need∧(nD f e).Aw=f.Aw:=by unfold nD;split<;>exact⟨rfl,rfl,rfl,rfl,rfl⟩
theorem Alk(e:El):(eG e).me=e.me∧(eG e).tmo=e.tmo∧(eG e).ign=e.ign:=by unfold eG;split;exact⟨rfl,rfl,rfl⟩;split<;>exact⟨rfl,rfl,rfl⟩
theorem Ap1(e:El):(isE e).me=e.me∧(isE e).tmo=e.tmo∧(isE e).ign=e.ign:=by unfold isE;split<;>exact⟨rfl,rfl,rfl⟩
theorem Aoo(e:El)(t:Int):(yL e t).me=e.me∧(yL e t).tmo=e.tmo∧(yL e t).ign=e.ign:=by
 unfold yL
 split
 ·have a:=Ap1 (eG e);have b:=Alk e
  exact⟨a.1.trans b.1,a.2.1.trans b.2.1,a.2.2.trans b.2.2⟩
 ·exact Alk e
theorem Y8.push{d:Nd}(h:Y8 d)(j:Jb):Y8 (d.push j).1:=by unfold Nd.push;split;exact h;exact⟨h.f,h.e⟩
theorem Y8.pass{d:Nd}(h:Y8 d):Y8 d.pass.1:=by unfold Nd.pass;split;exact h;exact h.push _
theorem Y8.Ri{d:Nd}(h:Y8 d)(st:Int):Y8 (d.Ri st):=by
 have a:=Aok d.f d.e;have b:=Aoo d.e st
 exact⟨⟨a.1.trans h.f.1,a.2.1.trans h.f.2.1,a.2.2.1.trans h.f.2.2.1,a.2.2.2.1.trans h.f.2.2.2.1,a.2.2.2.2.trans h.f.2.2.2.2⟩,b.1.trans h.e.1,b.2.1.trans h.e.2.1,b.2.2.trans h.e.2.2⟩
theorem Y8.word{d:Nd}(h:Y8 d)(st:Int):Y8 (d.word st).1:=by unfold Nd.word;split;exact h;exact⟨h.f,h.e⟩
theorem Y8.Yi{d:Nd}(h:Y8 d)(st:Int)(p:List Jb×List Fr):Y8 (d.Yi st p).1:=by
 have h2:Y8 {d with jobs:=p.1}:=⟨h.f,h.e⟩
 unfold Nd.Yi
 dsimp only
 split
 ·exact h2.word st
 ·exact h2
theorem Y8.send{d:Nd}(h:Y8 d)(step j:Int):Y8 (d.send step j).1:=by
 unfold Nd.send
 split
 ·exact h
 split
 ·exact h
 ·exact(h.Ri _).Yi _ _
theorem Y8.take{d:Nd}(h:Y8 d)(f:Fr)(t:Int):Y8 (d.take f t).1:=by
 cases f with
 |sync s=>
  show Y8 (d.aH s t)
  unfold Nd.aH
  dsimp only
  split
  ·exact h
  ·exact⟨h.f,h.e⟩
 |find x=>unfold Nd.take;dsimp only;split;exact h;exact⟨h.f,h.e⟩
 |want m=>unfold Nd.take;dsimp only;split;exact h.push _;exact h
 |pulse x=>unfold Nd.take;dsimp only;split;exact h.push _;exact h
 |reply r=>unfold Nd.take;dsimp only;split;exact⟨h.f,h.e⟩;exact h
 |anchor a=>unfold Nd.take;dsimp only;split;exact Y8.pass (d:={d with bh:=true,ba:=a}) ⟨h.f,h.e⟩;exact h
theorem Y8.hear{d:Nd}(h:Y8 d)(j:Int)(b:List Nat):Y8 (d.hear j b).1:=by
 unfold Nd.hear
 split
 ·exact h
 cases Xg b with
 |error e=>exact h
 |ok f=>show Y8 (d.heard f (d.Yf j).1).1;unfold Nd.heard;split;exact h;exact h.take f _
theorem Y8.tag{d:Nd}(h:Y8 d)(s:ByteArray):Y8 (d.tag s).1:=by
 unfold Nd.tag
 split
 ·exact h
 split
 ·exact h
 split
 ·exact h
 ·exact⟨h.f,h.e⟩
theorem Y8.Ua{d:Nd}(h:Y8 d):Y8 d.Ua.1:=by unfold Nd.Ua;split;exact h;exact⟨h.f,h.e⟩
theorem Y8.fix{d:Nd}(h:Y8 d)(tai:Int):Y8 (d.fix tai).1:=by
 unfold Nd.fix
 split
 ·exact h
 split
 ·exact h
 split
 ·exact h
 split
 ·exact h
 ·exact Y8.pass (d:={d with bh:=true,ba:=d.Tc d.time.1 tai}) ⟨h.f,h.e⟩
theorem Y8.off{d:Nd}(h:Y8 d):Y8 d.off.1:=by unfold Nd.off;split;exact h;exact⟨h.f,h.e⟩
theorem Y8.go{d:Nd}(h:Y8 d)(t:Int):Y8 (d.go t).1:=by unfold Nd.go;split;exact h;exact⟨h.f,h.e⟩
theorem Y8.turn{d:Nd}(h:Y8 d)(raw:Int):Y8 (d.turn raw):=⟨h.f,h.e⟩
theorem Xn.fix{d:Nd}(h:Xn d)(tai:Int)(hT:Xe d.time.1.2.2.2.1):Xn (d.fix tai).1:=by
 unfold Nd.fix
 split
 ·exact h
 split
 ·exact h
 split
 ·exact h
 split
 ·exact h
 ·exact Xn.pass (d:={d with bh:=true,ba:=d.Tc d.time.1 tai}) ⟨h.s,h.now,h.pr,h.me,h.lim,⟨Aaf _,hT⟩,h.fme⟩
def Yu(d:Nd):Prop:=Xe d.so.boot
theorem Yu.bt{s:So}(h:Xe s.boot):Xe (Aj3 s).boot:=by unfold Aj3;split;exact h;split;exact u0;exact h
theorem Yu.put{s:So}(h:Xe s.boot){b:Int}(hb:Xe b)(e:E3)(r:Int):Xe (aG s e r b).boot:=by unfold aG;split;exact hb;exact h
theorem Yu.push{d:Nd}(h:Yu d)(j:Jb):Yu (d.push j).1:=by unfold Nd.push;split;exact h;exact h
theorem Yu.pass{d:Nd}(h:Yu d):Yu d.pass.1:=by unfold Nd.pass;split;exact h;exact h.push _
theorem Yu.word{d:Nd}(h:Yu d)(st:Int):Yu (d.word st).1:=by unfold Nd.word;split;exact h;exact h
theorem Yu.Yi{d:Nd}(h:Yu d)(st:Int)(p:List Jb×List Fr):Yu (d.Yi st p).1:=by
 have h2:Yu {d with jobs:=p.1}:=h
 unfold Nd.Yi
 dsimp only
 split
 ·exact h2.word st
 ·exact h2
theorem Yu.send{d:Nd}(h:Yu d)(step j:Int):Yu (d.send step j).1:=by
 unfold Nd.send
 split
 ·exact h
 split
 ·exact h
 ·exact Yu.Yi (show Yu (d.Ri _) from Yu.bt h) _ _
theorem Yu.take{d:Nd}(h:Yu d){f:Fr}(hu:f.u)(t:Int):Yu (d.take f t).1:=by
 cases f with
 |sync s=>
  show Yu (d.aH s t)
  unfold Nd.aH
  dsimp only
  split
  ·exact h
  ·exact h
 |find x=>unfold Nd.take;dsimp only;split;exact h;exact h
 |want m=>unfold Nd.take;dsimp only;split;exact h.push _;exact h
 |pulse x=>unfold Nd.take;dsimp only;split;exact h.push _;exact h
 |reply r=>unfold Nd.take;dsimp only;split;exact Yu.put h hu _ _;exact h
 |anchor a=>unfold Nd.take;dsimp only;split;exact Yu.pass (d:={d with bh:=true,ba:=a}) h;exact h
theorem Yu.hear{d:Nd}(h:Yu d)(j:Int){b:List Nat}(hb:eH b):Yu (d.hear j b).1:=by
 unfold Nd.hear
 split
 ·exact h
 cases hd:Xg b with
 |error e=>exact h
 |ok f=>show Yu (d.heard f (d.Yf j).1).1;unfold Nd.heard;split;exact h;exact h.take (oU hb hd).2 _
theorem Yu.tag{d:Nd}(h:Yu d)(s:ByteArray):Yu (d.tag s).1:=by
 unfold Nd.tag
 split
 ·exact h
 split
 ·exact h
 split
 ·exact h
 ·exact h
theorem Yu.Ua{d:Nd}(h:Yu d):Yu d.Ua.1:=by unfold Nd.Ua;split;exact h;exact h
theorem Yu.fix{d:Nd}(h:Yu d)(tai:Int):Yu (d.fix tai).1:=by
 unfold Nd.fix
 split
 ·exact h
 split
 ·exact h
 split
 ·exact h
 split
 ·exact h
 ·exact Yu.pass (d:={d with bh:=true,ba:=d.Tc d.time.1 tai}) h
theorem Yu.off{d:Nd}(h:Yu d):Yu d.off.1:=by unfold Nd.off;split;exact h;exact h
theorem Yu.go{d:Nd}(h:Yu d)(t:Int):Yu (d.go t).1:=by unfold Nd.go;split;exact h;exact h
theorem Yu.turn(d:Nd)(raw:Int):Yu (d.turn raw):=u0
theorem Yu.nd0(s:nS)(lp:Option Addr):Yu (nd0 s lp):=u0
end Go.Proofs.YticgocmhmffneaaGreatDoor
