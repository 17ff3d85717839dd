import Derived.Test.YtppeepkmnijdpaaGreatDoorRen
import Derived.Test.YtppeepkmnijdpaaGreatDoorLpA
import Derived.Shelf.Strings.SplitCore
import Derived.Shelf.Strings.Search3
import Derived.Shelf.Strings.Count
import Derived.Shelf.Strings.BuilderK
import Derived.Shelf.Strconv.Itoa3
import Derived.Shelf.Strconv.Atoi
import Derived.Lib.SplitLaws
import Derived.Lib.AtoiErrMem
namespace Go.Proofs.YtppeepkmnijdpaaGreatDoor
open Go.Eng Go Go.Shelf Tryz
set_option linter.unusedSimpArgs false
set_option linter.unusedVariables false
set_option maxRecDepth 100000
set_option maxHeartbeats 8000000
theorem Au6:Lays.n221 prog shr:=by constructor<;>first|kernel_rfl|(intro w;kernel_rfl)
theorem Awa:Lays.n143 prog shr:=by constructor<;>first|kernel_rfl|(intro w;kernel_rfl)
theorem Au3:Lays.n138 prog shr:=by constructor<;>first|kernel_rfl|(intro w;kernel_rfl)
theorem Aux:Lays.n171 prog shr:=by constructor<;>first|kernel_rfl|(intro w;kernel_rfl)
theorem Aui:Lays.n172 prog shr:=by constructor<;>first|kernel_rfl|(intro w;kernel_rfl)
theorem Aus:Lays.n169 prog shr:=by constructor<;>first|kernel_rfl|(intro w;kernel_rfl)
abbrev Xn(w:World)(s:Sl)(ls:List Bs):Prop:=Row w s 1 (ls.map λl=>Value.string (Fb l))
theorem Xn.len'{w:World}{s:Sl}{ls:List Bs}(h:Xn w s ls):s.2.1=ls.length:=by have:=h.len;rw[List.length_map] at this;omega
theorem Xn.get{w:World}{s:Sl}{ls:List Bs}(h:Xn w s ls){z:Int}{i:Nat}{l:Bs}(hz:z=i)(hi:ls[i]? =some l){k:ByteArray→Prop}(hk:k (Fb l)):Hf s.1 s.2.1 z λa=>ld1 .s (a.add (z.toNat*1)) w k:=by
 subst hz
 have hlt:=(List.getElem?_eq_some_iff.1 hi).1
 obtain⟨a,ha⟩:=Row.addr h (by rw[List.length_map];omega)
 have hl:=h.len'
 rw[ha,Ip (by omega),Int.toNat_natCast,Nat.mul_one]
 exact Tt (Row.ld h ha (by rw[List.getElem?_map,hi];rfl)) rfl hk
theorem rQ(a:UInt8): ∀s:Bs,Lib.splitK [a] 0 (Lib.count s [a]) s=Rt a s
 |[]=>by rw[Lib.count_miss (by rfl)];rfl
 |c::l=>by
  have ih:=rQ a l
  by_cases h:c=a
  ·subst h
   have hix:Lib.index (c::l) [c]=0:=by rw[Lib.index];simp[List.isPrefixOf]
   rw[Lib.count_cons_eq,Nat.add_comm,Lib.splitK,hix,if_neg (by decide),Rt,if_pos rfl]
   simp[ih]
  ·have hp:([a]:List UInt8).isPrefixOf (c::l)=false:=by simp[List.isPrefixOf,Ne.symm h]
   have hix:Lib.index (c::l) [a]=if Lib.index l [a]== -1 then-1 else Lib.index l [a]+1:=by rw[Lib.index,hp];simp
   have hge:=Lib.index_ge l [a]
   rw[Lib.count_cons_ne c a l h,Rt,if_neg h,←ih]
   by_cases hm:Lib.index l [a]= -1
   ·rw[Lib.count_miss hm,Lib.splitK,Lib.splitK]
   ·obtain⟨j,hj⟩: ∃j:Nat,Lib.index l [a]=j:=⟨(Lib.index l [a]).toNat,by omega⟩
    rw[if_neg (λe=>hm (beq_iff_eq.1 e)),hj] at hix
    rw[Lib.count_hit (by simp) hj,Nat.add_comm,Lib.splitK,Lib.splitK,hix,hj,if_neg (λe=>by have:=beq_iff_eq.1 e;omega),if_neg (λe=>by have:=beq_iff_eq.1 e;omega)]
    have e1:((j:Int)+1).toNat=j+1:=by omega
    simp only[e1,Int.toNat_natCast,List.length_singleton,Nat.add_zero]
    simp
theorem uG(a:UInt8)(l:Bs):(Lib.splitB ⟨#[a]⟩ 0 (Lib.countB (Fb l) ⟨#[a]⟩) (Fb l)).map Value.string=(Rt a l).map λx=>Value.string (Fb x):=by
 have h:=Lib.splitB_data ⟨#[a]⟩ 0 (Lib.countB (Fb l) ⟨#[a]⟩) (Fb l)
 have e:Lib.countB (Fb l) ⟨#[a]⟩=Lib.count l [a]:=by unfold Lib.countB;simp[Fb]
 rw[e] at h⊢
 have e2:(Fb l).data.toList=l:=by simp[Fb]
 have e3:(⟨#[a]⟩:ByteArray).data.toList=[a]:=rfl
 rw[e2,e3,rQ] at h
 rw[←h,List.map_map]
 refine List.map_congr_left λx _=>?_
 simp[Ae8]
theorem Aez(x:ByteArray)(a:UInt8):Lib.indexB x ⟨#[a]⟩=Lib.indexByte x.data.toList a:=by
 unfold Lib.indexB
 have e3:(⟨#[a]⟩:ByteArray).data.toList=[a]:=rfl
 rw[e3]
 generalize x.data.toList=s
 induction s with
 |nil=>rfl
 |cons c l ih=>
  rw[Lib.index,Lib.indexByte,ih]
  by_cases h:c=a
  ·subst h;simp[List.isPrefixOf]
  ·simp[List.isPrefixOf,h,Ne.symm h]
theorem strings_genSplit.cl{l:Bs}{a:UInt8}(hl:l.length<4000000000){w:World}{k:TR [(false,[.sl])]→WP}
  (h: ∀(s:Sl) w',Xn w' s (Rt a l)→s.1=some ⟨w.heap.size,0,none⟩→Ah w w'→k ((s,()),()) w'):
  Ad prog F.strings_genSplit [.string (Fb l),.string ⟨#[a]⟩,iV 0,iV (Int.negSucc 0)] w false [(false,[.sl])] k:=by
 have hsz:(Fb l).size=l.length:=Pq l
 have h1:1≤(⟨#[a]⟩:ByteArray).size:=Nat.le_refl 1
 have hle:=Lib.countB_le ⟨#[a]⟩ h1 (Fb l).size (Fb l) (Nat.le_refl _)
 have hlen:=Lib.splitB_all ⟨#[a]⟩ h1 0 _ (Fb l) rfl
 have c:=Any.strings_genSplit_core Au6 (by kernel_rfl) (Fb l) ⟨#[a]⟩ 0 (-1) (Lib.countB (Fb l) ⟨#[a]⟩+1) w (by omega) h1 (Nat.zero_le _)
  (λx cs _=>by
   have:=Any.strings_Index_one Awa x a (w.alloc (.cells cs (shr.t 9)))
   rw[Aez];exact this)
  (by
   have:=Any.strings_Count_one Au3 (Fb l) a w
   have e:Lib.countByte (Fb l).data.toList a=Lib.countB (Fb l) ⟨#[a]⟩:=by
    unfold Lib.countB Lib.countByte
    have e3:(⟨#[a]⟩:ByteArray).data.toList=[a]:=rfl
    rw[e3,Lib.count_one]
   rw[←e];exact this)
  (by decide) (by decide) (by rw[if_pos (by decide)];omega)
 rw[Nat.add_sub_cancel,hlen] at c
 have e2:Lib.cellsOf (Lib.splitB ⟨#[a]⟩ 0 (Lib.countB (Fb l) ⟨#[a]⟩) (Fb l)) (Lib.countB (Fb l) ⟨#[a]⟩+1)=((Lib.splitB ⟨#[a]⟩ 0 (Lib.countB (Fb l) ⟨#[a]⟩) (Fb l)).map Value.string).toArray:=by
  rw[←hlen];exact Lib.cellsOf_full _
 rw[e2,uG] at c
 have hn:(Rt a l).length=Lib.countB (Fb l) ⟨#[a]⟩+1:=by
  have:=congrArg List.length (uG a l)
  rw[List.length_map,List.length_map,hlen] at this;exact this.symm
 refine Calls.mono (P:=prog) (f:=F.strings_genSplit) c ?_
 rintro e w' ⟨rfl,rfl⟩
 refine⟨((((some ⟨w.heap.size,0,none⟩,Lib.countB (Fb l) ⟨#[a]⟩+1,Lib.countB (Fb l) ⟨#[a]⟩+1):Sl),()),()),rfl,?_⟩
 refine h _ _ ⟨by rw[List.length_map,hn,Nat.mul_one],λ_=>⟨_,rfl,λi v hi=>?_⟩⟩ rfl ((Ah.refl w).alloc _)
 rw[Lr,Nat.zero_add,(Ar.new w _ _).cell];exact hi
theorem strings_Split.cl{l:Bs}{a:UInt8}(hl:l.length<4000000000){w:World}{k:TR [(false,[.sl])]→WP}
  (h: ∀(s:Sl) w',Xn w' s (Rt a l)→s.1=some ⟨w.heap.size,0,none⟩→Ah w w'→k ((s,()),()) w'):
  Ad prog F.strings_Split [.string (Fb l),.string ⟨#[a]⟩] w false [(false,[.sl])] k:=by
 refine strings_Split.ok ?_
 exact strings_genSplit.cl hl h
theorem Ak4{n:Nat}(h:n<100):Lib.decDigits n=aJ n:=by
 have hd: ∀m,xM m=UInt8.ofNat (48+m%10):=λm=>rfl
 unfold aJ
 by_cases c:n<10
 ·rw[if_pos c,Lib.decDigits_one c,hd,Nat.mod_eq_of_lt c]
 ·rw[if_neg c,Lib.decDigits_two c h,hd,hd,Nat.mod_eq_of_lt (show n/10<10 by omega)]
theorem strconv_Itoa.cl{n:Nat}(hn:n<100){w:World}{k:TR [(false,[.s])]→WP}(h:k ((Fb (aJ n),()),()) w):Ad prog F.strconv_Itoa [iV (n:Int)] w false [(false,[.s])] k:=by
 refine Calls.mono (P:=prog) (f:=F.strconv_Itoa) (Any.strconv_Itoa_small Aux n hn w) ?_
 rintro e w' ⟨rfl,rfl⟩
 refine⟨((Fb (aJ n),()),()),?_,h⟩
 rw[Ak4 hn];rfl
theorem Adr{l:Bs}(h:O5 l):Lib.atoi l=some (Rq l:Int):=by
 obtain⟨h1,h2⟩:=h
 have hdv: ∀{a:UInt8},N8 a→Lib.digitVal a=some (a.toNat-48):=λ{a} ha=>by unfold N8 at ha;unfold Lib.digitVal;rw[if_pos ha]
 have h45: ∀{a:UInt8},N8 a→(a==45)=false∧(a==43)=false:=λ{a} ha=>by
  unfold N8 at ha
  constructor<;>(rw[beq_eq_false_iff_ne];rintro rfl;revert ha;decide)
 rcases h1 with h1|⟨h1,_⟩
 ·match l,h1 with
  |[a],_=>
   have ha:=h2 a (by simp)
   simp[Lib.atoi,h45 ha,Lib.decNat,Lib.decFrom,hdv ha,rV]
 ·match l,h1 with
  |[a,b],_=>
   have ha:=h2 a (by simp)
   have hb:=h2 b (by simp)
   simp[Lib.atoi,h45 ha,Lib.decNat,Lib.decFrom,hdv ha,hdv hb,uO]
   omega
theorem Ah.Aoh{w w':World}(h:Go.RowKit.Below w.heap.size w w'):Ah w w':=⟨h.os,h.tape,h.output,h.size,λk hk _=>h.block k hk⟩
theorem strconv_Atoi.cl{l:Bs}(hp:O5 l){w:World}{k:TR [(false,[KI]),(false,[.any])]→WP}(h: ∀w',Ah w w'→k ((Rq l,()),(.nilIface,()),()) w'):
  Ad prog F.strconv_Atoi [.string (Fb l)] w true [(false,[KI]),(false,[.any])] k:=by
 have hl:(Fb l).size≤18:=by rw[Pq];rcases hp.1 with h|h<;>omega
 have ha:Lib.atoi (Fb l).data.toList=some (Rq l:Int):=by
  have:(Fb l).data.toList=l:=by simp[Fb]
  rw[this];exact Adr hp
 refine Calls.mono (P:=prog) (f:=F.strconv_Atoi) (Any.strconv_Atoi Aui (Fb l) (Rq l) hl ha w) ?_
 rintro e w' ⟨rfl,t,rfl⟩
 exact⟨_,rfl,h _ (Ah.Aoh (Lib.bytesWorld_below w _ t))⟩
end Go.Proofs.YtppeepkmnijdpaaGreatDoor
