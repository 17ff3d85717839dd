import Derived.Test.YtppeepkmnijdpaaGreatDoorEngB
import Derived.Test.YtppeepkmnijdpaaGreatDoorSh
import Derived.Test.YtppeepkmnijdpaaGreatDoorEngX
namespace Go.Proofs.YtppeepkmnijdpaaGreatDoor
open Go.Eng Tryz
open Go.IntKind (wrap)
set_option linter.unusedSimpArgs false
set_option linter.unusedVariables false
set_option maxRecDepth 100000
set_option maxHeartbeats 8000000
def Akw(a b:Int):Int:=if I64 (a+b) then a+b else 0
def Am1(a b:Int):Bool:=decide (I64 (a+b))
theorem cO.cl{a b:Int}(ha:I64 a)(hb:I64 b){w:World}{k:TR [(false,[KI]),(false,[.b])]→WP}(h:k ((Akw a b,()),(Am1 a b,()),()) w):
  Ad prog F.cO [iV a,iV b] w true [(false,[KI]),(false,[.b])] k:=by
 refine cO.ok ?_
 by_cases hs:I64 (a+b)
 ·simp only[Akw,Am1,hs,if_true,decide_true] at h
  rw[Af hs]
  have e:(!((decide (a+b>a))==(decide (b>0))))=false:=by
   by_cases h1:b>0<;>by_cases h2:a+b>a<;>simp[h1,h2]<;>omega
  rw[e];exact h
 ·simp only[Akw,Am1,hs,if_false,decide_false] at h
  have e:(!((decide (wrap .i64 (a+b)>a))==(decide (b>0))))=true:=by
   rw[wR];unfold I64 at*
   by_cases h1:b>0<;>by_cases h2:(a+b+9223372036854775808)%18446744073709551616-9223372036854775808>a<;>simp[h1,h2]<;>omega
  have e2:(b !=0)=true:=by unfold I64 at*;simp;omega
  rw[e,e2];exact h
def sat(a b:Int):Int:=if a+b>9223372036854775807 then 9223372036854775807 else if a+b< -9223372036854775808 then-9223372036854775808 else a+b
theorem Xw.cl{a b:Int}(ha:I64 a)(hb:I64 b){w:World}{k:TR [(false,[KI])]→WP}(h:k ((sat a b,()),()) w):
  Ad prog F.Xw [iV a,iV b] w false [(false,[KI])] k:=by
 refine Xw.ok ?_
 refine cO.cl ha hb ?_
 by_cases hs:I64 (a+b)
 ·have e:sat a b=a+b:=by unfold sat;unfold I64 at hs;rw[if_neg (by omega),if_neg (by omega)]
  simp only[Am1,Akw,hs,decide_true,Acp,if_true]
  rw[e] at h;exact h
 ·simp only[Am1,Akw,hs,decide_false,gZ]
  rw[O9]
  unfold I64 at*
  split
  ·rename_i h1;simp only[decide_eq_true_eq] at h1
   have e:sat a b=9223372036854775807:=by unfold sat;rw[if_pos (by omega)]
   rw[e] at h;exact h
  ·rename_i h1;simp only[decide_eq_true_eq] at h1
   have e:sat a b=Int.negSucc 9223372036854775807:=by rw[negS];unfold sat;rw[if_neg (by omega),if_pos (by omega)];rfl
   rw[e] at h;exact h
theorem U9.cl{n:Int}(hn:I64 n){w:World}{k:TR [(false,[.i .u64])]→WP}(h:k (((n.natAbs:Int),()),()) w):
  Ad prog F.U9 [iV n] w false [(false,[.i .u64])] k:=by
 refine U9.ok ?_
 rw[O9]
 unfold I64 at hn
 split
 ·rename_i h1;simp only[decide_eq_true_eq] at h1
  have e:wrap .u64 (0-wrap .u64 n)=(n.natAbs:Int):=by simp only[wu64];omega
  rw[e];exact h
 ·rename_i h1;simp only[decide_eq_true_eq] at h1
  have e:wrap .u64 n=(n.natAbs:Int):=by simp only[wu64];omega
  rw[e];exact h
def fD(a b:Int):Int:=if b<1 then 0 else a/b
def nJ(a b:Int):Int:=if b<1 then 0 else a%b
theorem Jm.cl{a b:Int}(ha:I64 a)(hb:I64 b){w:World}{k:TR [(false,[KI]),(false,[KI]),(false,[.b])]→WP}
  (h: ∀w',Ah w w'→k ((fD a b,()),(nJ a b,()),(!decide (b<1),()),()) w'):
  Ad prog F.Jm [iV a,iV b] w true [(false,[KI]),(false,[KI]),(false,[.b])] k:=by
 refine Jm.ok ?_
 by_cases h1:b<1
 ·have:=h w (Ah.refl w)
  simp only[fD,nJ,h1,if_true,decide_true,Bool.not_true] at this
  simp only[h1,decide_true,Acp];exact this
 ·have h:=h w.drew (Ah.drew w)
  simp only[fD,nJ,h1,if_false,decide_false,Bool.not_false] at h
  simp only[h1,decide_false,gZ,Aq]
  rw[Gm (by omega),Gm (by omega),O9]
  have hb0:0<b:=by omega
  have e1:=Int.mul_tdiv_add_tmod a b
  have e2:Int.tmod a b<b:=by have:=Int.tmod_lt_of_pos a hb0;exact this
  have e3: -b<Int.tmod a b:=by have:=Int.lt_tmod_of_pos a hb0;exact this
  have e4:I64 (a/b):=by
   have g1:=Int.emod_nonneg a (b:=b) (by omega)
   have g2:=Int.emod_lt_of_pos a hb0
   have g3:=Int.mul_ediv_add_emod a b
   unfold I64 at*
   refine⟨Int.le_ediv_of_mul_le hb0 ?_,Int.le_of_lt_add_one (Int.ediv_lt_of_lt_mul hb0 ?_)⟩<;>omega
  by_cases hr:Int.tmod a b<0
  ·obtain⟨q1,q2⟩:=(Int.ediv_emod_unique hb0 (a:=a) (q:=Int.tdiv a b-1) (r:=Int.tmod a b+b)).2 ⟨by rw[Int.mul_sub];omega,by omega,by omega⟩
   rw[if_pos (by simpa using hr)]
   have w1:wrap .i64 (wrap .i64 (Int.tdiv a b)-1)=a/b:=by
    rw[q1];simp only[wR];unfold I64 at e4;rw[q1] at e4;omega
   have w2:wrap .i64 (Int.tmod a b+b)=a%b:=by
    rw[q2];refine Af ?_;unfold I64 at*;omega
   rw[w1,w2];exact h
  ·obtain⟨q1,q2⟩:=(Int.ediv_emod_unique hb0 (a:=a) (q:=Int.tdiv a b) (r:=Int.tmod a b)).2 ⟨by omega,by omega,by omega⟩
   rw[if_neg (by simpa using hr)]
   have w1:wrap .i64 (Int.tdiv a b)=a/b:=by rw[←q1];exact Af e4
   rw[w1,←q2];exact h
def clamp(x lo hi:Int):Int:=max (min x hi) lo
theorem Nw.cl{x lo hi:Int}{w:World}{k:TR [(false,[KI])]→WP}(h:k ((clamp x lo hi,()),()) w):
  Ad prog F.Nw [iV x,iV lo,iV hi] w false [(false,[KI])] k:=by
 refine Nw.ok ?_
 have e:(if lo>(if hi<x then hi else x) then lo else(if hi<x then hi else x))=clamp x lo hi:=by
  unfold clamp;split<;>split<;>simp only[Int.max_def,Int.min_def]<;>repeat' split<;>omega
 rw[e];exact h
end Go.Proofs.YtppeepkmnijdpaaGreatDoor
namespace Go.Proofs.YtppeepkmnijdpaaGreatDoor
open Go.Eng Go Tryz
open Go.IntKind (wrap)
set_option linter.unusedSimpArgs false
set_option linter.unusedVariables false
set_option maxRecDepth 100000
set_option maxHeartbeats 8000000
abbrev A6:=Int×Int×Int×Int×Int×Int
abbrev K6:List CK:=[KI,KU,KI,KU,KI,KI]
def a6(a:A6):List Value:=[iV a.1,uV a.2.1,iV a.2.2.1,uV a.2.2.2.1,iV a.2.2.2.2.1,iV a.2.2.2.2.2]
def t6(a:A6):Ky K6:=(a.1,a.2.1,a.2.2.1,a.2.2.2.1,a.2.2.2.2.1,a.2.2.2.2.2,())
abbrev v6(a:A6):Value:=.agg #[iV a.1,uV a.2.1,iV a.2.2.1,uV a.2.2.2.1,iV a.2.2.2.2.1,iV a.2.2.2.2.2]
def nwr(a b:Int):Bool:=decide (wrap .i16 (wrap .u16 (a-b))>0)
theorem Oa.cl{a b:Int}{w:World}{k:TR [(false,[.b])]→WP}(h:k ((nwr a b,()),()) w):Ad prog F.Oa [uV a,uV b] w false [(false,[.b])] k:=by
 refine Oa.ok ?_
 exact h
theorem V6.cl{a:Int}{w:World}{k:TR [(false,[KU])]→WP}(h:k ((wrap .u16 (a+1),()),()) w):Ad prog F.V6 [uV a] w false [(false,[KU])] k:=by
 refine V6.ok ?_
 exact h
theorem Dn.cl{n:Int}{w:World}{k:TR [(true,[KI,KI,KI])]→WP}(h: ∀w',Ah w w'→k ((1,n,63,()),()) w'):Ad prog F.Dn [iV n] w false [(true,[KI,KI,KI])] k:=by
 refine Dn.ok ?_
 exact Ae λp w2 e k1 u1=>k1.E5 _ rfl rfl λw3 k3 u3=>k3.Xd (h w3 (Ah.fresh (Ah.refl _) u1 u3 e))
theorem Ff.cl{n:Int}{w:World}{k:TR [(true,[KI,KI,KI])]→WP}(h: ∀w',Ah w w'→k ((8,n,1125899906842624,()),()) w'):Ad prog F.Ff [iV n] w false [(true,[KI,KI,KI])] k:=by
 refine Ff.ok ?_
 exact Ae λp w2 e k1 u1=>k1.E5 _ rfl rfl λw3 k3 u3=>k3.Xd (h w3 (Ah.fresh (Ah.refl _) u1 u3 e))
def aI(e:E3):Bool:=decide (0≤e.2.1)&&decide (e.2.1≤e.2.2)
def okF(es:List E3):Bool:=es.all aI
theorem bF{w:World}{b n:Nat}{es:List E3}{cs:List Value}(h:Ar w b cs)(e:cs=flat3 es)(hn:n=es.length):Nu w (some ⟨b,0,none⟩,n,n) es:=by
 subst e
 exact⟨by rw[Qw,hn],λ_=>⟨_,rfl,h.news⟩⟩
theorem dD{e:E3}:aI e=true↔0≤e.2.1∧e.2.1≤e.2.2:=by unfold aI;simp
theorem zT{es:List E3}{i:Nat}{e:E3}(he:es[i]? =some e)(h:aI e=false):okF es=false:=by
 unfold okF
 rw[List.all_eq_false]
 exact⟨e,List.mem_of_getElem? he,by rw[h];simp⟩
theorem Abp{es:List E3}(h: ∀e∈es,aI e=true):okF es=true:=by unfold okF;rw[List.all_eq_true];exact h
def bk(has:Bool)(a:A6):List Value:=.bool has::a6 a
end Go.Proofs.YtppeepkmnijdpaaGreatDoor
namespace Go.Proofs.YtppeepkmnijdpaaGreatDoor
open Go.Eng Go
set_option linter.unusedSimpArgs false
set_option linter.unusedVariables false
set_option maxRecDepth 100000
set_option maxHeartbeats 8000000
abbrev K14:List CK:=[KI,KI,KI,KI,KU,KU,KI,KI,KI,KI,KI,KI,KI,KI]
abbrev P14:=Ky K14
end Go.Proofs.YtppeepkmnijdpaaGreatDoor
