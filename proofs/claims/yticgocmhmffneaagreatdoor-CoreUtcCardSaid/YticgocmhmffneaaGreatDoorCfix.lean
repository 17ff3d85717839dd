import Derived.Test.YticgocmhmffneaaGreatDoorEngB
import Derived.Test.YticgocmhmffneaaGreatDoorSh
namespace Go.Proofs.YticgocmhmffneaaGreatDoor
open Go.Eng Tryz
open Go.IntKind (wrap)
set_option linter.unusedSimpArgs false
set_option linter.unusedVariables false
set_option maxRecDepth 100000
set_option maxHeartbeats 8000000
def Agx(a b:Int):Int:=if I64 (a+b) then a+b else 0
def Aip(a b:Int):Bool:=decide (I64 (a+b))
theorem Y7.cl{a b:Int}(ha:I64 a)(hb:I64 b){w:World}{k:TR [(false,[KI]),(false,[.b])]→WP}(h:k ((Agx a b,()),(Aip a b,()),()) w):
  Ae prog F.Y7 [iV a,iV b] w true [(false,[KI]),(false,[.b])] k:=by
 refine Y7.ok ?_
 unfold Y7.wp
 by_cases hs:I64 (a+b)
 ·simp only[Agx,Aip,hs,if_true,decide_true] at h
  rw[Ah hs]
  have e:(!((decide (a+b>a))==(decide (b>0))))=false:=by
   by_cases h1:b>0<;>by_cases h2:a+b>a<;>simp[h1,h2]<;>omega
  rw[e];exact h
 ·simp only[Agx,Aip,hs,if_false,decide_false] at h
  have e:(!((decide (wrap .i64 (a+b)>a))==(decide (b>0))))=true:=by
   rw[kJ];unfold I64 at*
   by_cases h1:b>0<;>by_cases h2:(a+b+9223372036854775808)%18446744073709551616-9223372036854775808>a<;>simp[h1,h2]<;>omega
  have e2:(b !=0)=true:=by unfold I64 at*;simp;omega
  rw[e,e2];exact h
def sat(a b:Int):Int:=if a+b>9223372036854775807 then 9223372036854775807 else if a+b< -9223372036854775808 then-9223372036854775808 else a+b
theorem Yb.cl{a b:Int}(ha:I64 a)(hb:I64 b){w:World}{k:TR [(false,[KI])]→WP}(h:k ((sat a b,()),()) w):
  Ae prog F.Yb [iV a,iV b] w false [(false,[KI])] k:=by
 refine Yb.ok ?_
 unfold Yb.wp
 refine Y7.cl ha hb ?_
 by_cases hs:I64 (a+b)
 ·have e:sat a b=a+b:=by unfold sat;unfold I64 at hs;rw[if_neg (by omega),if_neg (by omega)]
  simp only[Aip,Agx,hs,decide_true,fU,if_true]
  rw[e] at h;exact h
 ·simp only[Aip,Agx,hs,decide_false,Y2]
  rw[Ih]
  unfold I64 at*
  split
  ·rename_i h1;simp only[decide_eq_true_eq] at h1
   have e:sat a b=9223372036854775807:=by unfold sat;rw[if_pos (by omega)]
   rw[e] at h;exact h
  ·rename_i h1;simp only[decide_eq_true_eq] at h1
   have e:sat a b=Int.negSucc 9223372036854775807:=by rw[negS];unfold sat;rw[if_neg (by omega),if_pos (by omega)];rfl
   rw[e] at h;exact h
theorem V8.cl{n:Int}(hn:I64 n){w:World}{k:TR [(false,[.i .u64])]→WP}(h:k (((n.natAbs:Int),()),()) w):
  Ae prog F.V8 [iV n] w false [(false,[.i .u64])] k:=by
 refine V8.ok ?_
 unfold V8.wp
 rw[Ih]
 unfold I64 at hn
 split
 ·rename_i h1;simp only[decide_eq_true_eq] at h1
  have e:wrap .u64 (0-wrap .u64 n)=(n.natAbs:Int):=by simp only[wu64];omega
  rw[e];exact h
 ·rename_i h1;simp only[decide_eq_true_eq] at h1
  have e:wrap .u64 n=(n.natAbs:Int):=by simp only[wu64];omega
  rw[e];exact h
def dQ(a b:Int):Int:=if b<1 then 0 else a/b
def jW(a b:Int):Int:=if b<1 then 0 else a%b
theorem Oi.cl{a b:Int}(ha:I64 a)(hb:I64 b){w:World}{k:TR [(false,[KI]),(false,[KI]),(false,[.b])]→WP}
  (h: ∀w',Af w w'→k ((dQ a b,()),(jW a b,()),(!decide (b<1),()),()) w'):
  Ae prog F.Oi [iV a,iV b] w true [(false,[KI]),(false,[KI]),(false,[.b])] k:=by
 refine Oi.ok ?_
 unfold Oi.wp
 by_cases h1:b<1
 ·have:=h w (Af.refl w)
  simp only[dQ,jW,h1,if_true,decide_true,Bool.not_true] at this
  simp only[h1,decide_true,fU];exact this
 ·have h:=h w.drew (Af.drew w)
  simp only[dQ,jW,h1,if_false,decide_false,Bool.not_false] at h
  simp only[h1,decide_false,Y2,Be]
  rw[Pg (by omega),Pg (by omega),Ih]
  have hb0:0<b:=by omega
  have e1:=Int.mul_tdiv_add_tmod a b
  have e2:Int.tmod a b<b:=by have:=Int.tmod_lt_of_pos a hb0;exact this
  have e3: -b<Int.tmod a b:=by have:=Int.lt_tmod_of_pos a hb0;exact this
  have e4:I64 (a/b):=by
   have g1:=Int.emod_nonneg a (b:=b) (by omega)
   have g2:=Int.emod_lt_of_pos a hb0
   have g3:=Int.mul_ediv_add_emod a b
   unfold I64 at*
   refine⟨Int.le_ediv_of_mul_le hb0 ?_,Int.le_of_lt_add_one (Int.ediv_lt_of_lt_mul hb0 ?_)⟩<;>omega
  by_cases hr:Int.tmod a b<0
  ·obtain⟨q1,q2⟩:=(Int.ediv_emod_unique hb0 (a:=a) (q:=Int.tdiv a b-1) (r:=Int.tmod a b+b)).2 ⟨by rw[Int.mul_sub];omega,by omega,by omega⟩
   rw[if_pos (by simpa using hr)]
   have w1:wrap .i64 (wrap .i64 (Int.tdiv a b)-1)=a/b:=by
    rw[q1];simp only[kJ];unfold I64 at e4;rw[q1] at e4;omega
   have w2:wrap .i64 (Int.tmod a b+b)=a%b:=by
    rw[q2];refine Ah ?_;unfold I64 at*;omega
   rw[w1,w2];exact h
  ·obtain⟨q1,q2⟩:=(Int.ediv_emod_unique hb0 (a:=a) (q:=Int.tdiv a b) (r:=Int.tmod a b)).2 ⟨by omega,by omega,by omega⟩
   rw[if_neg (by simpa using hr)]
   have w1:wrap .i64 (Int.tdiv a b)=a/b:=by rw[←q1];exact Ah e4
   rw[w1,←q2];exact h
def clamp(x lo hi:Int):Int:=max (min x hi) lo
theorem Qs.cl{x lo hi:Int}{w:World}{k:TR [(false,[KI])]→WP}(h:k ((clamp x lo hi,()),()) w):
  Ae prog F.Qs [iV x,iV lo,iV hi] w false [(false,[KI])] k:=by
 refine Qs.ok ?_
 unfold Qs.wp
 have e:(if lo>(if hi<x then hi else x) then lo else(if hi<x then hi else x))=clamp x lo hi:=by
  unfold clamp;split<;>split<;>simp only[Int.max_def,Int.min_def]<;>repeat' split<;>omega
 rw[e];exact h
end Go.Proofs.YticgocmhmffneaaGreatDoor
