import Derived.Test.YticgocmhmffneaaGreatDoorNtO
import Derived.Test.YticgocmhmffneaaGreatDoorEngW
namespace Go.Proofs.YticgocmhmffneaaGreatDoor
open Go Go.Eng Tryz
set_option linter.unusedSimpArgs false
set_option linter.unusedVariables false
set_option maxRecDepth 100000
set_option maxHeartbeats 8000000
noncomputable def chB:Option (Code×Nat×Array Oper):=match Tryz.f30.body with|some (.seq r (.seq (.region i o true) .ret))=>some (r,i,o)|_=>none
noncomputable def chR:Code:=match chB with|some (r,_,_)=>r|none=>.skip
noncomputable def chI:Nat:=match chB with|some (_,i,_)=>i|none=>0
noncomputable def chO:Array Oper:=match chB with|some (_,_,o)=>o|none=>#[]
theorem Ark:Tryz.f30.body=some (.seq chR (.seq (.region chI chO true) .ret)):=by kernel_rfl
theorem Aor:pW chO.toList=true:=by kernel_rfl
theorem Ae3:chO.size=18:=by kernel_rfl
abbrev Aws:List Value:=[.slice none 0 0,.slice none 0 0,.slice none 0 0,.slice none 0 0]
def chA(arg:Value)(p q:Addr):Act:={tmps:=(arg:: .pointer (some p):: .pointer (some q)::List.replicate 17 undef).toArray,defers:=[]}
theorem Aww(s0 s1 s2 s3:Sl)(w:World)(K:Act→WP)(Q:Exit→Act→WP):
    pw prog chR .n K Q {tmps:=([Value.agg #[bP s0,bP s1,bP s2,bP s3]]++List.replicate (Tryz.f30.ntmps-1) undef).toArray,defers:=[]} w=
      Bf [bP s0,bP s1,bP s2,bP s3] T.U0 w fun p w2=>Bf Aws T.V4 w2 fun q w4=>K (chA (.agg #[bP s0,bP s1,bP s2,bP s3]) p q) w4:=by kernel_rfl
def Tc(f:Nat→Value):Act:={tmps:=#[f 0,f 1,f 2,f 3,f 4,f 5,f 6,f 7,f 8,f 9,f 10,f 11,f 12,f 13,f 14,f 15,f 16,f 17,f 18,f 19],defers:=[]}
def Gi(f:Nat→Value)(i:Nat)(v:Value):Nat→Value:=fun j=>if j=i then v else f j
theorem Al1{f:Nat→Value}{i:Nat}{v:Value}(h:f i=v):f=Gi f i v:=by
  funext j;unfold Gi;split
  · rename_i e;rw[e,h]
  · rfl
theorem sJ(f:Nat→Value)(i:Nat)(v:Value):Gi f i v i=v:=if_pos rfl
theorem rV{f:Nat→Value}{i j:Nat}{v:Value}(h:j≠i):Gi f i v j=f j:=if_neg h
noncomputable def stA (i:Nat) (a:Act) (w:World) (K:Act→WP):Prop:=match chO[i]? with|some o=>Yf prog o a w K|none=>False
theorem Aye(f:Nat→Value)(w:World)(K:Act→WP):stA 0 (Tc f) w K=Bf [] T.int w fun p w'=>K (Tc (Gi f 3 (.slice (some p) 0 0))) w':=by kernel_rfl
theorem Axl(f:Nat→Value)(w:World)(K:Act→WP):stA 4 (Tc f) w K=Bf [] T.int w fun p w'=>K (Tc (Gi f 7 (.slice (some p) 0 0))) w':=by kernel_rfl
theorem Axf(f:Nat→Value)(w:World)(K:Act→WP):stA 8 (Tc f) w K=Bf [] T.int w fun p w'=>K (Tc (Gi f 11 (.slice (some p) 0 0))) w':=by kernel_rfl
theorem Axm(f:Nat→Value)(w:World)(K:Act→WP):stA 12 (Tc f) w K=Bf [] T.uint64 w fun p w'=>K (Tc (Gi f 15 (.slice (some p) 0 0))) w':=by kernel_rfl
abbrev fA(f:Nat→Value)(p:Addr):Nat→Value:=Gi f 1 (.pointer (some p))
theorem Axp(f:Nat→Value)(p:Addr)(w:World)(K:Act→WP):stA 1 (Tc (fA f p)) w K=K (Tc (Gi (fA f p) 4 (.pointer (some (p.add 0))))) w:=by kernel_rfl
theorem Axi(f:Nat→Value)(p:Addr)(w:World)(K:Act→WP):stA 5 (Tc (fA f p)) w K=K (Tc (Gi (fA f p) 8 (.pointer (some (p.add 1))))) w:=by kernel_rfl
theorem Ayl(f:Nat→Value)(p:Addr)(w:World)(K:Act→WP):stA 9 (Tc (fA f p)) w K=K (Tc (Gi (fA f p) 12 (.pointer (some (p.add 2))))) w:=by kernel_rfl
theorem Axr(f:Nat→Value)(p:Addr)(w:World)(K:Act→WP):stA 13 (Tc (fA f p)) w K=K (Tc (Gi (fA f p) 16 (.pointer (some (p.add 3))))) w:=by kernel_rfl
theorem Axt(f:Nat→Value)(p:Addr)(w:World)(K:Act→WP):stA 2 (Tc (Gi f 4 (.pointer (some p)))) w K=ld1 .sl p w fun x=>K (Tc (Gi (Gi f 4 (.pointer (some p))) 5 (bP x))) w:=by kernel_rfl
theorem Ax1(f:Nat→Value)(p:Addr)(w:World)(K:Act→WP):stA 6 (Tc (Gi f 8 (.pointer (some p)))) w K=ld1 .sl p w fun x=>K (Tc (Gi (Gi f 8 (.pointer (some p))) 9 (bP x))) w:=by kernel_rfl
theorem Ayj(f:Nat→Value)(p:Addr)(w:World)(K:Act→WP):stA 10 (Tc (Gi f 12 (.pointer (some p)))) w K=ld1 .sl p w fun x=>K (Tc (Gi (Gi f 12 (.pointer (some p))) 13 (bP x))) w:=by kernel_rfl
theorem Ayf(f:Nat→Value)(p:Addr)(w:World)(K:Act→WP):stA 14 (Tc (Gi f 16 (.pointer (some p)))) w K=ld1 .sl p w fun x=>K (Tc (Gi (Gi f 16 (.pointer (some p))) 17 (bP x))) w:=by kernel_rfl
abbrev apE(t:TypeId)(s x:Sl)(w:World)(k:Sl→WP):Prop:=L9 ((Builtin.append_ #[t,t] t #[bP s,bP x]).run prog w) k
theorem Ayh(f:Nat→Value)(s x:Sl)(w:World)(K:Act→WP):stA 3 (Tc (Gi (Gi f 3 (bP s)) 5 (bP x))) w K=apE T.V5 s x w fun y w'=>K (Tc (Gi (Gi (Gi f 3 (bP s)) 5 (bP x)) 6 (bP y))) w':=by kernel_rfl
theorem Ayn(f:Nat→Value)(s x:Sl)(w:World)(K:Act→WP):stA 7 (Tc (Gi (Gi f 7 (bP s)) 9 (bP x))) w K=apE T.V5 s x w fun y w'=>K (Tc (Gi (Gi (Gi f 7 (bP s)) 9 (bP x)) 10 (bP y))) w':=by kernel_rfl
theorem Ax8(f:Nat→Value)(s x:Sl)(w:World)(K:Act→WP):stA 11 (Tc (Gi (Gi f 11 (bP s)) 13 (bP x))) w K=apE T.V5 s x w fun y w'=>K (Tc (Gi (Gi (Gi f 11 (bP s)) 13 (bP x)) 14 (bP y))) w':=by kernel_rfl
theorem Ax4(f:Nat→Value)(s x:Sl)(w:World)(K:Act→WP):stA 15 (Tc (Gi (Gi f 15 (bP s)) 17 (bP x))) w K=apE T.Ux s x w fun y w'=>K (Tc (Gi (Gi (Gi f 15 (bP s)) 17 (bP x)) 18 (bP y))) w':=by kernel_rfl
theorem Awv(f:Nat→Value)(y0 y1 y2 y3:Sl)(w:World)(K:Act→WP):stA 16 (Tc (Gi (Gi (Gi (Gi f 6 (bP y0)) 10 (bP y1)) 14 (bP y2)) 18 (bP y3))) w K=K (Tc (Gi (Gi (Gi (Gi (Gi f 6 (bP y0)) 10 (bP y1)) 14 (bP y2)) 18 (bP y3)) 19 (.agg #[bP y0,bP y1,bP y2,bP y3]))) w:=by kernel_rfl
theorem Awp(f:Nat→Value)(q:Addr)(y0 y1 y2 y3:Sl)(w:World)(K:Act→WP):stA 17 (Tc (Gi (Gi f 2 (.pointer (some q))) 19 (.agg #[bP y0,bP y1,bP y2,bP y3]))) w K=Au [bP y0,bP y1,bP y2,bP y3] q 0 w fun w'=>K (Tc (Gi (Gi f 2 (.pointer (some q))) 19 (.agg #[bP y0,bP y1,bP y2,bP y3]))) w':=by kernel_rfl
def Ahx(o:Oper):List Nat:=o.after.toList.filterMap fun e=>if Region.binds .any e=true then some e.on else none
theorem Ao9:chO.toList.map Ahx=[[],[],[1],[0,2],[],[],[5],[4,6,3],[],[],[9],[8,10,7],[],[],[13],[12,14,11],[3,7,11,15],[16,15,0,1,2,3,4,5,6,7,8,9,10,11,12,13,14,15,16]]:=by kernel_rfl
theorem guards:(chO.toList.all fun o=>o.guard.isNone)=true:=by kernel_rfl
end Go.Proofs.YticgocmhmffneaaGreatDoor
