import Derived.Test.YticgocmhmffneaaGreatDoorEngF
import Derived.Test.YticgocmhmffneaaGreatDoorEngB
namespace Go.Eng
open Go
set_option linter.unusedSimpArgs false
set_option linter.unusedVariables false
set_option maxRecDepth 100000
set_option maxHeartbeats 8000000
def cntF(l:Array Bool):Nat:=l.toList.countP (!·)
theorem Ahu{l:Array Bool}{i:Nat}(h:l.getD i true=false):cntF (l.setIfInBounds i true)+1=cntF l:=by
 have hi:i<l.size:=by
  rcases Nat.lt_or_ge i l.size with q|q
  ·exact q
  ·simp[Array.getD,Nat.not_lt.2 q] at h
 have hv:l[i]=false:=by simpa [Array.getD,hi] using h
 unfold cntF
 rw[Array.toList_setIfInBounds,List.countP_set (by simpa using hi)]
 have h1:l.toList[i]'(by simpa using hi)=false:=by simpa using hv
 have hp:0<l.toList.countP (!·):=List.countP_pos_iff.2 ⟨false,by rw[←h1];exact List.getElem_mem _,rfl⟩
 rw[h1]
 show(l.toList.countP (!·)-1+0)+1=_
 omega
theorem wX{P:Program}{md:Region.Mode}{ops:Array Oper}{Q:Exit→Act→WP}(I:Array Bool→Act→WP)
  (hd: ∀l a w,I l a w→Region.ready md ops l=[]→Q .normal a w)
  (hs: ∀l a w i,I l a w→i∈Region.ready md ops l→wpOp P ops Q i (λa' w'=>I (l.setIfInBounds i true) a' w') a w):
  ∀(fuel:Nat) (l:Array Bool) (a:Act) (w:World),cntF l≤fuel→I l a w→wpAny P md ops Q fuel l a w
 |0,l,a,w,hc,h=>by
  have hr:Region.ready md ops l=[]:=by
   cases e:Region.ready md ops l with
   |nil=>rfl
   |cons i is=>
    have hi:i∈Region.ready md ops l:=by rw[e];exact List.mem_cons_self
    have:=Ahu (mem_ready.1 hi).1
    omega
  exact⟨hr,hd l a w h hr⟩
 |fuel+1,l,a,w,hc,h=>by
  refine⟨hd l a w h,λi hi=>?_⟩
  have:=Ahu (mem_ready.1 hi).1
  exact wpOp_mono (λa' w' h'=>wX I hd hs fuel _ a' w' (by omega) h') (hs l a w i h hi)
theorem Alm{P:Program}(hm:P.follows .mixedOrders=true){f:FuncId}{fn:Func}(hf:P.funcs[f]? =some fn){r0:Code}{id:Nat}{ops:Array Oper}(hc:fn.body=some (.seq r0 (.seq (.region id ops true) .ret)))(hn:pW ops.toList=true)(h0:Hn){args:List Value}{w:World}{R:Value→WP}
  (hw:pw P r0 h0 (λa w=>wpAny P .any ops (qn (Ana P fn R)) ops.size (Array.replicate ops.size false) a w.drew) (λ_ _ _=>False) {tmps:=(args++List.replicate (fn.ntmps-args.length) undef).toArray,defers:=[]} w):
  Calls P f args.toArray w λe w'=> ∃v,e=.returned v∧R v w':=by
 refine Acg.1 (callsIn_of_wp_marks (F:=FW none) (n:=3) hf hc trivial ?_ rfl)
 have e:args.toArray++Array.replicate (fn.ntmps-args.toArray.size) undef=(args++List.replicate (fn.ntmps-args.length) undef).toArray:=by
  apply Array.ext';simp
 rw[e]
 have key: ∀a' w',Ana P fn R a' w'→LeavesInM (FW none) 3 P fn a'.tmps (λe w'=> ∃v,e=.returned v∧R v w') a'.defers .returning w':=λa' w' h=>
  Adb (λw h=>by obtain⟨v,hr,hR⟩:=Aa2 h;exact⟨v,hr,v,rfl,hR⟩) _ _ h
 refine wpIn_seq (wpIn_mono (iC hm none r0 h0 _ _ _ w (.inl rfl) hw) ?_)
 intro e a' w' h
 cases e with
 |normal=>
  refine wpIn_seq ?_
  refine wpIn_mono (Q:=qn (Ana P fn R)) (wpIn_region_draw λt=>?_) ?_
  ·refine fO hn _ _ _ ?_
   simp only[Region.schedule,hm,Bool.true_or,if_true]
   exact wpAny_sound ops.size t _ a' _ h
  ·intro e2 a2 w2 h2
   cases e2 with
   |normal=>exact wpIn_ret (key a2 w2 h2)
   |_=>exact h2.elim
 |_=>exact h.elim
end Go.Eng
