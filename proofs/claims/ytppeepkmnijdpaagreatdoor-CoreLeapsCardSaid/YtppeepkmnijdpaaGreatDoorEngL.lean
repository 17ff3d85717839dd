import Derived.Test.YtppeepkmnijdpaaGreatDoorEngR
import Derived.LaidMore
import Derived.Stop.Joined
import Derived.Handed
import Derived.MakeChecks
import Derived.FnData
namespace Go.Eng
open Go Go.ChangeShapes Go.WideShapes Go.ChangeAt Go.RowKit Go.WideElems Go.Deep
set_option linter.unusedSimpArgs false
set_option linter.unusedVariables false
set_option maxRecDepth 100000
set_option maxHeartbeats 8000000
theorem Ack{C:Checked}{os:Os}(started:os.Started){H:Type}{enc:TypeId×Value→H}{f:FuncId}{fn:Func}{s:ChangeSpec}{conds:List PathCond}{tb:TypeId}{laid:List (String×DataW Unit)}
  (own:ownKnob C.prog.godebug=none) (noInit:C.prog.inits.idxOf? f=none) (hfn:C.prog.funcs[f]? =some fn)
  (witness: ∃(w:World) (tape:Tape) (i:Input),w.os=os∧(w.forCall tape i).Shaped C.prog∧i.vars=[]∧Input.okWide C.prog (w.forCall tape i) .any w.heap.size f i∧
   ((s.pre enc C.prog fn conds false (w.forCall tape i).memory i.args∧laidMetH C.prog laid (w.forCall tape i).memory)∧sizedMet enc C.prog fn (OpenSpec.ofChange s) false (w.forCall tape i).memory i.args)∧({}:Assume).holds C.prog (lone (Frame.enter C.prog f i.args .normal) [] (w.forCall tape i)))
  (hl:laidOutB C.prog=true) (hvars:s.vars=[]) (hread:fn.params.toList.all (λt=>C.prog.readableRec t&&decide (t<C.prog.types.size))=true)
  (hres:fn.resultTypes=#[tb]) (hbool:C.prog.underlying tb=some .bool)
  (hspec: ∀ds:List (DataW H),ds.length=fn.params.toList.length→(s.fn H ds).results=[.lit (.bool true)]∧(s.fn H ds).args=ds∧(s.fn H ds).vars=[])
  (law: ∀(W:World) (base:Nat) (args:Array Value) (ds:List (DataW H)) (ps:List MemPlace),
   (∀(j:Nat) t v,fn.params[j]? =some t→args[j]? =some v→Value.okWide C.prog W .any base t v)→
   DataW.TrodAll enc C.prog W 0 (λ_=>true) true fn.params.toList args.toList ds ps→(∀x∈ps,x.block<W.heap.size)→W.ShapedOpen C.prog→laidMetH C.prog laid W→
   Calls C.prog f args W λe W'=>e=.returned (.bool true)∧Below W.heap.size W W'):
  ReturnsInHanded {} C os f .any (λw args=>(s.pre enc C.prog fn conds false w args∧laidMetH C.prog laid w)∧sizedMet enc C.prog fn (OpenSpec.ofChange s) false w args) (s.post enc C.prog fn false true false false):=by
 refine returnsInHanded_of_calls own started noInit witness ?_
 intro w tape i _ hsh _ hok hpre hholds
 obtain⟨_,_,_,fn',hfn',_,_,_,_,hval⟩:=hok
 have e:fn'=fn:=Option.some.inj (hfn'.symm.trans hfn)
 subst e
 obtain⟨⟨⟨ds,gs,before,hw,hc⟩,hx⟩,hz⟩:=hpre
 have hW:=DataW.Whole.of_heap (w':=w.forCall tape i) (by rfl) hw
 have hx:laidMetH C.prog laid (w.forCall tape i):=laidMetH.of_heap (by rfl) hx
 generalize w.forCall tape i=W at*
 have hW':=hW
 obtain⟨p,q,hA,hV,rfl,_,_⟩:=hW
 rw[hvars] at hV
 obtain⟨rfl,rfl⟩:=trodVars_none hV
 have hlt: ∀x∈p,x.block<W.heap.size:=λx hx=>by simpa using hW'.lt x (List.mem_append_left _ hx)
 refine(law W _ i.args ds p hval hA hlt hsh hx).mono λe W' ⟨he,hg⟩=>?_
 subst he
 have hs:=hspec ds (trodAll_length hA)
 refine ChangeSpec.post_blind ⟨ds,[],p++[],[],p,[],hW',?_,?_,?_,hg.frame _,λh=>by cases h⟩
 ·rw[List.append_nil,hs.1,hres]
  exact trodAll_mk1 (shut_bool hbool _)
 ·rw[List.append_nil,hs.2.1]
  exact iW hl hg hread hA hlt
 ·rw[List.append_nil,hvars,hs.2.2];rfl
theorem Atq{P:Program}{W:World}{nm:String}{g:Nat}{t e:TypeId}{tab:List Nat}{d:DataW Unit}(hd:d=.agg (tab.map λ(n:Nat)=>.lit (.int .u8 n)))(hn:d.handleName?.isNone=true)(hg:P.globalNamed nm=some g)(ht:(P.globals[g]?).map (·.type)=some t)
  (hu:P.underlying t=some (.array tab.length e)) (he:P.underlying e=some (.int .u8)) (hc:P.cellsOf e=1) (h:laidMetH P [(nm,d)] W): ∀j,j<tab.length→W.cell? ⟨g,j,none⟩=some (.int .u8 (tab.getD j 0)):=by
 intro j hj
 rw[MakeChecks.laidMetH_plain _ _ _ (by simp[hn])] at h
 obtain⟨ps,⟨g0,t0,cs0,f0,p0,q0,hg0,ht0,hv0,hd0,_⟩,_,_⟩:=h
 obtain rfl:=Option.some.inj (hg.symm.trans hg0)
 obtain rfl:=Option.some.inj (ht.symm.trans ht0)
 obtain⟨xs,m,rfl,hx,hlen,hn3,hel⟩:=DataW.trod_array hu hd0
 have h0:=hel j hj
 have hjx:j<xs.length:=by omega
 rw[List.getElem?_eq_getElem hjx] at h0
 obtain⟨k,e1,e2,_⟩:=DataW.trod_int he h0
 simp only[Prod.mk.injEq,hd,DataW.agg.injEq] at hx
 have h3:(xs.map (·.1))[j]? =some (.lit (.int .u8 k)):=by rw[List.getElem?_map,List.getElem?_eq_getElem hjx,e2];rfl
 rw[←hx.1,List.getElem?_map,List.getElem?_eq_getElem hj] at h3
 have hk:((tab[j]:Nat):Int)=k:=by simpa using h3
 have h4:=World.var?_cell hg0 hv0 j
 rw[h4]
 rw[hc,Nat.mul_one] at e1
 have h5:cs0.toList[j]? =some (.int .u8 k):=by
  have:((cs0.toList.drop j).take 1)[0]? =some (.int .u8 k):=by rw[e1];rfl
  rw[List.getElem?_take_of_lt (by omega),List.getElem?_drop] at this
  exact this
 rw[←Array.getElem?_toList,h5,←hk,List.getD_eq_getElem?_getD,List.getElem?_eq_getElem hj];rfl
end Go.Eng
