import Derived.Test.YtppeepkmnijdpaaGreatDoorEngF
import Derived.RecoverIn
namespace Go.Eng
open Go
set_option linter.unusedSimpArgs false
set_option linter.unusedVariables false
set_option maxRecDepth 100000
set_option maxHeartbeats 8000000
def clD(P:Program)(g:FuncId)(args:List Value)(u:FrameMode)(w:World)(k:FrameMode→WP):Prop:=
 CallsDIn (FW none) 2 P g args.toArray u w λe u' w'=>(∃v,e=.returned v)∧k u' w'
def tkD(P:Program):List Deferred→FrameMode→World→(FrameMode→WP)→Prop
 |[],u,w,k=>k u w
 |d::ds,u,w,k=>u≠ .run∧match d.target with
  | .collected D=>tkK D w λw'=>tkD P ds u w' k
  | .fn (.func g) cap=>callable P g=true∧clD P g (d.args++cap).toList u w λu' w'=>tkD P ds (settle u') w' k
  |_=>False
def enK(m:FrameMode)(r:Prop)(p:List PanicEntry→Prop):Prop:=match m with
 | .returning=>r
 | .panicking ch=>p ch
 | .run=>False
def dfK(P:Program)(g:FuncId)(args:List Value)(u:FrameMode)(w:World)(k:FrameMode→WP):Prop:=u≠ .run∧callable P g=true∧clD P g args u w k
def An4(P:Program)(fn:Func)(R Z:Value→WP)(a:Act)(m:FrameMode)(w:World):Prop:=enK m (Ape P fn R a w) λch=>paK ch Z w
def Am0(P:Program)(fn:Func)(h:Hn)(args:List Value)(w:World)(R:Value→WP)(Z:Value→WP):Prop:=
 match fn.body with
 |none=>False
 |some c=>pw P c h (λa w=>tkD P a.defers .returning w (An4 P fn R Z a)) (λe a w=>match e with| .ret=>tkD P a.defers .returning w (An4 P fn R Z a)| .panic ch=>tkD P a.defers (.panicking ch) w (An4 P fn R Z a)|_=>False)
   {tmps:=(args++List.replicate (fn.ntmps-args.length) undef).toArray,defers:=[]} w
theorem yI{P:Program}{fn:Func}{a:Act}{R:Ending→WP}{k:FrameMode→WP}(hk: ∀u w,k u w→LeavesInM (FW none) 3 P fn a.tmps R [] u w):
  ∀(ds:List Deferred) (u:FrameMode) (w:World),tkD P ds u w k→LeavesInM (FW none) 3 P fn a.tmps R ds u w
 |[],u,w,h=>hk u w h
 |d::ds,u,w,h=>by
  unfold tkD at h
  obtain⟨hu,h⟩:=h
  split at h
  ·rename_i D hD
   obtain⟨hm,h⟩:=h
   exact⟨hu,.inl ⟨D,_,hD,run_takeDeferred hm,yI hk ds _ _ h⟩⟩
  ·rename_i g cap hD
   obtain⟨hc,h⟩:=h
   refine⟨hu,.inr ⟨λh=>by simp[FW] at h,.func g,cap,g,d.args++cap,hD,?_,λ_ _=>trivial,?_⟩⟩
   ·rw[hD]
    exact lY hc _ _
   ·refine⟨trivial,λc cs hm hr=>?_⟩
    unfold clD at h
    rw[Array.toArray_toList] at h
    obtain⟨e,u',w',fr,⟨⟨v,rfl⟩,hq⟩,hs⟩:=h.2 c cs hm (Aj5 _ _)
    exact⟨.returned v,u',w',fr,yI hk ds _ _ hq,hs⟩
  ·exact h.elim
theorem Aew{P:Program}(hm:P.follows .mixedOrders=true){f:FuncId}{fn:Func}(hf:P.funcs[f]? =some fn)(h:Hn){args:List Value}{w:World}{R Z:Value→WP}(hw:Am0 P fn h args w R Z):
  Calls P f args.toArray w λe w'=>(∃v,e=.returned v∧R v w')∨ ∃v,e=.panicked [{v,recovered:=false}]∧Z v w':=by
 unfold Am0 at hw
 split at hw
 case h_1=>exact hw.elim
 rename_i c hc
 refine oG.1 (callsIn_of_wp_marks (F:=FW none) (n:=3) hf hc trivial ?_ rfl)
 have e:args.toArray++Array.replicate (fn.ntmps-args.toArray.size) undef=(args++List.replicate (fn.ntmps-args.length) undef).toArray:=by
  apply Array.ext';simp
 rw[e]
 refine wpIn_mono (Zr hm none c h _ _ _ w (.inl rfl) hw) ?_
 intro e a' w' h
 have key: ∀u,tkD P a'.defers u w' (An4 P fn R Z a')→LeavesInM (FW none) 3 P fn a'.tmps (λe w'=>(∃v,e=.returned v∧R v w')∨ ∃v,e=.panicked [{v,recovered:=false}]∧Z v w') a'.defers u w':=λu h=>
  yI (λu w h=>by
   cases u with
   |run=>exact h.elim
   |returning=>obtain⟨v,hr,hR⟩:=Zv h;exact⟨v,hr,.inl ⟨v,rfl,hR⟩⟩
   |panicking ch=>obtain⟨v,rfl,hz⟩:=Abc h;exact .inr ⟨v,rfl,hz⟩) _ _ _ h
 cases e with
 |normal=>exact key _ h
 |ret=>exact key _ h
 |panic ch=>exact key _ h
 |_=>exact h.elim
theorem Atc{P:Program}(hm:P.follows .mixedOrders=true){f:FuncId}{fn:Func}(hf:P.funcs[f]? =some fn){h:Hn}{args:List Value}{w:World}{tup:Bool}{rs:List (Bool×List CK)}
  (wpT:(TR rs→WP)→(Value→WP)→Prop) (heq: ∀R Z,Am0 P fn h args w R Z=wpT (λr w=>R (encR tup rs r) w) Z) (hs:(Aa0 rs&&(tup||rs.length==1))=true) {k:TR rs→WP} (hk:wpT k λ_ _=>False):
  Ad P f args w tup rs k:=by
 rw[Bool.and_eq_true] at hs
 have e:(λ(r:TR rs) (w:World)=> ∃r',encR tup rs r=encR tup rs r'∧k r' w)=k:=by
  funext r w
  exact propext ⟨λ⟨r',h1,h2⟩=>qN hs.1 hs.2 h1▸h2,λh=>⟨r,rfl,h⟩⟩
 have hw:Am0 P fn h args w (λv w'=> ∃r,v=encR tup rs r∧k r w') λ_ _=>False:=by
  rw[heq,e];exact hk
 refine Calls.mono (Aew hm hf h hw) ?_
 rintro e w' (⟨v,rfl,r,rfl,h⟩|⟨_,_,h⟩)
 ·exact⟨r,rfl,h⟩
 ·exact h.elim
def Ac5(P:Program)(ops:Array Oper):Option Value→List Nat→Act→World→(Act→WP)→Prop
 |x,[],a,w,k=>match x with|none=>k a w|some _=>False
 |x,i::rest,a,w,k=>match ops[i]? with
  |none=>False
  |some o=>if Region.wanted o (yielded ops a.tmps)=true then(match (execOp a.eval o).run P w with
    | .ok .recover w'=>(match x with|some v=>Ac5 P ops none rest (a.put o.dst v) w' k|none=>False)
    | .ok (.value v) w'=>Ac5 P ops x rest (a.put o.dst v) w' k
    | .ok .skip w'=>Ac5 P ops x rest (a.put o.dst undef) w' k
    |_=>False)
   else Ac5 P ops x rest (a.put o.dst undef) w k
theorem nD{P:Program}{ops:Array Oper}{Q:Exit→Act→List Frame→WP}{cs':List Frame}{k:Act→WP}(hk: ∀a w,k a w→Q .normal a cs' w):
  ∀(l:List Nat) (x:Option Value) (a:Act) (cs:List Frame) (w:World),((x=none∧cs=cs')∨ ∃v,x=some v∧(recoverD cs=some (v,cs')∨(recoverD cs=none∧v=.nilIface∧cs=cs')))→Ac5 P ops x l a w k→wpOpsSIn (FW none) 2 P ops Q l a cs w
 |[],x,a,cs,w,hx,h=>by
  unfold Ac5 at h
  split at h
  case h_2=>exact h.elim
  rcases hx with ⟨_,rfl⟩|⟨v,hv,_⟩
  ·exact hk a w h
  ·cases hv
 |i::rest,x,a,cs,w,hx,h=>by
  unfold Ac5 at h
  unfold wpOpsSIn
  cases ho:ops[i]? with
  |none=>rw[ho] at h;exact h.elim
  |some o=>
   rw[ho] at h
   dsimp only at h⊢
   refine⟨λ_ _=>trivial,?_⟩
   split at h
   ·rename_i hw
    rw[if_pos hw]
    split at h
    ·rename_i w' hr
     split at h
     ·rename_i v
      rw[hr]
      dsimp only
      rcases hx with ⟨hv,_⟩|⟨v',hv,hx⟩
      ·cases hv
      ·injection hv with hv
       subst hv
       rcases hx with hx|⟨hx,rfl,rfl⟩
       ·rw[hx];exact nD hk rest none _ _ _ (.inl ⟨rfl,rfl⟩) h
       ·rw[hx];exact nD hk rest none _ _ _ (.inl ⟨rfl,rfl⟩) h
     ·exact h.elim
    ·rename_i v w' hr
     rw[hr]
     exact nD hk rest x _ _ _ hx h
    ·rename_i w' hr
     rw[hr]
     exact nD hk rest x _ _ _ hx h
    ·exact h.elim
   ·rename_i hw
    rw[if_neg hw]
    exact nD hk rest x _ _ _ hx h
def Axe(u:FrameMode)(x:Value)(u':FrameMode):Prop:=(u=.panicking [{v:=x,recovered:=false}]∧u'=.panicking [{v:=x,recovered:=true}])∨(u=.returning∧x=.nilIface∧u'=.returning)
def ndK(p:Prop):Prop:=([]:List Deferred)=[]∧p
def An7(P:Program)(fn:Func)(h:Hn)(args:List Value)(x:Value)(w:World)(k:WP):Prop:=
 match fn.body with
 |some (.seq (.region q ops false) rest)=>match fn.results.toList with
  |[]=>Ac5 P ops (some x) (List.range ops.size) {tmps:=(args++List.replicate (fn.ntmps-args.length) undef).toArray,defers:=[]} w λa w=>
   pw P rest h.r (λa w=>a.defers=[]∧k w) (λe a w=>match e with| .ret=>a.defers=[]∧k w|_=>False) a w
  |_=>False
 |_=>False
theorem qX{P:Program}(hm:P.follows .mixedOrders=true){f:FuncId}{fn:Func}(hf:P.funcs[f]? =some fn)(h:Hn){args:List Value}{x:Value}{u u':FrameMode}(hu:Axe u x u'){w:World}{k:WP}(hw:An7 P fn h args x w k):
  clD P f args u w λu2 w'=>u2=u'∧k w':=by
 unfold An7 at hw
 split at hw
 case h_2=>exact hw.elim
 rename_i q ops rest hb
 split at hw
 case h_2=>exact hw.elim
 rename_i hres
 refine callsDIn_of_wpSIn hf hb trivial λc₀ cs hc=>?_
 have e:args.toArray++Array.replicate (fn.ntmps-args.toArray.size) undef=(args++List.replicate (fn.ntmps-args.length) undef).toArray:=by
  apply Array.ext';simp
 rw[e]
 refine wpSIn_seq (wpSIn_region ?_)
 refine nD (cs':={c₀ with mode:=u'}::cs) (λa w h=>?_) _ _ _ _ _ (.inr ⟨x,rfl,?_⟩) hw
 ·show Code.wpSIn _ _ _ _ _ _ _ _
  refine wpSIn_of_wpIn rfl (wpIn_mono (Zr hm none rest _ _ _ a w (.inl rfl) h) ?_)
  have fin: ∀(a':Act) (w':World),a'.defers=[]∧k w'→a'.defers=[]∧ ∃u2,({c₀ with mode:=u'}::cs:List Frame)={c₀ with mode:=u2}::cs∧ ∃v,(results fn a'.tmps).run P w'=.ok v w'∧(∃v',(Ending.returned v)=.returned v')∧u2=u'∧k w':=λa' w' ⟨h1,h2⟩=>
   have ⟨v,hv,_⟩:=Zv (P:=P) (fn:=fn) (a:=a') (w:=w') (R:=λv _=>True) (by unfold Ape;rw[hres];exact trivial)
   ⟨h1,u',rfl,v,hv,⟨_,rfl⟩,rfl,h2⟩
  intro e a' w' h
  cases e with
  |normal=>exact fin a' w' h
  |ret=>exact fin a' w' h
  |_=>exact h.elim
 ·obtain⟨c1,c2,c3,c4,c5,c6,c7⟩:=c₀
  dsimp only at hc
  subst hc
  rcases hu with ⟨rfl,rfl⟩|⟨rfl,rfl,rfl⟩
  ·exact .inl rfl
  ·exact .inr ⟨rfl,rfl,rfl⟩
end Go.Eng
