import Derived.Test.YtppeepkmnijdpaaGreatDoorEngX
namespace Go.Eng
open Go
open Go.IntKind (wrap)
set_option linter.unusedSimpArgs false
set_option linter.unusedVariables false
set_option maxRecDepth 100000
set_option maxHeartbeats 8000000
def eF(zs:Array Value)(n:Nat):List Value:=(List.range n).map λi=>zs[i%zs.size]!
theorem Yy(zs:Array Value)(n:Nat):(eF zs n).length=n:=by simp[eF]
theorem qV(v:Value)(n:Nat):eF #[v] n=List.replicate n v:=by
 unfold eF
 apply List.ext_getElem
 ·simp
 ·intro i h1 h2
  simp[Nat.mod_one]
theorem run_make{P:Program}{w:World}{t e:TypeId}{i:TypeInfo}{z:Value}(ht:P.underlying t=some (.slice e))(hi:P.info? e=some i)(hz:i.zero=some z)(hs:z.cells.size=i.size)(hb:i.bytes≤10000){l c:Nat}(hl:l≤c)(hc:c≤1000000):
  (Instr.makeSlice t (iV (l:Int)) (iV (c:Int))).run P w=.ok (.slice (some ⟨w.heap.size,0,none⟩) l c) (w.alloc (.cells (eF z.cells (c*i.size)).toArray e)):=by
 have hlw:wrap .i64 (l:Int)=l:=Af (by unfold I64;omega)
 have hcw:wrap .i64 (c:Int)=c:=Af (by unfold I64;omega)
 have hti:(typeInfo e).run P w=.ok i w:=by simp[typeInfo,program,bind,Sem.bind,Sem.run,hi,pure]
 have hsz:(Go.sizeOf e).run P w=.ok i.size w:=by simp[Go.sizeOf,typeInfo,program,bind,Sem.bind,Sem.run,hi,pure]
 have hzv:(zeroValue e).run P w=.ok z w:=by simp[zeroValue,typeInfo,program,bind,Sem.bind,Sem.run,hi,hz,pure]
 have hm:i.bytes*c≤10000*1000000:=Nat.mul_le_mul hb hc
 have hm': ¬((i.bytes:Int)*(c:Int)>2^48):=by
  rw[←Int.natCast_mul]
  have:(2:Int)^48=281474976710656:=by decide
  rw[this]
  omega
 unfold Instr.makeSlice
 refine(run_bind _ _ w (Tj ht w)).trans ?_
 simp only[asInt]
 refine(run_bind _ _ w (a:=(l:Int)) rfl).trans ?_
 refine(run_bind _ _ w (a:=(c:Int)) rfl).trans ?_
 refine(run_bind _ _ w hti).trans ?_
 simp only[hlw,hcw]
 rw[if_neg (by simp only[Bool.or_eq_true,decide_eq_true_eq];omega)]
 refine(run_bind _ _ w (a:=()) (w':=w) ?_).trans ?_
 ·unfold askRoom;split<;>rfl
 refine(run_bind _ _ w hsz).trans ?_
 simp only[Int.toNat_natCast]
 have hnew:(do let a←newRow e ((Array.range (c*i.size)).map λx=>z.cells[x%z.cells.size]!);pure (Value.slice (some a) l c):Sem Value).run P w=.ok (.slice (some ⟨w.heap.size,0,none⟩) l c) (w.alloc (.cells (eF z.cells (c*i.size)).toArray e)):=by
  have hcells:((Array.range (c*i.size)).map λx=>z.cells[x%z.cells.size]!)=(eF z.cells (c*i.size)).toArray:=by
   apply Array.ext'
   simp[eF,Array.toList_range]
  rw[hcells]
  rfl
 split
 ·rename_i h0
  rw[h0] at hnew⊢
  refine(run_bind _ _ w (a:=#[]) (w':=w) rfl).trans ?_
  have e0:((Array.range 0).map λx=>(#[]:Array Value)[x%(#[]:Array Value).size]!)=(Array.range 0).map λx=>z.cells[x%z.cells.size]! :=by
   apply Array.ext';simp[Array.toList_range]
  rw[e0];exact hnew
 ·refine(run_bind _ _ w hzv).trans ?_
  exact hnew
theorem bD{P:Program}{w:World}{t e:TypeId}{size bytes:Nat}{z:Value}(ht:P.underlying t=some (.slice e))(hk0:(P.info? e).map (λi=>(i.size,i.bytes,i.zero))=some (size,bytes,some z))(i4:z.cells.size=size)(i2:bytes≤10000)
  {l c:Nat} {L C:Int} (hL:L=l) (hC:C=c) (hl:l≤c) (hc:c≤1000000) {k:Sl→WP}
  (hk: ∀b w',w.heap.size=b→Ar w' b (eF z.cells (c*size))→Dp w' b e size (some ⟨b,0,none⟩,l,c) l ((eF z.cells (c*size)).take (l*size))→Ah w w'→k (some ⟨b,0,none⟩,l,c) w'):
  Qj ((Instr.makeSlice t (iV L) (iV C)).run P w) k:=by
 subst hL hC
 obtain⟨i,hi,hz⟩:=Option.map_eq_some_iff.1 hk0
 simp only[Prod.mk.injEq] at hz
 obtain⟨rfl,rfl,hz⟩:=hz
 rw[run_make ht hi hz i4 i2 hl hc]
 refine hk _ _ rfl (Ar.new _ _ _) ⟨?_,.inr ⟨w.heap.size,c,(eF z.cells (c*i.size)).toArray,rfl,Nat.le_refl _,?_,hl,by unfold maxLen;omega,by simp[Yy],?_⟩⟩ ((Ah.refl w).alloc _)
 ·rw[List.length_take,Yy,Nat.min_eq_left (Nat.mul_le_mul_right _ hl)]
 ·show(w.heap.push _)[w.heap.size]? =_
  rw[Array.getElem?_push,if_pos rfl]
 ·simp
theorem Row.ixc{w:World}{s:Sl}{xs:List Value}(h:Row w s 1 xs){c:CK}{z:Int}{i:Nat}{v:Value}{x:Tv c}(hz:z=i)(hi:xs[i]? =some v)(hd:dec c v=some x){k:Tv c→Prop}(hk:k x):
  Hf s.1 s.2.1 z λa=>ld1 c (a.add (z.toNat*1)) w k:=by
 subst hz
 have hl:=h.len
 have hlt:=(List.getElem?_eq_some_iff.1 hi).1
 obtain⟨a,ha⟩:=h.addr (by omega)
 rw[ha,Ip (by omega),Int.toNat_natCast,Nat.mul_one]
 exact Tt (h.ld ha hi) hd hk
theorem Row.Ab2{w:World}{s:Sl}{xs:List Value}(h:Row w s 1 xs):s.2.1=xs.length:=by
 have:=h.len;omega
theorem Ar.row{w:World}{b:Nat}{cs:List Value}{n:Nat}(h:Ar w b cs){size:Nat}(hl:n*size=cs.length){m:Nat}:Row w (some ⟨b,0,none⟩,n,m) size cs:=
 ⟨hl,λ_=>⟨_,rfl,λk v hk=>by rw[Lr,Nat.zero_add,h.cell];exact hk⟩⟩
theorem vZ(zs:Array Value)(n:Nat):(Builtin.zeroCells zs n).toList=eF zs (n*zs.size):=by
 simp[Builtin.zeroCells,eF,Array.toList_range]
theorem Ajc{zs:Array Value}(h:zs.toList.all okc=true)(n:Nat):(eF zs (n*zs.size)).all okc=true:=by
 rw[List.all_eq_true] at h⊢
 intro v hv
 simp only[eF,List.mem_map,List.mem_range] at hv
 obtain⟨i,hi,rfl⟩:=hv
 have h0:0<zs.size:=by
  rcases Nat.eq_zero_or_pos zs.size with e|e
  ·rw[e] at hi;omega
  ·exact e
 have hlt:i%zs.size<zs.size:=Nat.mod_lt _ h0
 rw[getElem!_pos zs _ hlt]
 exact h _ (by simp)
theorem Amf{P:Program}{w:World}{t ty e:TypeId}{size bytes:Nat}{z:Value}(ht:P.underlying t=some (.slice e))(hk0:(P.info? e).map (λi=>(i.size,i.bytes,i.zero))=some (size,bytes,some z))(hs:z.cells.size=size){c n m:Nat}{rows:List Value}(hB:Ar w c rows)
  (hl:rows.length=(n+1)*size) (hv:z.cells.toList.all okc=true) {k:WP}
  (hk: ∀w',Ar w' c (eF z.cells ((n+1)*size))→Ap (λx=>x=c) w w'→k w'):crK P #[t] ty (.slice (some ⟨c,0,none⟩) (n+1) m) w k:=by
 obtain⟨i,hi,hz⟩:=Option.map_eq_some_iff.1 hk0
 simp only[Prod.mk.injEq] at hz
 obtain⟨rfl,rfl,hz⟩:=hz
 have hzv:(zeroValue e).run P w=.ok z w:=by simp[zeroValue,typeInfo,program,bind,Sem.bind,Sem.run,hi,hz,pure]
 have h:=hB.E5 (k:=λw'=>Ar w' c (eF z.cells ((n+1)*i.size))∧Ap (λx=>x=c) w w') (eF z.cells ((n+1)*i.size)) (by rw[hl,Yy]) (by rw[←hs];exact Ajc hv _) λw' k' u'=>⟨k',u'⟩
 obtain⟨w',⟨k',u'⟩,hr⟩:=uM (P:=P) _ _ _ _ _ h
 rw[←hs,←vZ] at hr
 have hrun:(Builtin.clear_ #[t] ty #[.slice (some ⟨c,0,none⟩) (n+1) m]).run P w=.ok (.tuple #[]) w':=by
  unfold Builtin.clear_
  refine(run_bind _ _ w (Tj ht w)).trans ?_
  refine(run_bind (zeroValue e) (λz=>storeCells ⟨c,0,none⟩ (Builtin.zeroCells z.cells (n+1)).toList>>=λ_=>pure (Value.tuple #[])) w hzv).trans ?_
  exact(run_bind _ _ w hr).trans rfl
 unfold crK
 rw[hrun]
 exact hk w' k' u'
end Go.Eng
