import Derived.Test.YticgocmhmffneaaGreatDoorNdB
namespace Go.Proofs.YticgocmhmffneaaGreatDoor
open Go Go.Eng Tryz
open Go.IntKind (wrap)
set_option linter.unusedSimpArgs false
set_option linter.unusedVariables false
set_option maxRecDepth 100000
set_option maxHeartbeats 8000000
def zH(w:World)(r:Nat)(s:ByteArray)(pos:Nat):Prop:=w.heap[r]? =some (.stringIter s pos)
theorem zH.lt{w:World}{r:Nat}{s:ByteArray}{pos:Nat}(h:zH w r s pos):r<w.heap.size:=(Array.getElem?_eq_some_iff.1 h).1
theorem Amr{s:ByteArray}{w:World}{k:Nat→WP}(h: ∀r w',w.heap.size=r→zH w' r s 0→Af w w'→k r w'):rgK s w k:=by
 refine h _ _ rfl ?_ ((Af.refl w).alloc _)
 show(w.heap.push _)[w.heap.size]? =_
 rw[Array.getElem?_push,if_pos rfl]
theorem Ak6{s:ByteArray}{i:Nat}{c:UInt8}(h:s.data.toList[i]? =some c):s.get! i=c:=by
 obtain⟨bs⟩:=s
 rw[Array.getElem?_toList] at h
 show bs[i]! =c
 rw[getElem!_def,h]
theorem Af9{s:ByteArray}{i:Nat}{c:UInt8}(h:s.data.toList[i]? =some c)(hc:c.toNat<128):Utf8.decode s i=(c.toNat,1):=by
 unfold Utf8.decode
 simp only[Nat.add_zero,Ak6 h]
 rw[if_pos hc]
theorem Aew{s:ByteArray}{i:Nat}{c:UInt8}(h:s.data.toList[i]? =some c)(hc:128≤c.toNat):128≤(Utf8.decode s i).1:=by
 unfold Utf8.decode
 simp only[Nat.add_zero,Ak6 h]
 rw[if_neg (by omega)]
 have e:(128:Nat)≤Utf8.runeError:=by decide
 split
 ·split
  ·assumption
  ·exact e
 split
 ·split
  ·rename_i hh;have:=hh;simp only[Bool.and_eq_true,decide_eq_true_eq] at this;exact Nat.le_trans (by decide) this.1
  ·exact e
 split
 ·split
  ·rename_i hh;have:=hh;simp only[Bool.and_eq_true,decide_eq_true_eq] at this;exact Nat.le_trans (by decide) this.1
  ·exact e
 ·exact e
theorem Ams{w:World}{r:Nat}{s:ByteArray}{pos:Nat}{over:WP}{more:Int→Int→WP}(h:zH w r s pos)(h0:s.size≤pos→over w)
  (h1: ∀b w',s.data.toList[pos]? =some b→b.toNat<128→zH w' r s (pos+1)→Am (λx=>x=r) w w'→more pos (b.toNat:Int) w')
  (h2: ∀b (c:Int) w',s.data.toList[pos]? =some b→128≤b.toNat→128≤c→Am (λx=>x=r) w w'→more pos c w'):nxK r w over more:=by
 unfold nxK
 have h':=h
 unfold zH at h'
 rw[h']
 simp only
 have up: ∀o,Am (λx=>x=r) w {w with heap:=w.heap.setIfInBounds r o}:=λo=>⟨rfl,rfl,rfl,by simp,λk hk hn=>by
  show(w.heap.setIfInBounds r o)[k]? =_
  rw[Array.getElem?_setIfInBounds_ne (λe=>hn e.symm)]⟩
 by_cases hp:pos<s.size
 ·rw[if_pos hp]
  have hp':pos<s.data.toList.length:=by simpa using hp
  have hb:s.data.toList[pos]? =some s.data.toList[pos]:=List.getElem?_eq_getElem hp'
  generalize s.data.toList[pos]=b at hb
  by_cases hc:b.toNat<128
  ·rw[Af9 hb hc]
   refine h1 b _ hb hc ?_ (up _)
   show(w.heap.setIfInBounds r _)[r]? =_
   rw[Array.getElem?_setIfInBounds_self_of_lt h.lt]
  ·exact h2 b _ _ hb (by omega) (by have:=Aew hb (by omega);omega) (up _)
 ·rw[if_neg hp];exact h0 (by omega)
theorem uC{c:UInt8}:fD c=true↔c.toNat=95∨(97≤c.toNat∧c.toNat≤122)∨(48≤c.toNat∧c.toNat≤57):=by
 unfold fD
 simp only[Bool.or_eq_true,Bool.and_eq_true,decide_eq_true_eq,beq_iff_eq,UInt8.le_iff_toNat_le,←UInt8.toNat_inj]
 constructor
 ·rintro((h|h)|h)
  ·exact .inl h
  ·exact .inr (.inl h)
  ·exact .inr (.inr h)
 ·rintro(h|h|h)
  ·exact .inl (.inl h)
  ·exact .inl (.inr h)
  ·exact .inr h
theorem wM{s:ByteArray}{i:Nat}{c:UInt8}(h:s.data.toList[i]? =some c)(hc:fD c=false):jV s=false:=by
 unfold jV
 have:s.data.toList.all fD=false:=by
  rw[List.all_eq_false]
  exact⟨c,List.mem_of_getElem? h,by rw[hc];decide⟩
 rw[this];rfl
theorem zJ{s:ByteArray}(h: ∀j c,j<s.size→s.data.toList[j]? =some c→fD c=true):jV s=(decide (1≤s.size)&&decide (s.size≤12)):=by
 unfold jV
 have:s.data.toList.all fD=true:=by
  rw[List.all_eq_true]
  intro c hc
  obtain⟨j,hj,e⟩:=List.getElem_of_mem hc
  exact h j c (by simpa using hj) (by rw[←e];exact List.getElem?_eq_getElem hj)
 rw[this];rfl
theorem aZ{c:UInt8}(h: ¬(c.toNat=95∨(97≤c.toNat∧c.toNat≤122)∨(48≤c.toNat∧c.toNat≤57))):fD c=false:=by
 cases hb:fD c
 ·rfl
 ·exact absurd (uC.1 hb) h
theorem Vo.cl{s:ByteArray}(hs:s.size≤1000000){w:World}{k:TR Wh→WP}(h: ∀w',Af w w'→k ((jV s,()),()) w'):Ae prog F.Vo [.string s] w false Wh k:=by
 refine Vo.ok ?_
 unfold Vo.wp
 refine Amr λr w2 er hI u2=>?_
 refine Ci.by (λz W=> ∃i:Nat,i≤s.size∧(∀j c,j<i→s.data.toList[j]? =some c→fD c=true)∧z=((i:Int),())∧zH W r s i∧Af w W) (λz=>(1000000-z.1).toNat) ⟨0,by omega,λj c h=>by omega,rfl,hI,u2⟩ ?_
 rintro z W ⟨i,hi,hpre,rfl,hIt,hG⟩ _
 have fr: ∀{W'},Am (λx=>x=r) W W'→Af w W':=λu=>Am.trans hG u λj hj h=>by omega
 refine Ams hIt (λhend=>?_) (λb w7 hb hlow hI7 u7=>?_) λb c w7 hb hhigh hc7 u7=>?_
 ·have e:i=s.size:=by omega
  subst e
  have:=h W hG
  rw[zJ hpre] at this
  refine Dx (λc=>?_) λc=>?_
  ·have c:(s.size:Int)≥1:=c
   rw[decide_eq_true (show 1≤s.size by omega),Bool.true_and] at this
   have e:decide ((s.size:Int)≤12)=decide (s.size≤12):=by
    by_cases hq:s.size≤12
    ·rw[decide_eq_true hq,decide_eq_true (by omega)]
    ·rw[decide_eq_false hq,decide_eq_false (by omega)]
   show k ((decide ((s.size:Int)≤12),()),()) W
   rw[e];exact this
  ·have c: ¬(s.size:Int)≥1:=c
   rw[decide_eq_false (show¬1≤s.size by omega),Bool.false_and] at this
   exact this
 ·have hlt:=(List.getElem?_eq_some_iff.1 hb).1
  have hlt:i<s.size:=by simpa using hlt
  have ei:wrap .i64 ((i:Int)+1)=((i+1:Nat):Int):=by rw[Ah (by unfold I64;omega)];omega
  have go:fD b=true→((∃i':Nat,i'≤s.size∧(∀j c,j<i'→s.data.toList[j]? =some c→fD c=true)∧(wrap .i64 ((i:Int)+1),())=((i':Int),())∧zH w7 r s i'∧Af w w7)∧(1000000-wrap .i64 ((i:Int)+1)).toNat<(1000000-(i:Int)).toNat):=λhc=>
   ⟨⟨i+1,by omega,λj y hj hy=>by
    rcases Nat.lt_or_ge j i with h|h
    ·exact hpre j y h hy
    ·have:j=i:=by omega
     subst this
     rw[hb] at hy
     injection hy with hy
     subst hy;exact hc,by rw[ei],hI7,fr u7⟩,by rw[ei];omega⟩
  have bad:fD b=false→k ((false,()),()) w7:=λhc=>by have:=h w7 (fr u7);rw[wM hb hc] at this;exact this
  refine bK (λc1=>?_) λc1=>go (uC.2 (.inl (by have c1:(b.toNat:Int)=95:=c1;omega)))
  have c1:(b.toNat:Int)≠95:=c1
  refine Dx (λc2=>?_) λc2=>?_
  ·have c2:(b.toNat:Int)<97:=c2
   refine Dx (λc3=>bad (aZ (by have c3:(b.toNat:Int)<48:=c3;omega))) λc3=>Dx (λc4=>bad (aZ (by have c4:(b.toNat:Int)>57:=c4;omega))) λc4=>go (uC.2 (.inr (.inr ?_)))
   have c3: ¬(b.toNat:Int)<48:=c3
   have c4: ¬(b.toNat:Int)>57:=c4
   omega
  ·have c2: ¬(b.toNat:Int)<97:=c2
   refine Dx (λc3=>?_) λc3=>go (uC.2 (.inr (.inl (by have c3: ¬(b.toNat:Int)>122:=c3;omega))))
   have c3:(b.toNat:Int)>122:=c3
   exact Dx (λc4=>absurd (show(b.toNat:Int)<48 from c4) (by omega)) λ_=>Dx (λ_=>bad (aZ (by omega))) λc5=>absurd (show¬(b.toNat:Int)>57 from c5) (by omega)
 ·have bad:k ((false,()),()) w7:=by have:=h w7 (fr u7);rw[wM hb (aZ (by omega))] at this;exact this
  refine bK (λc1=>?_) λc1=>absurd (show c=95 from c1) (by omega)
  refine Dx (λc2=>absurd (show c<97 from c2) (by omega)) λ_=>Dx (λ_=>Dx (λc3=>absurd (show c<48 from c3) (by omega)) λ_=>Dx (λ_=>bad) λc4=>absurd (show¬c>57 from c4) (by omega)) λc3=>absurd (show¬c>122 from c3) (by omega)
abbrev evZ:Value:=.agg #[iV 0,.string ByteArray.empty,iV 0,iV 0,iV 0,iV 0,uV 0,iV 0]
def ev0:Ev:=⟨0,ByteArray.empty,0,(0,0,0,0,0)⟩
theorem Gt.cL{w:World}{k:TR RPI→WP}(h: ∀b c w',w.heap.size≤c→c<b→Z7 w' b c 8 16 []→Af w w'→k ((some ⟨b,0,none⟩,()),(0,()),()) w'):Ae prog F.Gt [iV 16] w true RPI k:=by
 refine Gt.ok ?_
 unfold Gt.wp
 refine Jl rfl (Jl rfl ?_)
 refine iM (t:=T.Yo) (e:=T.U1) (size:=8) (bytes:=72) (z:=evZ) (l:=16) (c:=16) (by kernel_rfl) (by kernel_rfl) rfl (by decide) rfl rfl (by decide) (by decide) λc w2 e2 k2 _ g2=>?_
 refine Ad λb w4 e4 k4 g4=>h b c w4 (Nat.le_of_eq e2) (by have:=k2.lt;omega) (Z7.empty (f:=0) k4 (k2.Ai g4) (by rw[aO]) (by decide)) (g2.trans g4)
theorem Wl.cL{w:World}{k:TR RP→WP}(h: ∀g b c w',w.heap.size≤c→c<b→b<g→Z7 w' b c 8 16 []→Az w' g [pB b,iV 0]→Af w w'→k ((some ⟨g,0,none⟩,()),()) w'):Ae prog F.Wl [] w false RP k:=by
 refine Wl.ok ?_
 unfold Wl.wp
 refine Gt.cL λb c w2 h1 h2 hR g2=>Ad λg w4 e4 k4 g4=>?_
 have hb:=hR.lt.1
 exact h g b c w4 h1 h2 (by omega) (hR.Ai g4) k4 (g2.trans g4)
theorem Dw.cL{b c:Nat}{L:List (List Value)}(hbc:b≠c){w:World}(hR:Z7 w b c 8 16 L){k:TR []→WP}(h: ∀w',Z7 w' b c 8 16 []→Am (λz=>z=b∨z=c) w w'→k () w'):Ae prog F.Dw [pB b] w true [] k:=by
 refine Dw.ok ?_
 unfold Dw.wp
 obtain⟨rows,f,k1,k2,hl,_⟩:=hR.ex
 refine Vt rfl ?_
 rw[Ac]
 refine k1.c0 (c:=.sl) (x:=(some ⟨c,0,none⟩,16,16)) rfl ?_
 refine Afu (t:=T.Yo) (e:=T.U1) (size:=8) (bytes:=72) (z:=evZ) (n:=15) (by kernel_rfl) (by kernel_rfl) rfl k2 hl rfl λw3 k3 u3=>?_
 rw[Ac]
 refine(k1.upd u3 hbc).sN 1 [_] (by simp) rfl λw5 k5 u5=>?_
 rw[Ac]
 refine k5.sN 2 [_] (by simp[splice]) rfl λw7 k7 u7=>h w7 (Z7.empty (f:=0) k7 ((k3.upd u5 (λe=>hbc e.symm)).upd u7 (λe=>hbc e.symm)) (by rw[aO]) (by decide)) ?_
 exact Am.trans (Am.trans (u3.mono λz hz=>.inr hz) u5 λz _ hz=>.inl hz) u7 λz _ hz=>.inl hz
theorem Md.cL{g b c:Nat}{L:List (List Value)}{last:Int}(hbc:b≠c)(hgb:g≠b)(hgc:g≠c){w:World}(hR:Z7 w b c 8 16 L)(hB:Az w g [pB b,iV last]){k:TR []→WP}(h: ∀w',Z7 w' b c 8 16 []→Az w' g [pB b,iV 0]→Am (λz=>z=g∨z=b∨z=c) w w'→k () w'):Ae prog F.Md [.pointer (some ⟨g,0,none⟩)] w true [] k:=by
 refine Md.ok ?_
 unfold Md.wp
 refine Vt rfl ?_
 rw[Ac]
 refine hB.c0 (c:=.p) (x:=some ⟨b,0,none⟩) rfl (Dw.cL hbc hR λw4 R4 u4=>?_)
 rw[Ac]
 refine(hB.upd u4 (by simp[hgb,hgc])).sN 1 [_] (by simp) rfl λw6 k6 u6=>h w6 (R4.upd u6 (λe=>hgb e.symm) λe=>hgc e.symm) k6 ?_
 exact Am.trans (u4.mono λz hz=>.inr hz) u6 λz _ hz=>.inl hz
theorem Dj.cL{b c:Nat}{L:List (List Value)}{w:World}(hR:Z7 w b c 8 16 L){k:TR Si→WP}(h:k (((L.length:Int),()),()) w):Ae prog F.Dj [pB b] w false Si k:=by
 refine Dj.ok ?_
 unfold Dj.wp
 obtain⟨rows,f,k1,_⟩:=hR.ex
 refine Jl rfl ?_
 rw[Ac]
 exact k1.c1 2 rfl h
theorem Qh.cL{g b c:Nat}{L:List (List Value)}{last:Int}{w:World}(hR:Z7 w b c 8 16 L)(hB:Az w g [pB b,iV last]){k:TR Si→WP}(h:k (((L.length:Int),()),()) w):Ae prog F.Qh [.pointer (some ⟨g,0,none⟩)] w false Si k:=by
 refine Qh.ok ?_
 unfold Qh.wp
 refine Jl rfl ?_
 rw[Ac]
 exact hB.c0 (c:=.p) (x:=some ⟨b,0,none⟩) rfl (Dj.cL hR h)
theorem vM(e:Ev):(encs jD (fK e)).all okc=true:=rfl
abbrev vEv(e:Ev):Value:=.agg #[iV e.id,.string e.lab,iV e.loc,iV e.a.1,iV e.a.2.1,iV e.a.2.2.1,uV e.a.2.2.2.1,iV e.a.2.2.2.2]
theorem Dz.cL{b c:Nat}{js:List Ev}{j:Ev}(hbc:b≠c){w:World}(hR:Z7 w b c 8 16 (yC js)){k:TR Si→WP}
  (h0:js.length≥16→ ∀w',Af w w'→k ((6,()),()) w') (h1:js.length<16→ ∀w',Z7 w' b c 8 16 (yC (js++[j]))→Am (λz=>z=b∨z=c) w w'→k ((0,()),()) w'):Ae prog F.Dz [pB b,vEv j] w false Si k:=by
 refine Dz.ok (x0:=j.id) (x1:=j.lab) (x2:=j.loc) (x3:=j.a.1) (x4:=j.a.2.1) (x5:=j.a.2.2.1) (x6:=j.a.2.2.2.1) (x7:=j.a.2.2.2.2) ?_
 unfold Dz.wp
 have hlen:=hR.len
 obtain⟨rows,f,k1,k2,hl,hf,hg⟩:=hR.ex
 rw[List.length_map] at hlen k1
 refine Ad λp w2 e2 kp u2=>Jl rfl ?_
 have lb:=k1.lt
 have lc:=k2.lt
 rw[Be,Ac]
 have k1:=k1.Ai u2
 have k2:=k2.Ai u2
 refine k1.drew.c1 2 (c:=KI) (x:=(js.length:Int)) rfl ?_
 rw[Ac]
 refine k1.drew.c0 (c:=.sl) (x:=(some ⟨c,0,none⟩,16,16)) rfl (Yl (λe=>h0 (by have e:(js.length:Int)=((16:Nat):Int):=e;omega) _ (u2.trans (Af.drew w2))) λe=>?_)
 have e:(js.length:Int)≠((16:Nat):Int):=e
 have hj:js.length<16:=by omega
 have K1:=k1.drew.drew
 have K2:=k2.drew.drew
 have Kp:=kp.drew.drew
 have G6:Af w w2.drew.drew:=u2.trans ((Af.drew w2).trans (Af.drew _))
 rw[Be,Ac]
 refine K1.c0 (c:=.sl) (x:=(some ⟨c,0,none⟩,16,16)) rfl ?_
 rw[Ac]
 refine K1.c1 1 (c:=KI) (x:=(f:Int)) rfl ?_
 rw[Ac]
 refine K1.c1 2 (c:=KI) (x:=(js.length:Int)) rfl ?_
 rw[Ac]
 refine K1.c0 (c:=.sl) (x:=(some ⟨c,0,none⟩,16,16)) rfl ?_
 have ew:Int.tmod (wrap .i64 ((f:Int)+(js.length:Int))) ((16:Nat):Int)=(((f+js.length)%16:Nat):Int):=by
  rw[Ah (by unfold I64;omega),show(f:Int)+(js.length:Int)=((f+js.length:Nat):Int) by omega,fZ]
 rw[Pg (show(((16:Nat):Nat):Int)≠0 by decide)]
 refine Kp.cA (cs:=jD) (fK j) rfl ?_
 have hm:(f+js.length)%16<16:=Nat.mod_lt _ (by decide)
 show Ny (some ⟨c,0,none⟩) 16 (Int.tmod (wrap .i64 ((f:Int)+(js.length:Int))) ((16:Nat):Int)) _
 rw[ew,Tq (by omega),Int.toNat_natCast]
 refine K2.sN ((f+js.length)%16*8) (encs jD (fK j)) (by rw[hl,Ak];show _+8≤_;omega) (vM j) λw16 k16 u16=>⟨trivial,?_⟩
 have K16:=K1.upd u16 hbc
 rw[Ac]
 refine K16.c1 2 (c:=KI) (x:=(js.length:Int)) rfl ?_
 rw[Ac]
 refine K16.sN 2 [_] (by simp) rfl λw20 k20 u20=>h1 hj w20 ?_ ?_
 ·have el:wrap .i64 ((js.length:Int)+1)=((js.length+1:Nat):Int):=by rw[Ah (by unfold I64;omega)];omega
  change Az w20 b [.slice (some ⟨c,0,none⟩) 16 16,iV (f:Int),iV (wrap .i64 ((js.length:Int)+1))] at k20
  rw[el] at k20
  have:=kR (w:=w) (w16:=w16) (L:=yC js) (r:=encs jD (fK j)) hbc hl hf (by rw[List.length_map];exact hj) rfl hg hR.row (by rw[List.length_map];exact k20) (by rw[List.length_map];exact k16.upd u20 λe=>hbc e.symm)
  rw[show yC (js++[j])=yC js++[encs jD (fK j)] by simp[yC]]
  exact this
 ·exact Am.trans (Am.trans (Am.Bj G6) (u16.mono λz hz=>.inr hz) λ_ _ x=>x) u20 λz _ hz=>.inl hz
abbrev REB:List (Bool×List CK):=[(true,jD),(false,[.b])]
theorem Eb.cL{b c:Nat}{js:List Ev}(hbc:b≠c){w:World}(hR:Z7 w b c 8 16 (yC js)){k:TR REB→WP}
  (h0:js=[]→ ∀w',Af w w'→k (fK ev0,(false,()),()) w') (h1: ∀j t,js=j::t→ ∀w',Z7 w' b c 8 16 (yC t)→Am (λz=>z=b∨z=c) w w'→k (fK j,(true,()),()) w'):Ae prog F.Eb [pB b] w true REB k:=by
 refine Eb.ok ?_
 unfold Eb.wp
 have lbc:=hR.lt
 refine Ad λp1 w2 e1 kp1 u1=>Ad λp3 w4 e3 kp3 u3=>?_
 have g4:=u1.trans u3
 have hR:=hR.Ai g4
 have l1:=kp1.lt
 have q1:=kp1.Ai u3
 have l3:=kp3.lt
 refine Dj.cL hR ?_
 cases js with
 |nil=>
  refine Vt rfl (kp3.cA (cs:=jD) (fK ev0) rfl (q1.Fg (encs jD (fK ev0)) rfl rfl λw8 k8 u8=>k8.cA (cs:=jD) (fK ev0) rfl (h0 rfl w8 ?_)))
  exact Am.new (Am.Bj g4) u8 λh=>by omega
 |cons j t=>
  have h1:=h1 j t rfl
  have hlen:=hR.len
  have hrow:=hR.row
  obtain⟨rows,f,k1,k2,hl,hf,hg⟩:=hR.ex
  simp only[yC,List.map_cons,List.length_cons,List.length_map] at hlen k1
  refine Yl (λe=>absurd (show(((yC (j::t)).length:Nat):Int)=0 from e) (by simp only[yC,List.map_cons,List.length_cons,List.length_map];omega)) λ_=>?_
  rw[Be,Ac]
  have K1:=k1.drew
  have K2:=k2.drew
  refine K1.c0 (c:=.sl) (x:=(some ⟨c,0,none⟩,16,16)) rfl ?_
  rw[Ac]
  refine K1.c1 1 (c:=KI) (x:=(f:Int)) rfl ?_
  show Ny (some ⟨c,0,none⟩) 16 (f:Int) _
  rw[Tq (by omega),Int.toNat_natCast]
  have hv:=hg 0 (encs jD (fK j)) rfl
  rw[Nat.add_zero,Nat.mod_eq_of_lt hf] at hv
  refine K2.cN (f*8) (cs:=jD) (fK j) hv ?_
  refine Ad λp17 w18 e17 k17 u18=>⟨?_,?_⟩
  ·have hh: ∀i,i<8→w18.cell? (Addr.add (Addr.add ⟨c,0,none⟩ (f*8)) i)=some ((w4.drew.cell? (Addr.add (Addr.add ⟨c,0,none⟩ (f*8)) i)).getD undef):=λi hi=>K2.X3 u18 (λx=>x) (f*8) i (by rw[hl];omega)
   exact⟨hh 0 (by decide),hh 1 (by decide),hh 2 (by decide),hh 3 (by decide),hh 4 (by decide),hh 5 (by decide),hh 6 (by decide),hh 7 (by decide),K1.hold u18 (λx=>x) 1 (by simp),K1.hold u18 (λx=>x) 0 (by simp),trivial⟩
  have s18:w4.drew.heap.size=w4.heap.size:=rfl
  refine k17.Fg (encs jD (fK j)) rfl rfl λw19 k19 u19=>⟨trivial,?_⟩
  have f19:Af w4 w19:=(Af.drew w4).trans (Af.fresh (Af.refl _) u18 u19 e17)
  have n17:p17≠b∧p17≠c∧p17≠p1∧p17≠p3:=by omega
  have B1:=(k1.Ai f19).drew
  have B2:=(k2.Ai f19).drew
  have P3:=(kp3.Ai f19).drew
  have P1:=(q1.Ai f19).drew
  have P17:=k19.drew
  rw[Be,Ac]
  refine B1.c0 (c:=.sl) (x:=(some ⟨c,0,none⟩,16,16)) rfl ?_
  rw[Ac]
  refine B1.c1 1 (c:=KI) (x:=(f:Int)) rfl (P3.cA (cs:=jD) (fK ev0) rfl ?_)
  show Ny (some ⟨c,0,none⟩) 16 (f:Int) _
  rw[Tq (by omega),Int.toNat_natCast]
  refine B2.sN (f*8) (encs jD (fK ev0)) (by rw[hl,Ak];show _+8≤_;omega) (vM ev0) λw27 k27 u27=>⟨trivial,?_⟩
  have C1:=(B1.upd u27 hbc).drew
  rw[Be,Ac]
  refine C1.c1 1 (c:=KI) (x:=(f:Int)) rfl ?_
  rw[Ac]
  refine C1.c0 (c:=.sl) (x:=(some ⟨c,0,none⟩,16,16)) rfl ?_
  rw[Pg (show(((16:Nat):Nat):Int)≠0 by decide),Ac]
  have ew:Int.tmod (wrap .i64 ((f:Int)+1)) ((16:Nat):Int)=(((f+1)%16:Nat):Int):=by
   rw[Ah (by unfold I64;omega),show(f:Int)+1=((f+1:Nat):Int) by omega,fZ]
  refine C1.sN 1 [_] (by simp) rfl λw34 k34 u34=>⟨trivial,?_⟩
  change Az w34 b [.slice (some ⟨c,0,none⟩) 16 16,iV (Int.tmod (wrap .i64 ((f:Int)+1)) ((16:Nat):Int)),iV ((t.length+1:Nat):Int)] at k34
  rw[ew] at k34
  rw[Ac]
  refine k34.c1 2 (c:=KI) (x:=((t.length+1:Nat):Int)) rfl ?_
  rw[Ac]
  have el:wrap .i64 (((t.length+1:Nat):Int)-1)=(t.length:Int):=by rw[Ah (by unfold I64;omega)];omega
  refine k34.sN 2 [_] (by simp) rfl λw38 k38 u38=>?_
  have U38:Am (λz=>z=b∨z=c) w19 w38:=by
   have a1:Am (λz=>z=b∨z=c) w19 w27:=Am.trans (Am.Bj (Af.drew w19)) (u27.mono λz hz=>.inr hz) λ_ _ x=>x
   have a2:Am (λz=>z=b∨z=c) w19 w34:=Am.trans (a1.Ai (Af.drew w27)) (u34.mono λz hz=>.inl hz) λ_ _ x=>x
   exact Am.trans a2 u38 λz _ hz=>.inl hz
  refine(k19.upd U38 (by omega)).cA (cs:=jD) (fK j) rfl (((q1.Ai f19).upd U38 (by omega)).Fg (encs jD (fK j)) rfl rfl λw40 k40 u40=>k40.cA (cs:=jD) (fK j) rfl (h1 w40 ?_ ?_))
  ·change Az w38 b [.slice (some ⟨c,0,none⟩) 16 16,iV (((f+1)%16:Nat):Int),iV (wrap .i64 (((t.length+1:Nat):Int)-1))] at k38
   rw[el] at k38
   have k27':Az w38 c (splice rows (f*8) (encs jD (fK ev0))):=(k27.drew.upd u34 λe=>hbc e.symm).upd u38 λe=>hbc e.symm
   exact yS (L:=yC t) (r:=encs jD (fK j)) (z:=encs jD (fK ev0)) hl hf (by simp only[List.length_cons,List.length_map];exact hlen) rfl hg hrow (by rw[List.length_map];exact k38.upd u40 (by omega)) (k27'.upd u40 (by omega))
  ·exact Am.new (Am.trans (Am.Bj (g4.trans f19)) U38 λ_ _ x=>x) u40 λh=>by omega
abbrev Apg:List (Bool×List CK):=[(false,[KI]),(false,[KI])]
abbrev vA5(a:A5):Value:=.agg #[iV a.1,iV a.2.1,iV a.2.2.1,uV a.2.2.2.1,iV a.2.2.2.2]
theorem Qk.cL{g b c:Nat}{js:List Ev}{last loc:Int}{s:ByteArray}{a:A5}(hs:s.size≤1000000)(hbc:b≠c)(hgb:g≠b)(hgc:g≠c){w:World}(hR:Z7 w b c 8 16 (yC js))(hB:Az w g [pB b,iV last]){k:TR Apg→WP}
  (h1:jV s=false→ ∀w',Af w w'→k ((0,()),(1,()),()) w') (h6:jV s=true→js.length≥16→ ∀w',Af w w'→k ((0,()),(6,()),()) w')
  (h:jV s=true→js.length<16→ ∀w',Z7 w' b c 8 16 (yC (js++[⟨wrap .i64 (last+1),s,loc,a⟩]))→Az w' g [pB b,iV (wrap .i64 (last+1))]→Am (λz=>z=g∨z=b∨z=c) w w'→k ((wrap .i64 (last+1),()),(0,()),()) w'):
  Ae prog F.Qk [.pointer (some ⟨g,0,none⟩),.string s,iV loc,vA5 a] w true Apg k:=by
 refine Qk.ok (when0:=a.1) (when1:=a.2.1) (when2:=a.2.2.1) (when3:=a.2.2.2.1) (when4:=a.2.2.2.2) ?_
 unfold Qk.wp
 refine Ad λp1 w2 e1 k1 u1=>Jl rfl (Vo.cl hs λw4 u4=>Ee (λc1=>h1 c1 w4 (u1.trans u4)) λc1=>?_)
 have c1:jV s=true:=c1
 have g4:=u1.trans u4
 have lg:=hB.lt
 have lbc:=hR.lt
 have B5:=(hB.Ai g4).drew
 have R5:=(hR.Ai g4).Ai (Af.drew w4)
 have P5:=(k1.Ai u4).drew
 have g5:=g4.trans (Af.drew w4)
 rw[Be,Ac]
 refine B5.c0 (c:=.p) (x:=some ⟨b,0,none⟩) rfl ?_
 rw[Ac]
 refine B5.c1 1 (c:=KI) (x:=last) rfl (P5.cA (cs:=K5) (Yc a) rfl ?_)
 generalize w4.drew=w5 at*
 have hold: ∀{S:NP} {w':World},Am S w5 w'→ ¬S p1→ ¬S g→A7 [(11,Addr.add ⟨p1,0,none⟩ 0,(w5.cell? (Addr.add ⟨p1,0,none⟩ 0)).getD undef),(11,Addr.add ⟨p1,0,none⟩ 1,(w5.cell? (Addr.add ⟨p1,0,none⟩ 1)).getD undef),(11,Addr.add ⟨p1,0,none⟩ 2,(w5.cell? (Addr.add ⟨p1,0,none⟩ 2)).getD undef),(11,Addr.add ⟨p1,0,none⟩ 3,(w5.cell? (Addr.add ⟨p1,0,none⟩ 3)).getD undef),(11,Addr.add ⟨p1,0,none⟩ 4,(w5.cell? (Addr.add ⟨p1,0,none⟩ 4)).getD undef),(7,Addr.add ⟨g,0,none⟩ 1,(w5.cell? (Addr.add ⟨g,0,none⟩ 1)).getD undef)] w':=λu n1 n2=>
  ⟨P5.hold u n1 0 (by simp),P5.hold u n1 1 (by simp),P5.hold u n1 2 (by simp),P5.hold u n1 3 (by simp),P5.hold u n1 4 (by simp),B5.hold u n2 1 (by simp),trivial⟩
 refine Dz.cL (j:=⟨wrap .i64 (last+1),s,loc,a⟩) hbc R5 (λhf w12 u12=>⟨?_,Vt rfl (h6 c1 hf w12 (g5.trans u12))⟩) λhf w12 R12 u12=>⟨?_,Jl rfl ?_⟩
 ·obtain⟨q0,q1,q2,q3,q4,q5,_⟩:=hold u12 (λx=>x) λx=>x
  exact⟨q0,q1,q2,q3,q4,q5,trivial⟩
 ·obtain⟨q0,q1,q2,q3,q4,q5,_⟩:=hold u12 (by omega) (by omega)
  exact⟨q0,q1,q2,q3,q4,q5,trivial⟩
 ·have B12:=B5.upd u12 (by omega)
  rw[Ac]
  refine B12.c1 1 (c:=KI) (x:=last) rfl ?_
  rw[Ac]
  refine B12.sN 1 [_] (by simp) rfl λw16 k16 u16=>?_
  change Az w16 g [pB b,iV (wrap .i64 (last+1))] at k16
  rw[Ac]
  refine k16.c1 1 (c:=KI) (x:=wrap .i64 (last+1)) rfl (h c1 hf w16 (R12.upd u16 (λe=>hgb e.symm) λe=>hgc e.symm) k16 ?_)
  exact Am.trans (Am.trans (Am.Bj g5) (u12.mono λz hz=>.inr hz) λ_ _ x=>x) u16 λz _ hz=>.inl hz
theorem Ou.cL{g b c:Nat}{js:List Ev}{last:Int}(hbc:b≠c){w:World}(hR:Z7 w b c 8 16 (yC js))(hB:Az w g [pB b,iV last]){k:TR REB→WP}
  (h0:js=[]→ ∀w',Af w w'→k (fK ev0,(false,()),()) w') (h1: ∀j t,js=j::t→ ∀w',Z7 w' b c 8 16 (yC t)→Am (λz=>z=b∨z=c) w w'→k (fK j,(true,()),()) w'):Ae prog F.Ou [.pointer (some ⟨g,0,none⟩)] w true REB k:=by
 refine Ou.ok ?_
 unfold Ou.wp
 have lbc:=hR.lt
 refine Ad λp1 w2 e1 k1 u1=>Jl rfl ?_
 rw[Ac]
 refine(hB.Ai u1).c0 (c:=.p) (x:=some ⟨b,0,none⟩) rfl (Eb.cL hbc (hR.Ai u1) (λe w8 u8=>?_) λj t e w8 R8 u8=>?_)
 ·exact(k1.Ai u8).Fg (encs jD (fK ev0)) rfl rfl λw9 k9 u9=>k9.cA (cs:=jD) (fK ev0) rfl (h0 e w9 (Am.new (Am.Bj (u1.trans u8)) u9 λh=>by omega))
 ·refine(k1.upd u8 (by omega)).Fg (encs jD (fK j)) rfl rfl λw9 k9 u9=>k9.cA (cs:=jD) (fK j) rfl (h1 j t e w9 (R8.upd u9 (by omega) (by omega)) ?_)
  exact Am.new (Am.trans (Am.Bj u1) u8 λ_ _ x=>x) u9 λh=>by omega
theorem Az.cN2{w:World}{b:Nat}{vs:List Value}(h:Az w b vs)(o p:Nat){cs:List CK}(x:Jf cs)(e:(vs.drop (o+p)).take cs.length=encs cs x){k:Jf cs→Prop}(hk:k x):Eng.A8 cs (Addr.add (Addr.add ⟨b,0,none⟩ o) p) 0 w k:=by
 rw[add_add];exact h.cN (o+p) x e hk
theorem Az.c3{w:World}{b:Nat}{cs:List Value}(h:Az w b cs)(o p q:Nat){c:CK}{x:Tv c}(e:cs[o+p+q]? =some (enc c x)){k:Tv c→Prop}(hk:k x):ld1 c (Addr.add (Addr.add (Addr.add ⟨b,0,none⟩ o) p) q) w k:=by
 rw[add_add,add_add,show o+(p+q)=o+p+q by omega];exact h.c1 (o+p+q) e hk
theorem Az.Al0{S:NP}{w w':World}{b:Nat}{cs:List Value}(h:Az w b cs)(u:Am S w w')(hS: ¬S b)(o p i:Nat)(hi:o+p+i<cs.length):
  w'.cell? (Addr.add (Addr.add (Addr.add ⟨b,0,none⟩ o) p) i)=some ((w.cell? (Addr.add (Addr.add (Addr.add ⟨b,0,none⟩ o) p) i)).getD undef):=by
 rw[add_add,add_add];exact h.hold u hS (o+(p+i)) (by omega)
theorem Az.sM2{w:World}{b:Nat}{cs:List Value}(h:Az w b cs)(o p:Nat)(vs:List Value)(hi:o+p+vs.length≤cs.length)(hv:vs.all okc=true){k:WP}
  (hk: ∀w',Az w' b (splice cs (o+p) vs)→Am (λx=>x=b) w w'→k w'):Au vs (Addr.add (Addr.add ⟨b,0,none⟩ o) p) 0 w k:=by
 rw[add_add];exact h.sN (o+p) vs (by omega) hv hk
theorem Js.in{b o:Nat}{cs:List Value}{w:World}(hB:Az w b cs)(ho:o+7≤cs.length){k:TR []→WP}(h: ∀w',Az w' b (splice cs o (bk false (0,0,0,0,0,0)))→Am (λz=>z=b) w w'→k () w'):Ae prog F.Js [.pointer (some (Addr.add ⟨b,0,none⟩ o))] w true [] k:=by
 refine Js.ok ?_
 unfold Js.wp
 refine Vt rfl ?_
 rw[Ac]
 exact hB.sN o _ (by simpa using ho) rfl λw2 k2 u2=>h w2 k2 u2
theorem Q8(N:NB)(bf:Nat)(d:Nd):(ndC N bf d).length=28:=rfl
abbrev Aox:List (Bool×List CK):=[(true,K6),(false,[.b])]
theorem Nc.in{N:NB}{bf:Nat}{d:Nd}{w:World}(hB:Az w (N 0) (ndC N bf d)){k:TR Aox→WP}(hk: ∀w',Af w w'→k (t6 d.ba,(d.bh,()),()) w'):Ae prog F.Nc [.pointer (some (Addr.add ⟨N 0,0,none⟩ 19))] w true Aox k:=by
 refine Nc.ok ?_
 unfold Nc.wp
 refine Ad λp1 w2 e1 k1 u1=>Jl rfl ?_
 rw[Be,Ac]
 have B:=(hB.Ai u1).drew
 have lb:=hB.lt
 refine Az.cN2 B 19 1 (cs:=K6) (t6 d.ba) rfl ?_
 rw[Ac]
 refine B.c1 19 (c:=.b) (x:=d.bh) rfl (k1.drew.Fg (a6 d.ba) rfl rfl λw10 k10 u10=>⟨⟨B.hold u10 (by omega) 19 (by rw[Q8];decide),trivial⟩,?_⟩)
 exact k10.cA (cs:=K6) (t6 d.ba) rfl (hk w10 (Af.fresh (Af.refl _) (u1.trans (Af.drew w2)) u10 e1))
theorem Gh.in{N:NB}{bf:Nat}{d:Nd}{a:A6}{w:World}(hB:Az w (N 0) (ndC N bf d)){k:TR Wh→WP}
  (h0:Zi d.bh d.ba a=false→ ∀w',Af w w'→k ((false,()),()) w')
  (h1:Zi d.bh d.ba a=true→ ∀w',Az w' (N 0) (ndC N bf {d with bh:=true,ba:=a})→Am (λz=>z=N 0) w w'→k ((true,()),()) w'):
  Ae prog F.Gh [.pointer (some (Addr.add ⟨N 0,0,none⟩ 19)),.agg #[iV a.1,uV a.2.1,iV a.2.2.1,uV a.2.2.2.1,iV a.2.2.2.2.1,iV a.2.2.2.2.2]] w false Wh k:=by
 refine Gh.ok (a0:=a.1) (a1:=a.2.1) (a2:=a.2.2.1) (a3:=a.2.2.2.1) (a4:=a.2.2.2.2.1) (a5:=a.2.2.2.2.2) ?_
 unfold Gh.wp
 have lb:=hB.lt
 refine Ad λp1 w2 e1 k1 u1=>?_
 change Az w2 p1 (a6 a) at k1
 refine Cc.by (λ_ w'=>Af w w'∧Az w' p1 (a6 a)∧Zi d.bh d.ba a=true) ?_ ?_
 ·rw[Be]
  have k3:=k1.drew
  have g3:=u1.trans (Af.drew w2)
  generalize w2.drew=w6 at*
  refine Jl rfl (k3.cA (cs:=K6) (t6 a) rfl (dO (x:=a) λw9 u9=>⟨⟨k3.hold u9 (λx=>x) 0 (by simp[a6]),k3.hold u9 (λx=>x) 1 (by simp[a6]),k3.hold u9 (λx=>x) 2 (by simp[a6]),k3.hold u9 (λx=>x) 3 (by simp[a6]),k3.hold u9 (λx=>x) 4 (by simp[a6]),k3.hold u9 (λx=>x) 5 (by simp[a6]),trivial⟩,?_⟩))
  have g9:=g3.trans u9
  have B9:=hB.Ai g9
  have k9:=k3.Ai u9
  refine Ee (λc=>h0 (by unfold Zi;have c:okF (mG a)=false:=c;rw[c];rfl) w9 g9) λc=>?_
  have c:okF (mG a)=true:=c
  rw[Ac]
  refine B9.c1 19 (c:=.b) (x:=d.bh) rfl (bM (λch=>?_) λch=>⟨g9,k9,?_⟩)
  ·have ch:d.bh=true:=ch
   refine k9.c1 1 (c:=KU) (x:=a.2.1) rfl ?_
   rw[Ac]
   refine Az.c3 B9 19 1 1 (c:=KU) (x:=d.ba.2.1) rfl (Pz.cl ⟨⟨B9.hold (Af.refl _) (λx=>x) 19 (by rw[Q8];decide),k3.hold u9 (λx=>x) 0 (by simp[a6]),k3.hold u9 (λx=>x) 1 (by simp[a6]),k3.hold u9 (λx=>x) 2 (by simp[a6]),k3.hold u9 (λx=>x) 3 (by simp[a6]),k3.hold u9 (λx=>x) 4 (by simp[a6]),k3.hold u9 (λx=>x) 5 (by simp[a6]),trivial⟩,?_⟩)
   refine Ee (λcn=>h0 ?_ w9 g9) λcn=>⟨g9,k9,?_⟩
   ·have cn:tC a.2.1 d.ba.2.1=false:=cn
    unfold Zi;rw[c,ch,cn];rfl
   ·have cn:tC a.2.1 d.ba.2.1=true:=cn
    unfold Zi;rw[c,ch,cn];rfl
  ·have ch:d.bh=false:=ch
   unfold Zi;rw[c,ch];rfl
 ·rintro _ w5 ⟨g,k5,hg⟩ _
  rw[Be]
  have B5:=(hB.Ai g).drew
  have k6:=k5.drew
  have g5:=g.trans (Af.drew w5)
  generalize w5.drew=w6 at*
  refine k6.cA (cs:=K6) (t6 a) rfl ?_
  rw[Ac]
  have hne:p1≠N 0:=by omega
  refine B5.sN 19 [.bool true] (by rw[Q8];decide) rfl λw20 k20 u20=>⟨⟨k6.hold u20 hne 0 (by simp[a6]),k6.hold u20 hne 1 (by simp[a6]),k6.hold u20 hne 2 (by simp[a6]),k6.hold u20 hne 3 (by simp[a6]),k6.hold u20 hne 4 (by simp[a6]),k6.hold u20 hne 5 (by simp[a6]),trivial⟩,?_⟩
  rw[Ac]
  exact Az.sM2 k20 19 1 (a6 a) (by rw[I8,Q8];simp[a6]) rfl λw22 k22 u22=>⟨trivial,h1 hg w22 k22 (Am.trans (Am.trans (Am.Bj g5) u20 λ_ _ x=>x) u22 λ_ _ x=>x)⟩
abbrev Ao0:List (Bool×List CK):=[(true,K6),(false,[KI])]
theorem Et.in{N:NB}{bf:Nat}{d:Nd}{me tai:Int}{t:A5}{a:A6}(ea:a=(me,wrap .u16 (d.ba.2.1+1),t.2.2.1,t.2.2.2.1,t.1,tai)){w:World}(hB:Az w (N 0) (ndC N bf d)){k:TR Ao0→WP}
  (h0:okF (mG a)=false→ ∀w',Af w w'→k (t6 (0,0,0,0,0,0),(1,()),()) w')
  (h1:okF (mG a)=true→ ∀w',Az w' (N 0) (ndC N bf {d with bh:=true,ba:=a})→Am (λz=>z=N 0) w w'→k (t6 a,(0,()),()) w'):
  Ae prog F.Et [.pointer (some (Addr.add ⟨N 0,0,none⟩ 19)),iV me,vA5 t,iV tai] w true Ao0 k:=by
 refine Et.ok (t0:=t.1) (t1:=t.2.1) (t2:=t.2.2.1) (t3:=t.2.2.2.1) (t4:=t.2.2.2.2) ?_
 unfold Et.wp
 have lb:=hB.lt
 refine Ad λp1 w2 e1 k1 u1=>Ad λp3 w4 e3 k3 u3=>Jl rfl ?_
 have l1:=k1.lt
 have l3:=k3.lt
 have g4:=u1.trans u3
 have q1:=(k1.Ai u3).drew
 have B4:=(hB.Ai g4).drew
 have gd:=Af.drew w4
 have sd:w4.drew.heap.size=w4.heap.size:=rfl
 have n:N 0<p1∧p1<p3:=by omega
 refine Cc.by (λz w'=>Af w4 w'∧ ∃pb,z=(⟨pb,0,none⟩,())∧w4.heap.size≤pb∧Az w' pb (a6 a)) ?_ ?_
 ·rw[Be,Ac]
  generalize w4.drew=w10 at*
  refine Az.c3 B4 19 1 1 (c:=KU) (x:=d.ba.2.1) rfl (q1.c1 2 (c:=KI) (x:=t.2.2.1) rfl (q1.c2 2 1 (c:=KU) (x:=t.2.2.2.1) rfl (q1.c0 (c:=KI) (x:=t.1) rfl ⟨?_,?_⟩)))
  ·have HH: ∀{w':World},Af w10 w'→_∧_∧_∧_:=λ{w'} u=>⟨q1.hold u (λx=>x) 0 (by simp),q1.X3 u (λx=>x) 2 1 (by simp),q1.hold u (λx=>x) 2 (by simp),Az.Al0 B4 u (λx=>x) 19 1 1 (by rw[Q8];decide)⟩
   refine Qu.cl ⟨⟨(HH (Af.refl _)).1,(HH (Af.refl _)).2.1,(HH (Af.refl _)).2.2.1,(HH (Af.refl _)).2.2.2,trivial⟩,?_⟩
   refine Ad λp18 w19 e18 k18 u18=>⟨⟨(HH u18).1,(HH u18).2.1,(HH u18).2.2.1,(HH u18).2.2.2,trivial⟩,?_⟩
   subst ea
   refine k18.Fg _ rfl rfl λw20 k20 u20=>⟨trivial,gd.trans (Af.fresh (Af.refl _) u18 u20 e18),p18,rfl,by omega,k20⟩
  ·refine Ad λp18 w19 e18 k18 u18=>⟨⟨q1.hold u18 (λx=>x) 0 (by simp),q1.X3 u18 (λx=>x) 2 1 (by simp),q1.hold u18 (λx=>x) 2 (by simp),Az.Al0 B4 u18 (λx=>x) 19 1 1 (by rw[Q8];decide),trivial⟩,?_⟩
   refine Qu.cl ⟨⟨q1.hold u18 (λx=>x) 0 (by simp),q1.X3 u18 (λx=>x) 2 1 (by simp),q1.hold u18 (λx=>x) 2 (by simp),trivial⟩,?_⟩
   subst ea
   refine k18.Fg _ rfl rfl λw20 k20 u20=>⟨trivial,gd.trans (Af.fresh (Af.refl _) u18 u20 e18),p18,rfl,by omega,k20⟩
 ·rintro z w9 ⟨f9,pb,rfl,hpb,kb⟩ _
  refine kb.cA (cs:=K6) (t6 a) rfl (dO (x:=a) λw28 u28=>Ee (λc=>?_) λc=>?_)
  ·have c:okF (mG a)=false:=c
   have f28:=f9.trans u28
   exact(k3.Ai f28).Fg (a6 (0,0,0,0,0,0)) rfl rfl λw29 k29 u29=>k29.cA (cs:=K6) (t6 (0,0,0,0,0,0)) rfl (h0 c w29 (Am.new (Am.Bj (g4.trans f28)) u29 λh=>by have:=u1.size;omega))
  ·have c:okF (mG a)=true:=c
   rw[Be]
   have f28:=(f9.trans u28).trans (Af.drew w28)
   have kb2:=(kb.Ai u28).drew
   generalize w28.drew=w31 at*
   have B2:=hB.Ai (g4.trans f28)
   refine kb2.cA (cs:=K6) (t6 a) rfl ?_
   rw[Ac]
   refine B2.sN 19 [.bool true] (by rw[Q8];decide) rfl λw34 k34 u34=>⟨⟨kb2.hold u34 (by omega) 0 (by simp[a6]),kb2.hold u34 (by omega) 1 (by simp[a6]),kb2.hold u34 (by omega) 2 (by simp[a6]),kb2.hold u34 (by omega) 3 (by simp[a6]),kb2.hold u34 (by omega) 4 (by simp[a6]),kb2.hold u34 (by omega) 5 (by simp[a6]),trivial⟩,?_⟩
   rw[Ac]
   refine Az.sM2 k34 19 1 (a6 a) (by rw[I8,Q8];simp[a6]) rfl λw36 k36 u36=>⟨trivial,?_⟩
   have U36:Am (λz=>z=N 0) w31 w36:=Am.trans u34 u36 λ_ _ x=>x
   refine(kb2.upd U36 (by omega)).cA (cs:=K6) (t6 a) rfl (((k3.Ai f28).upd U36 (by omega)).Fg (a6 a) rfl rfl λw38 k38 u38=>k38.cA (cs:=K6) (t6 a) rfl (h1 c w38 (k36.upd u38 (by omega)) ?_))
   exact Am.new (Am.trans (Am.Bj (g4.trans f28)) U36 λ_ _ x=>x) u38 λh=>by have:=u1.size;omega
def ndL(s:nS)(lp:Option Addr)(on:Bool)(boot:Int)(c f l p q:Value)(bh:Bool)(ba:A6)(g j:Value):List Value:=kD s++[.pointer lp,.bool on,uV boot,c,f,l,p,q]++bk bh ba++[g,j]
theorem qX{L:List Nat}{i:Nat}(h:i<L.length):L.getD i 0=L[i]:=by simp[List.getD,h]
theorem uY{L:List Nat}(h:L.Nodup){i j:Nat}(hi:i<L.length)(hj:j<L.length)(e:L.getD i 0=L.getD j 0):i=j:=by
 rw[qX hi,qX hj] at e
 exact(List.getElem_inj h).1 e
theorem Uz.cl{s:nS}{lp:Option Addr}{w:World}{k:TR RPI→WP}(h0:Yj s=false→ ∀w',Af w w'→k ((none,()),(1,()),()) w')
  (h:Yj s=true→ ∀O N bf be w',NW w' O N bf be (nd0 s lp)→(∀z,NO N O z→w.heap.size≤z)→Af w w'→k ((some ⟨N 0,0,none⟩,()),(0,()),()) w'):Ae prog F.Uz [.agg (kD s).toArray,.pointer lp] w true RPI k:=by
 refine Uz.ok ?_
 unfold Uz.wp
 refine Ad λp1 w2 e1 k1 u1=>?_
 change Az w2 p1 (kD s) at k1
 refine k1.cA (cs:=KSt) (stT s) rfl (Nq.cl (s:=s) λw5 u5=>Ee (λc=>h0 c w5 (u1.trans u5)) λc=>?_)
 have c:Yj s=true:=c
 have h:=h c
 obtain⟨m0,m1,gf,gp,l1,l2,j1,j2⟩:=Uj.1 c
 have gf':=Ya.1 gf
 have ge':=lF.1 gf'.1
 have g5:=u1.trans u5
 rw[Be]
 have K5:=(k1.Ai u5).drew
 have hold: ∀{w':World},Af w5.drew w'→ ∀j,j<11→w'.cell? (Addr.add ⟨p1,0,none⟩ j)=some ((w5.drew.cell? (Addr.add ⟨p1,0,none⟩ j)).getD undef):=λu j hj=>K5.hold u (λx=>x) j (by simpa [kD] using hj)
 refine K5.cA (cs:=KSt) (stT s) rfl (Wl.cL λg gr gc w9 b1 b2 b3 hR hg u9=>⟨⟨hold u9 0 (by decide),hold u9 1 (by decide),hold u9 2 (by decide),hold u9 3 (by decide),hold u9 4 (by decide),hold u9 5 (by decide),hold u9 6 (by decide),hold u9 7 (by decide),hold u9 8 (by decide),hold u9 9 (by decide),hold u9 10 (by decide),trivial⟩,?_⟩)
 refine Ad λn w11 e11 k11 u11=>?_
 have u11':=u9.trans u11
 refine⟨⟨hold u11' 0 (by decide),hold u11' 1 (by decide),hold u11' 2 (by decide),hold u11' 3 (by decide),hold u11' 4 (by decide),hold u11' 5 (by decide),hold u11' 6 (by decide),hold u11' 7 (by decide),hold u11' 8 (by decide),hold u11' 9 (by decide),hold u11' 10 (by decide),trivial⟩,?_⟩
 have lg:=hg.lt
 have K11:=K5.Ai u11'
 have lp1:p1<n:=by have:=(K5.Ai u9).lt;omega
 change Az w11 n (ndL s lp false 0 (.pointer none) (.pointer none) (.pointer none) (.pointer none) (.pointer none) false a60 (pB g) (.pointer none)) at k11
 refine K11.c2 1 3 (c:=KI) (x:=s.Aw) rfl (Xz.cl (by omega) (by omega) λc w14 e14 k14 u14=>?_)
 have lc:=k11.lt
 refine(k11.Ai u14).sN 14 [_] (by simp[ndL,kD,bk,a6]) rfl λw15 k15 u15=>?_
 change Az w15 n (ndL s lp false 0 (pB c) (.pointer none) (.pointer none) (.pointer none) (.pointer none) false a60 (pB g) (.pointer none)) at k15
 have K15:=(K11.Ai u14).upd u15 (by omega)
 have kc:=k14.upd u15 (by omega)
 refine K15.c0 (c:=KI) (x:=s.me) rfl (K15.cN 1 (cs:=K4i) (s.tmo,s.ign,s.need,s.Aw,()) rfl (Ui.cw (λhn=>absurd gf (by rcases hn with hn|hn|hn;omega;omega;rw[hn];decide)) λ_ _ _ O bf be w19 hF hO u19=>?_))
 have lcc:=kc.lt
 have k19:=k15.Ai u19
 have sz15:=u15.size
 have sz14:=u14.size
 refine k19.sN 15 [_] (by simp[ndL,kD,bk,a6]) rfl λw20 k20 u20=>?_
 change Az w20 n (ndL s lp false 0 (pB c) (pB bf) (.pointer none) (.pointer none) (.pointer none) false a60 (pB g) (.pointer none)) at k20
 have nO: ¬O n:=λhz=>by have:=hO n hz;omega
 have hF20:=hF.upd u20 λz hz e=>nO (e▸hz)
 have K20:=(K15.Ai u19).upd u20 (by omega)
 have kc20:=(kc.Ai u19).upd u20 (by omega)
 refine K20.c0 (c:=KI) (x:=s.me) rfl (Wp.cl m0 m1 λl w23 e23 k23 u23=>?_)
 have ln:=k20.lt
 refine(k20.Ai u23).sN 16 [_] (by simp[ndL,kD,bk,a6]) rfl λw24 k24 u24=>?_
 change Az w24 n (ndL s lp false 0 (pB c) (pB bf) (pB l) (.pointer none) (.pointer none) false a60 (pB g) (.pointer none)) at k24
 have hF24:=(hF20.Ai u23).upd u24 λz hz e=>nO (e▸hz)
 have K24:=(K20.Ai u23).upd u24 (by omega)
 have kc24:=(kc20.Ai u23).upd u24 (by omega)
 have kl24:=k23.upd u24 (by omega)
 have lc20:=kc20.lt
 refine K24.c0 (c:=KI) (x:=s.me) rfl (Xq.cl m0 m1 λp w27 e27 k27 u27=>?_)
 have ll24:=kl24.lt
 refine(k24.Ai u27).sN 17 [_] (by simp[ndL,kD,bk,a6]) rfl λw28 k28 u28=>?_
 change Az w28 n (ndL s lp false 0 (pB c) (pB bf) (pB l) (pB p) (.pointer none) false a60 (pB g) (.pointer none)) at k28
 have hF28:=(hF24.Ai u27).upd u28 λz hz e=>nO (e▸hz)
 have K28:=(K24.Ai u27).upd u28 (by omega)
 have kc28:=(kc24.Ai u27).upd u28 (by omega)
 have kl28:=(kl24.Ai u27).upd u28 (by omega)
 have kp28:=k27.upd u28 (by omega)
 refine K28.c1 8 (c:=KI) (x:=s.lim) rfl (Vm.cl (λhn=>by omega) λ_ _ q w31 e31 k31 u31=>?_)
 have lp28:=kp28.lt
 refine(k28.Ai u31).sN 18 [_] (by simp[ndL,kD,bk,a6]) rfl λw32 k32 u32=>?_
 change Az w32 n (ndL s lp false 0 (pB c) (pB bf) (pB l) (pB p) (pB q) false a60 (pB g) (.pointer none)) at k32
 have hF32:=(hF28.Ai u31).upd u32 λz hz e=>nO (e▸hz)
 have kc32:=(kc28.Ai u31).upd u32 (by omega)
 have kl32:=(kl28.Ai u31).upd u32 (by omega)
 have kp32:=(kp28.Ai u31).upd u32 (by omega)
 have kq32:=k31.upd u32 (by omega)
 refine Jc.cL λj jc w34 f1 f2 hJ u34=>?_
 have lq32:=kq32.lt
 refine(k32.Ai u34).sN 27 [_] (by simp[ndL,kD,bk,a6]) rfl λw35 k35 u35=>?_
 change Az w35 n (ndL s lp false 0 (pB c) (pB bf) (pB l) (pB p) (pB q) false a60 (pB g) (pB j)) at k35
 have hF35:=(hF32.Ai u34).upd u35 λz hz e=>nO (e▸hz)
 have kc35:=(kc32.Ai u34).upd u35 (by omega)
 have kl35:=(kl32.Ai u34).upd u35 (by omega)
 have kp35:=(kp32.Ai u34).upd u35 (by omega)
 have kq35:=(kq32.Ai u34).upd u35 (by omega)
 have hJ35:=hJ.upd u35 (by omega) (by omega)
 have ln11:=k11.lt
 have G:Am (λz=>z=n) w9 w35:=by
  have a0:Am (λz=>z=n) w9 w15:=Am.trans (Am.Bj (u11.trans u14)) u15 λ_ _ x=>x
  have a1:Am (λz=>z=n) w9 w20:=Am.trans (a0.Ai u19) u20 λ_ _ x=>x
  have a2:Am (λz=>z=n) w9 w24:=Am.trans (a1.Ai u23) u24 λ_ _ x=>x
  have a3:Am (λz=>z=n) w9 w28:=Am.trans (a2.Ai u27) u28 λ_ _ x=>x
  have a4:Am (λz=>z=n) w9 w32:=Am.trans (a3.Ai u31) u32 λ_ _ x=>x
  exact Am.trans (a4.Ai u34) u35 λ_ _ x=>x
 have gw:Af w w35:=Am.trans ((g5.trans (Af.drew _)).trans u9) G λz hz e=>by have:=(g5.trans ((Af.drew _).trans u9)).size;omega
 have hR35:=hR.upd G (by omega) (by omega)
 have hg35:=hg.upd G (by omega)
 have sz5:=g5.size
 have szd:w5.drew.heap.size=w5.heap.size:=rfl
 have s19:=u19.size
 have s20:=u20.size
 have s23:=u23.size
 have s24:=u24.size
 have s27:=u27.size
 have s28:=u28.size
 have s31:=u31.size
 have s32:=u32.size
 have o1:gc<gr:=b2
 have o2:gr<g:=b3
 have o3:g<n:=by omega
 have o4:n<c:=by omega
 have o5:c<l:=by omega
 have o6:l<p:=by omega
 have o7:p<q:=by omega
 have o8:q<jc:=by omega
 have o9:jc<j:=f2
 have hOl: ∀z,O z→c<z∧z<l:=λz hz=>⟨by have:=hO z hz;omega,by have:=hF20.lt z hz;omega⟩
 have hnd:[n,c,l,p,q,g,gr,gc,j,jc].Nodup:=by
  simp only[List.nodup_cons,List.mem_cons,List.not_mem_nil,or_false,not_or,List.nodup_nil,not_false_eq_true,and_true]
  omega
 have hmem: ∀i,i<10→([n,c,l,p,q,g,gr,gc,j,jc].getD i 0)∈[n,c,l,p,q,g,gr,gc,j,jc]:=λi hi=>by
  rw[qX (by simpa using hi)];exact List.getElem_mem _
 refine h O (λi=>[n,c,l,p,q,g,gr,gc,j,jc].getD i 0) bf be w35 ⟨k35,kc35,hF35,kl35,kp35,kq35,hg35,hR35,hJ35,λi j hi hj e=>uY hnd (by simpa using hi) (by simpa using hj) e,?_⟩ ?_ gw
 ·intro i hi ho
  have:=hOl _ ho
  have hm:=hmem i hi
  simp only[List.mem_cons,List.not_mem_nil,or_false] at hm
  omega
 ·rintro z (⟨i,hi,rfl⟩|hz)
  ·have hm:=hmem i hi
   simp only[List.mem_cons,List.not_mem_nil,or_false] at hm
   show w.heap.size≤[n,c,l,p,q,g,gr,gc,j,jc].getD i 0
   omega
  ·have:=hOl z hz;omega
theorem NW.nx{w w':World}{O:NP}{N:NB}(i:Nat)(hi:i<10)(u:Am (λz=>z=N i) w w'):Nx (NO N O) w (NO N O) w':=⟨u.mono λz hz=>.inl ⟨i,hi,hz.symm⟩,λz hz=>.inl hz⟩
theorem NW.nxF{w w':World}{O O':NP}{N:NB}(x:Nx O w O' w'):Nx (NO N O) w (NO N O') w':=
 ⟨x.u.mono λz hz=>.inr hz,λz hz=>hz.elim (λh=>.inl (.inl h)) λh=>(x.sub z h).elim (λh=>.inl (.inr h)) .inr⟩
theorem NW.n0{w:World}{O:NP}{N:NB}{bf be:Nat}{d:Nd}(h:NW w O N bf be d){c:CK}(o:Nat){x:Tv c}(e:(ndC N bf d)[o]? =some (enc c x)){k:Tv c→Prop}(hk:k x):ld1 c (Addr.add ⟨N 0,0,none⟩ o) w k:=h.nb.c1 o e hk
theorem Cm.cl{w:World}{O:NP}{N:NB}{bf be:Nat}{d:Nd}(h:NW w O N bf be d){k:TR Si→WP}(hk:k ((if d.on=true then 0 else 10,()),()) w):Ae prog F.Cm [pB (N 0)] w false Si k:=by
 refine Cm.ok ?_
 unfold Cm.wp
 refine Jl rfl ?_
 rw[Ac]
 refine h.n0 12 (c:=.b) (x:=d.on) rfl (Ee (λc=>?_) λc=>?_)
 ·have c:d.on=false:=c
  rw[c] at hk;exact hk
 ·have c:d.on=true:=c
  rw[c] at hk;exact hk
theorem Lr.n{w:World}{O:NP}{N:NB}{bf be:Nat}{d:Nd}{t:Int}(h:NW w O N bf be d)(hG:Xn d){k:TR Si→WP}
  (hk: ∀w',NW w' O N bf be (d.go t).1→Nx (NO N O) w (NO N O) w'→k (((d.go t).2,()),()) w'):Ae prog F.Lr [pB (N 0),iV t] w false Si k:=by
 refine Lr.ok ?_
 unfold Lr.wp
 refine Cm.cl h ?_
 unfold Nd.go at hk
 by_cases hon:d.on=true
 ·rw[if_pos hon]
  rw[if_neg (by rw[hon];decide)] at hk
  obtain⟨m0,m1,gf,_⟩:=Uj.1 hG.s
  have g:=Ya.1 gf
  refine Jl rfl ?_
  rw[Ac]
  refine h.n0 14 (c:=.p) (x:=some ⟨N 1,0,none⟩) rfl (Qd.cl g.2.2.2.1 g.2.2.2.2 hG.now.1 hG.now.2 h.cb λw6 k6 u6=>hk w6 (h.set1 k6 u6) (NW.nx 1 (by decide) u6))
 ·rw[if_neg hon]
  rw[if_pos (by simpa using hon)] at hk
  exact Vt rfl (hk w h (Nx.of (Af.refl _)))
theorem Sm.n{w:World}{O:NP}{N:NB}{bf be:Nat}{d:Nd}{t:Int}(h:NW w O N bf be d)(hG:Xn d){k:TR Wh→WP}(hk:k ((oM d.s.Aw t,()),()) w):Ae prog F.Sm [pB (N 0),iV t] w false Wh k:=by
 refine Sm.ok ?_
 unfold Sm.wp
 obtain⟨m0,m1,gf,_⟩:=Uj.1 hG.s
 have g:=Ya.1 gf
 refine Vt rfl ?_
 rw[Ac]
 exact h.n0 14 (c:=.p) (x:=some ⟨N 1,0,none⟩) rfl (Iq.cl g.2.2.2.1 g.2.2.2.2 h.cb hk)
theorem Qg.n{w:World}{O:NP}{N:NB}{bf be:Nat}{d:Nd}(h:NW w O N bf be d){k:TR Si→WP}
  (hk: ∀w',NW w' O N bf be d.off.1→Nx (NO N O) w (NO N O) w'→k ((d.off.2,()),()) w'):Ae prog F.Qg [pB (N 0)] w false Si k:=by
 refine Qg.ok ?_
 unfold Qg.wp
 refine Cm.cl h ?_
 unfold Nd.off at hk
 by_cases hon:d.on=true
 ·rw[if_pos hon]
  rw[if_neg (by rw[hon];decide)] at hk
  refine Vt rfl ?_
  rw[Ac]
  refine h.nb.sN 12 [_] (by simp[ndC,kD,bk,a6]) rfl λw4 k4 u4=>hk w4 (h.set0 (on:=false) (boot:=d.boot) (bh:=d.bh) (ba:=d.ba) k4 u4) (NW.nx 0 (by decide) u4)
 ·rw[if_neg hon]
  rw[if_pos (by simpa using hon)] at hk
  exact Jl rfl (hk w h (Nx.of (Af.refl _)))
abbrev Aji:List (Bool×List CK):=[(false,[KI]),(false,[KI])]
theorem Iu.n{w:World}{O:NP}{N:NB}{bf be:Nat}{d:Nd}{j:Int}(h:NW w O N bf be d)(hG:Xn d){k:TR Aji→WP}
  (hk:k (((d.Yf j).1,()),((d.Yf j).2,()),()) w):Ae prog F.Iu [pB (N 0),iV j] w true Aji k:=by
 refine Iu.ok ?_
 unfold Iu.wp
 obtain⟨m0,m1,gf,gp,l1,l2,j1,j2⟩:=Uj.1 hG.s
 have hn:=hG.now
 refine Cm.cl h ?_
 unfold Nd.Yf at hk
 by_cases hon:d.on=true
 ·rw[if_pos hon]
  rw[if_neg (by rw[hon];decide)] at hk
  refine Jl rfl ?_
  rw[Ac]
  refine h.n0 9 (c:=KI) (x:=d.s.jit) rfl ?_
  rw[Ah (n:=0-d.s.jit) (by unfold I64;omega)]
  refine Dx (λc=>?_) λc1=>?_
  ·have c:j<0-d.s.jit:=c
   rw[if_pos (.inl (by omega))] at hk
   exact hk
  have c1: ¬j<0-d.s.jit:=c1
  rw[Ac]
  refine h.n0 9 (c:=KI) (x:=d.s.jit) rfl (Dx (λc=>?_) λc2=>?_)
  ·have c:j>d.s.jit:=c
   rw[if_pos (.inr c)] at hk
   exact hk
  have c2: ¬j>d.s.jit:=c2
  rw[if_neg (by omega)] at hk
  rw[Ac]
  refine h.n0 14 (c:=.p) (x:=some ⟨N 1,0,none⟩) rfl (Ez.cl h.cb ?_)
  dsimp only
  rw[Ah (n:=d.now+j) (by unfold I64;omega)]
  exact Qs.cl hk
 ·rw[if_neg hon]
  rw[if_pos (by simpa using hon)] at hk
  exact Vt rfl hk
theorem Ji.cl{w:World}{O:NP}{N:NB}{bf be:Nat}{d:Nd}{raw:Int}(h:NW w O N bf be d)(h0:0≤raw)(h1:raw<4294967296){k:TR Si→WP}
  (hk: ∀w' O',NW w' O' N bf be (d.turn raw)→Nx (NO N O) w (NO N O') w'→k ((0,()),()) w'):Ae prog F.Ji [pB (N 0),.int .u32 raw] w false Si k:=by
 refine Ji.ok ?_
 unfold Ji.wp
 refine Jl rfl ?_
 rw[Ac]
 refine h.nb.sN 12 [_] (by simp[ndC,kD,bk,a6]) rfl λw2 k2 u2=>?_
 have H2:=h.set0 (on:=true) (boot:=d.boot) (bh:=d.bh) (ba:=d.ba) k2 u2
 have X2:Nx (NO N O) w (NO N O) w2:=NW.nx 0 (by decide) u2
 rw[Ac]
 refine H2.n0 13 (c:=KU) (x:=d.boot) rfl ?_
 rw[Ac]
 refine H2.nb.sN 13 [_] (by simp[ndC,kD,bk,a6]) rfl λw6 k6 u6=>?_
 have H6:=H2.set0 (on:=true) (boot:=wrap .u16 (d.boot+1)) (bh:=d.bh) (ba:=d.ba) k6 u6
 have X6:=X2.trans (NW.nx (O:=O) 0 (by decide) u6)
 rw[Ac]
 refine H6.n0 14 (c:=.p) (x:=some ⟨N 1,0,none⟩) rfl (Nr.cl h0 h1 H6.cb λw10 k10 u10=>?_)
 have H10:=H6.set1 (now:=raw) k10 u10
 have X10:=X6.trans (NW.nx (O:=O) 1 (by decide) u10)
 rw[Be,Ac]
 have H11:=H10.drew
 refine H11.n0 15 (c:=.p) (x:=some ⟨bf,0,none⟩) rfl ?_
 rw[Ac]
 refine H11.n0 13 (c:=KU) (x:=wrap .u16 (d.boot+1)) rfl (Lh.cw H11.fw λw17 O17 F17 x17=>⟨trivial,?_⟩)
 have H17:=H11.Aeo F17 x17
 have X17:=(X10.Ai (Af.drew _)).trans (NW.nxF (N:=N) x17)
 rw[Ac]
 refine H17.n0 16 (c:=.p) (x:=some ⟨N 2,0,none⟩) rfl (Gf.cl H17.lb λw21 k21 u21=>?_)
 have H21:=H17.set2 (lev:= -1) (par:= -1) k21 u21
 have X21:=X17.trans (NW.nx (O:=O17) 2 (by decide) u21)
 rw[Ac]
 refine H21.n0 17 (c:=.p) (x:=some ⟨N 3,0,none⟩) rfl (Pe.cl H21.pb λw25 k25 u25=>?_)
 have H25:=H21.qN k25 u25
 have X25:=X21.trans (NW.nx (O:=O17) 3 (by decide) u25)
 rw[Ac]
 refine H25.n0 18 (c:=.p) (x:=some ⟨N 4,0,none⟩) rfl (Fe.cl H25.sb λw29 k29 u29=>?_)
 have H29:=H25.Ae2 k29 u29
 have X29:=X25.trans (NW.nx (O:=O17) 4 (by decide) u29)
 rw[Ac]
 refine Js.in H29.nb (by simp[ndC,kD,bk,a6]) λw32 k32 u32=>?_
 have H32:=H29.set0 (on:=true) (boot:=wrap .u16 (d.boot+1)) (bh:=false) (ba:=a60) k32 u32
 have X32:=X29.trans (NW.nx (O:=O17) 0 (by decide) u32)
 rw[Ac]
 refine H32.n0 26 (c:=.p) (x:=some ⟨N 5,0,none⟩) rfl (Md.cL (H32.ne 6 7) (H32.ne 5 6) (H32.ne 5 7) H32.ge H32.gb λw36 R36 k36 u36=>?_)
 have H36:=H32.Aa7 (evs:=[]) (last:=0) k36 R36 u36
 have X36:Nx (NO N O) w (NO N O17) w36:=X32.trans (NW.nx5 u36)
 rw[Ac]
 refine H36.n0 27 (c:=.p) (x:=some ⟨N 8,0,none⟩) rfl (Eh.cL (H36.ne 8 9) H36.je λw40 R40 u40=>hk w40 O17 (H36.Aky (jobs:=[]) R40 u40) (X36.trans (NW.nx8 u40)))
theorem D6.on{w:World}{O:NP}{N:NB}{bf be:Nat}{d:Nd}(h:NW w O N bf be d)(hon:d.on=true){k:TR [(true,K5),(false,[KI])]→WP}
  (hk: ∀w',Af w w'→k (Yc (d.tm d.now).1,((d.tm d.now).2,()),()) w'):Ae prog F.D6 [pB (N 0)] w true [(true,K5),(false,[KI])] k:=by
 refine D6.ok ?_
 unfold D6.wp
 refine Ad λp1 w2 e1 k1 u1=>?_
 have H2:=h.Ai u1
 refine Cm.cl H2 ?_
 rw[if_pos hon]
 refine Jl rfl ?_
 rw[Be,Ac]
 have H3:=H2.drew
 refine H3.n0 18 (c:=.p) (x:=some ⟨N 4,0,none⟩) rfl ?_
 rw[Ac]
 refine H3.n0 15 (c:=.p) (x:=some ⟨bf,0,none⟩) rfl ?_
 rw[Ac]
 refine H3.n0 14 (c:=.p) (x:=some ⟨N 1,0,none⟩) rfl (Ez.cl H3.cb ?_)
 have hl:(ndC N bf d).length=28:=rfl
 have hold: ∀{w':World},Af w2.drew w'→ ∀j,j<28→w'.cell? (Addr.add ⟨N 0,0,none⟩ j)=some ((w2.drew.cell? (Addr.add ⟨N 0,0,none⟩ j)).getD undef):=λu j hj=>H3.nb.hold u (λx=>x) j (by omega)
 refine⟨⟨hold (Af.refl _) 14 (by decide),hold (Af.refl _) 15 (by decide),hold (Af.refl _) 18 (by decide),trivial⟩,Ar.cw H3.sb H3.fw λw17 u17=>⟨⟨hold u17 14 (by decide),trivial⟩,?_⟩⟩
 refine(k1.drew.Ai u17).Fg (encs K5 (Yc (d.tm d.now).1)) rfl rfl λw18 k18 u18=>⟨trivial,?_⟩
 exact k18.cA (cs:=K5) (Yc (d.tm d.now).1) rfl (hk w18 (Af.fresh (Af.refl _) (u1.trans ((Af.drew _).trans u17)) u18 e1))
theorem D6.n{w:World}{O:NP}{N:NB}{bf be:Nat}{d:Nd}(h:NW w O N bf be d){k:TR [(true,K5),(false,[KI])]→WP}
  (hk: ∀w',Af w w'→k (Yc d.time.1,(d.time.2,()),()) w'):Ae prog F.D6 [pB (N 0)] w true [(true,K5),(false,[KI])] k:=by
 unfold Nd.time at hk
 by_cases hon:d.on=true
 ·rw[if_neg (by rw[hon];decide)] at hk
  exact D6.on h hon hk
 ·rw[if_pos (by simpa using hon)] at hk
  refine D6.ok ?_
  unfold D6.wp
  refine Ad λp1 w2 e1 k1 u1=>Cm.cl (h.Ai u1) ?_
  rw[if_neg hon]
  exact Vt rfl (k1.Fg (encs K5 (Yc (0,0,0,0,0))) rfl rfl λw5 k5 u5=>k5.cA (cs:=K5) (Yc (0,0,0,0,0)) rfl (hk w5 (Af.fresh (Af.refl _) u1 u5 e1)))
abbrev dL:List CK:=[.b,KU,KI,KI,.b,.b,KI,KI,KI,.b,KI,KI]
def Adn(d:Nd):Jf dL:=(true,d.boot,d.now,d.e.root,mine d.e,Xb d.f d.e d.es.length,(d.es.length:Int),d.lev,d.par,d.pr.waits,(d.jobs.length:Int),(d.evs.length:Int),())
theorem Cb.on{w:World}{O:NP}{N:NB}{bf be:Nat}{d:Nd}(h:NW w O N bf be d)(hon:d.on=true){k:TR [(true,dL)]→WP}(hk: ∀w',Af w w'→k (Adn d,()) w'):Ae prog F.Cb [pB (N 0)] w false [(true,dL)] k:=by
 refine Cb.ok ?_
 unfold Cb.wp
 refine Ad λp1 w2 e1 k1 u1=>Jl rfl ?_
 rw[Ac]
 have H2:=h.Ai u1
 refine H2.n0 12 (c:=.b) (x:=d.on) rfl (Jl (by rw[hon];rfl) ?_)
 rw[Be]
 have H:=H2.drew
 have hl:(ndC N bf d).length=28:=rfl
 have hold: ∀{w':World},Af w2.drew w'→ ∀j,j<28→w'.cell? (Addr.add ⟨N 0,0,none⟩ j)=some ((w2.drew.cell? (Addr.add ⟨N 0,0,none⟩ j)).getD undef):=λu j hj=>H.nb.hold u (λx=>x) j (by omega)
 have hf: ∀{w':World},Af w2.drew w'→w'.cell? ⟨bf,0,none⟩=some ((w2.drew.cell? ⟨bf,0,none⟩).getD undef):=λu=>H.fw.Als u λx=>x
 rw[Ac]
 refine H.n0 13 (c:=KU) (x:=d.boot) rfl ?_
 rw[Ac]
 refine H.n0 14 (c:=.p) (x:=some ⟨N 1,0,none⟩) rfl ?_
 rw[Ac]
 refine H.n0 15 (c:=.p) (x:=some ⟨bf,0,none⟩) rfl ?_
 rw[Ac]
 refine H.fw.eF ?_
 rw[Ac]
 refine H.n0 15 (c:=.p) (x:=some ⟨bf,0,none⟩) rfl ?_
 rw[Ac]
 refine H.fw.eF ?_
 rw[Ac]
 refine H.n0 15 (c:=.p) (x:=some ⟨bf,0,none⟩) rfl ?_
 rw[Ac]
 refine H.n0 15 (c:=.p) (x:=some ⟨bf,0,none⟩) rfl ?_
 rw[Ac]
 refine H.n0 16 (c:=.p) (x:=some ⟨N 2,0,none⟩) rfl ?_
 rw[Ac]
 refine H.n0 16 (c:=.p) (x:=some ⟨N 2,0,none⟩) rfl ?_
 rw[Ac]
 refine H.n0 17 (c:=.p) (x:=some ⟨N 3,0,none⟩) rfl ?_
 rw[Ac]
 refine H.n0 27 (c:=.p) (x:=some ⟨N 8,0,none⟩) rfl ?_
 rw[Ac]
 refine H.n0 26 (c:=.p) (x:=some ⟨N 5,0,none⟩) rfl ?_
 have g0:=Af.refl w2.drew
 refine Ez.cl H.cb ⟨⟨hold g0 26 (by decide),hold g0 27 (by decide),hold g0 17 (by decide),hold g0 16 (by decide),hold g0 16 (by decide),hold g0 15 (by decide),hold g0 15 (by decide),hf g0,hold g0 15 (by decide),hf g0,hold g0 15 (by decide),hold g0 14 (by decide),hold g0 13 (by decide),trivial⟩,?_⟩
 refine Dc.cw H.fw ⟨⟨hold g0 26 (by decide),hold g0 27 (by decide),hold g0 17 (by decide),hold g0 16 (by decide),hold g0 16 (by decide),hold g0 15 (by decide),hold g0 15 (by decide),hf g0,hold g0 15 (by decide),hf g0,hold g0 15 (by decide),hold g0 14 (by decide),hold g0 13 (by decide),trivial⟩,?_⟩
 refine Bc.cw H.fw λw43 u43=>⟨⟨hold u43 26 (by decide),hold u43 27 (by decide),hold u43 17 (by decide),hold u43 16 (by decide),hold u43 16 (by decide),hold u43 15 (by decide),hold u43 15 (by decide),hf u43,hold u43 15 (by decide),hf u43,hold u43 15 (by decide),hold u43 14 (by decide),hold u43 13 (by decide),trivial⟩,?_⟩
 refine Ba.cw (H.Ai u43).fw λw45 v45=>?_
 have u45:=u43.trans v45
 refine⟨⟨hold u45 26 (by decide),hold u45 27 (by decide),hold u45 17 (by decide),hold u45 16 (by decide),hold u45 16 (by decide),hold u45 15 (by decide),hold u45 15 (by decide),hf u45,hold u45 15 (by decide),hf u45,hold u45 15 (by decide),hold u45 14 (by decide),hold u45 13 (by decide),trivial⟩,?_⟩
 have H45:=H.Ai u45
 refine Hg.cw H45.fw ⟨⟨hold u45 26 (by decide),hold u45 27 (by decide),hold u45 17 (by decide),hold u45 16 (by decide),hold u45 16 (by decide),hold u45 15 (by decide),hold u45 15 (by decide),hf u45,hold u45 15 (by decide),hf u45,hold u45 15 (by decide),hold u45 14 (by decide),hold u45 13 (by decide),trivial⟩,?_⟩
 refine Ja.cl H45.lb ⟨⟨hold u45 26 (by decide),hold u45 27 (by decide),hold u45 17 (by decide),hold u45 16 (by decide),hold u45 16 (by decide),hold u45 15 (by decide),hold u45 15 (by decide),hf u45,hold u45 15 (by decide),hf u45,hold u45 15 (by decide),hold u45 14 (by decide),hold u45 13 (by decide),trivial⟩,?_⟩
 refine En.cl H45.lb ⟨⟨hold u45 26 (by decide),hold u45 27 (by decide),hold u45 17 (by decide),hold u45 16 (by decide),hold u45 16 (by decide),hold u45 15 (by decide),hold u45 15 (by decide),hf u45,hold u45 15 (by decide),hf u45,hold u45 15 (by decide),hold u45 14 (by decide),hold u45 13 (by decide),trivial⟩,?_⟩
 refine Nv.cl H45.pb ⟨⟨hold u45 26 (by decide),hold u45 27 (by decide),hold u45 17 (by decide),hold u45 16 (by decide),hold u45 16 (by decide),hold u45 15 (by decide),hold u45 15 (by decide),hf u45,hold u45 15 (by decide),hf u45,hold u45 15 (by decide),hold u45 14 (by decide),hold u45 13 (by decide),trivial⟩,?_⟩
 refine Di.cL H45.je ⟨⟨hold u45 26 (by decide),hold u45 27 (by decide),hold u45 17 (by decide),hold u45 16 (by decide),hold u45 16 (by decide),hold u45 15 (by decide),hold u45 15 (by decide),hf u45,hold u45 15 (by decide),hf u45,hold u45 15 (by decide),hold u45 14 (by decide),hold u45 13 (by decide),trivial⟩,?_⟩
 refine Qh.cL H45.ge H45.gb ⟨⟨hold u45 27 (by decide),hold u45 17 (by decide),hold u45 16 (by decide),hold u45 16 (by decide),hold u45 15 (by decide),hold u45 15 (by decide),hf u45,hold u45 15 (by decide),hf u45,hold u45 15 (by decide),hold u45 14 (by decide),hold u45 13 (by decide),trivial⟩,?_⟩
 simp only[List.length_map]
 refine(k1.drew.Ai u45).Fg (encs dL (Adn d)) rfl rfl λw58 k58 u58=>⟨trivial,?_⟩
 exact k58.cA (cs:=dL) (Adn d) rfl (hk w58 (Af.fresh (Af.refl _) (u1.trans ((Af.drew _).trans u45)) u58 e1))
def wE(d:Nd):Jf dL:=if d.on=true then Adn d else(false,d.boot,0,0,false,false,0,0,0,false,0,0,())
theorem Cb.n{w:World}{O:NP}{N:NB}{bf be:Nat}{d:Nd}(h:NW w O N bf be d){k:TR [(true,dL)]→WP}(hk: ∀w',Af w w'→k (wE d,()) w'):Ae prog F.Cb [pB (N 0)] w false [(true,dL)] k:=by
 unfold wE at hk
 by_cases hon:d.on=true
 ·rw[if_pos hon] at hk
  exact Cb.on h hon hk
 ·rw[if_neg hon] at hk
  refine Cb.ok ?_
  unfold Cb.wp
  refine Ad λp1 w2 e1 k1 u1=>Jl rfl ?_
  have H:=h.Ai u1
  have hf:d.on=false:=by simpa using hon
  rw[Ac]
  refine H.n0 12 (c:=.b) (x:=d.on) rfl (Vt (by rw[hf];rfl) ?_)
  rw[Ac]
  refine H.n0 13 (c:=KU) (x:=d.boot) rfl ?_
  exact k1.Fg (encs dL (false,d.boot,0,0,false,false,0,0,0,false,0,0,())) rfl rfl λw5 k5 u5=>k5.cA (cs:=dL) (false,d.boot,0,0,false,false,0,0,0,false,0,0,()) rfl (hk w5 (Af.fresh (Af.refl _) u1 u5 e1))
end Go.Proofs.YticgocmhmffneaaGreatDoor
