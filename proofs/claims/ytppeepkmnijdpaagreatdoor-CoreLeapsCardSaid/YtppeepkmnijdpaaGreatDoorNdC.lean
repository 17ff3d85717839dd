import Derived.Test.YtppeepkmnijdpaaGreatDoorNdB
namespace Go.Proofs.YtppeepkmnijdpaaGreatDoor
open Go Go.Eng Tryz
open Go.IntKind (wrap)
set_option linter.unusedSimpArgs false
set_option linter.unusedVariables false
set_option maxRecDepth 100000
set_option maxHeartbeats 8000000
abbrev evZ:Value:=.agg #[iV 0,.string ByteArray.empty,iV 0,iV 0,iV 0,iV 0,uV 0,iV 0]
theorem Gp.cL{w:World}{k:TR RPI→WP}(h: ∀b c w',w.heap.size≤c→c<b→bJ w' b c 8 16 []→Ah w w'→k ((some ⟨b,0,none⟩,()),(0,()),()) w'):Ad prog F.Gp [iV 16] w true RPI k:=by
 refine Gp.ok ?_
 refine Le rfl (Le rfl ?_)
 refine bD (t:=T.Ve) (e:=T.Aab) (size:=8) (bytes:=72) (z:=evZ) (l:=16) (c:=16) (by kernel_rfl) (by kernel_rfl) rfl (by decide) rfl rfl (by decide) (by decide) λc w2 e2 k2 _ g2=>?_
 refine Ae λb w4 e4 k4 g4=>h b c w4 (Nat.le_of_eq e2) (by have:=k2.lt;omega) (bJ.empty (f:=0) k4 (k2.Ai g4) (by rw[Yy]) (by decide)) (g2.trans g4)
theorem Vu.cL{w:World}{k:TR RP→WP}(h: ∀g b c w',w.heap.size≤c→c<b→b<g→bJ w' b c 8 16 []→Ar w' g [pB b,iV 0]→Ah w w'→k ((some ⟨g,0,none⟩,()),()) w'):Ad prog F.Vu [] w false RP k:=by
 refine Vu.ok ?_
 refine Gp.cL λb c w2 h1 h2 hR g2=>Ae λg w4 e4 k4 g4=>?_
 have hb:=hR.lt.1
 exact h g b c w4 h1 h2 (by omega) (hR.Ai g4) k4 (g2.trans g4)
theorem D5.cL{b c:Nat}{L:List (List Value)}(hbc:b≠c){w:World}(hR:bJ w b c 8 16 L){k:TR []→WP}(h: ∀w',bJ w' b c 8 16 []→Ap (λz=>z=b∨z=c) w w'→k () w'):Ad prog F.D5 [pB b] w true [] k:=by
 refine D5.ok ?_
 obtain⟨rows,f,k1,k2,hl,_⟩:=hR.ex
 refine We rfl ?_
 rw[Ac]
 refine k1.c0 (c:=.sl) (x:=(some ⟨c,0,none⟩,16,16)) rfl ?_
 refine Amf (t:=T.Ve) (e:=T.Aab) (size:=8) (bytes:=72) (z:=evZ) (n:=15) (by kernel_rfl) (by kernel_rfl) rfl k2 hl rfl λw3 k3 u3=>?_
 rw[Ac]
 refine(k1.upd u3 hbc).sN 1 [_] (by simp) rfl λw5 k5 u5=>?_
 rw[Ac]
 refine k5.sN 2 [_] (by simp[splice]) rfl λw7 k7 u7=>h w7 (bJ.empty (f:=0) k7 ((k3.upd u5 (λe=>hbc e.symm)).upd u7 (λe=>hbc e.symm)) (by rw[Yy]) (by decide)) ?_
 exact Ap.trans (Ap.trans (u3.mono λz hz=>.inr hz) u5 λz _ hz=>.inl hz) u7 λz _ hz=>.inl hz
theorem Lm.cL{g b c:Nat}{L:List (List Value)}{last:Int}(hbc:b≠c)(hgb:g≠b)(hgc:g≠c){w:World}(hR:bJ w b c 8 16 L)(hB:Ar w g [pB b,iV last]){k:TR []→WP}(h: ∀w',bJ w' b c 8 16 []→Ar w' g [pB b,iV 0]→Ap (λz=>z=g∨z=b∨z=c) w w'→k () w'):Ad prog F.Lm [.pointer (some ⟨g,0,none⟩)] w true [] k:=by
 refine Lm.ok ?_
 refine We rfl ?_
 rw[Ac]
 refine hB.c0 (c:=.p) (x:=some ⟨b,0,none⟩) rfl (D5.cL hbc hR λw4 R4 u4=>?_)
 rw[Ac]
 refine(hB.upd u4 (by simp[hgb,hgc])).sN 1 [_] (by simp) rfl λw6 k6 u6=>h w6 (R4.upd u6 (λe=>hgb e.symm) λe=>hgc e.symm) k6 ?_
 exact Ap.trans (u4.mono λz hz=>.inr hz) u6 λz _ hz=>.inl hz
theorem Ee.cL{b c:Nat}{L:List (List Value)}{w:World}(hR:bJ w b c 8 16 L){k:TR Kt→WP}(h:k (((L.length:Int),()),()) w):Ad prog F.Ee [pB b] w false Kt k:=by
 refine Ee.ok ?_
 obtain⟨rows,f,k1,_⟩:=hR.ex
 refine Le rfl ?_
 rw[Ac]
 exact k1.c1 2 rfl h
theorem P9.cL{g b c:Nat}{L:List (List Value)}{last:Int}{w:World}(hR:bJ w b c 8 16 L)(hB:Ar w g [pB b,iV last]){k:TR Kt→WP}(h:k (((L.length:Int),()),()) w):Ad prog F.P9 [.pointer (some ⟨g,0,none⟩)] w false Kt k:=by
 refine P9.ok ?_
 refine Le rfl ?_
 rw[Ac]
 exact hB.c0 (c:=.p) (x:=some ⟨b,0,none⟩) rfl (Ee.cL hR h)
theorem Ar.cN2{w:World}{b:Nat}{vs:List Value}(h:Ar w b vs)(o p:Nat){cs:List CK}(x:Ky cs)(e:(vs.drop (o+p)).take cs.length=encs cs x){k:Ky cs→Prop}(hk:k x):Eng.Bc cs (Addr.add (Addr.add ⟨b,0,none⟩ o) p) 0 w k:=by
 rw[add_add];exact h.cN (o+p) x e hk
theorem Ar.c3{w:World}{b:Nat}{cs:List Value}(h:Ar w b cs)(o p q:Nat){c:CK}{x:Tv c}(e:cs[o+p+q]? =some (enc c x)){k:Tv c→Prop}(hk:k x):ld1 c (Addr.add (Addr.add (Addr.add ⟨b,0,none⟩ o) p) q) w k:=by
 rw[add_add,add_add,show o+(p+q)=o+p+q by omega];exact h.c1 (o+p+q) e hk
theorem Ar.sM2{w:World}{b:Nat}{cs:List Value}(h:Ar w b cs)(o p:Nat)(vs:List Value)(hi:o+p+vs.length≤cs.length)(hv:vs.all okc=true){k:WP}
  (hk: ∀w',Ar w' b (splice cs (o+p) vs)→Ap (λx=>x=b) w w'→k w'):Au vs (Addr.add (Addr.add ⟨b,0,none⟩ o) p) 0 w k:=by
 rw[add_add];exact h.sN (o+p) vs (by omega) hv hk
theorem Je.in{b o:Nat}{cs:List Value}{w:World}(hB:Ar w b cs)(ho:o+7≤cs.length){k:TR []→WP}(h: ∀w',Ar w' b (splice cs o (bk false (0,0,0,0,0,0)))→Ap (λz=>z=b) w w'→k () w'):Ad prog F.Je [.pointer (some (Addr.add ⟨b,0,none⟩ o))] w true [] k:=by
 refine Je.ok ?_
 refine We rfl ?_
 rw[Ac]
 exact hB.sN o _ (by simpa using ho) rfl λw2 k2 u2=>h w2 k2 u2
theorem Rx(N:NB)(bf:Nat)(d:Nd):(ndC N bf d).length=28:=rfl
abbrev Av3:List (Bool×List CK):=[(true,K6),(false,[.b])]
theorem Lp.in{N:NB}{bf:Nat}{d:Nd}{w:World}(hB:Ar w (N 0) (ndC N bf d)){k:TR Av3→WP}(hk: ∀w',Ah w w'→k (t6 d.ba,(d.bh,()),()) w'):Ad prog F.Lp [.pointer (some (Addr.add ⟨N 0,0,none⟩ 19))] w true Av3 k:=by
 refine Lp.ok ?_
 refine Ae λp1 w2 e1 k1 u1=>Le rfl ?_
 rw[Aq,Ac]
 have B:=(hB.Ai u1).drew
 have lb:=hB.lt
 refine Ar.cN2 B 19 1 (cs:=K6) (t6 d.ba) rfl ?_
 rw[Ac]
 refine B.c1 19 (c:=.b) (x:=d.bh) rfl (k1.drew.E5 (a6 d.ba) rfl rfl λw10 k10 u10=>⟨⟨B.hold u10 (by omega) 19 (by rw[Rx];decide),trivial⟩,?_⟩)
 exact k10.cA (cs:=K6) (t6 d.ba) rfl (hk w10 (Ah.fresh (Ah.refl _) (u1.trans (Ah.drew w2)) u10 e1))
theorem Jg.in{N:NB}{bf:Nat}{d:Nd}{a:A6}{w:World}(hB:Ar w (N 0) (ndC N bf d)){k:TR Vl→WP}
  (h0:iU d.bh d.ba a=false→ ∀w',Ah w w'→k ((false,()),()) w')
  (h1:iU d.bh d.ba a=true→ ∀w',Ar w' (N 0) (ndC N bf {d with bh:=true,ba:=a})→Ap (λz=>z=N 0) w w'→k ((true,()),()) w'):
  Ad prog F.Jg [.pointer (some (Addr.add ⟨N 0,0,none⟩ 19)),.agg #[iV a.1,uV a.2.1,iV a.2.2.1,uV a.2.2.2.1,iV a.2.2.2.2.1,iV a.2.2.2.2.2]] w false Vl k:=by
 refine Jg.ok (a0:=a.1) (a1:=a.2.1) (a2:=a.2.2.1) (a3:=a.2.2.2.1) (a4:=a.2.2.2.2.1) (a5:=a.2.2.2.2.2) ?_
 have lb:=hB.lt
 refine Ae λp1 w2 e1 k1 u1=>?_
 change Ar w2 p1 (a6 a) at k1
 refine Bh.by (λ_ w'=>Ah w w'∧Ar w' p1 (a6 a)∧iU d.bh d.ba a=true) ?_ ?_
 ·rw[Aq]
  have k3:=k1.drew
  have g3:=u1.trans (Ah.drew w2)
  generalize w2.drew=w6 at*
  refine Le rfl (k3.cA (cs:=K6) (t6 a) rfl (jH (x:=a) λw9 u9=>⟨⟨k3.hold u9 (λx=>x) 0 (by simp[a6]),k3.hold u9 (λx=>x) 1 (by simp[a6]),k3.hold u9 (λx=>x) 2 (by simp[a6]),k3.hold u9 (λx=>x) 3 (by simp[a6]),k3.hold u9 (λx=>x) 4 (by simp[a6]),k3.hold u9 (λx=>x) 5 (by simp[a6]),trivial⟩,?_⟩))
  have g9:=g3.trans u9
  have B9:=hB.Ai g9
  have k9:=k3.Ai u9
  refine En (λc=>h0 (by unfold iU;have c:okF (flN a)=false:=c;rw[c];rfl) w9 g9) λc=>?_
  have c:okF (flN a)=true:=c
  rw[Ac]
  refine B9.c1 19 (c:=.b) (x:=d.bh) rfl (bQ (λch=>?_) λch=>⟨g9,k9,?_⟩)
  ·have ch:d.bh=true:=ch
   refine k9.c1 1 (c:=KU) (x:=a.2.1) rfl ?_
   rw[Ac]
   refine Ar.c3 B9 19 1 1 (c:=KU) (x:=d.ba.2.1) rfl (Oa.cl ⟨⟨B9.hold (Ah.refl _) (λx=>x) 19 (by rw[Rx];decide),k3.hold u9 (λx=>x) 0 (by simp[a6]),k3.hold u9 (λx=>x) 1 (by simp[a6]),k3.hold u9 (λx=>x) 2 (by simp[a6]),k3.hold u9 (λx=>x) 3 (by simp[a6]),k3.hold u9 (λx=>x) 4 (by simp[a6]),k3.hold u9 (λx=>x) 5 (by simp[a6]),trivial⟩,?_⟩)
   refine En (λcn=>h0 ?_ w9 g9) λcn=>⟨g9,k9,?_⟩
   ·have cn:nwr a.2.1 d.ba.2.1=false:=cn
    unfold iU;rw[c,ch,cn];rfl
   ·have cn:nwr a.2.1 d.ba.2.1=true:=cn
    unfold iU;rw[c,ch,cn];rfl
  ·have ch:d.bh=false:=ch
   unfold iU;rw[c,ch];rfl
 ·rintro _ w5 ⟨g,k5,hg⟩ _
  rw[Aq]
  have B5:=(hB.Ai g).drew
  have k6:=k5.drew
  have g5:=g.trans (Ah.drew w5)
  generalize w5.drew=w6 at*
  refine k6.cA (cs:=K6) (t6 a) rfl ?_
  rw[Ac]
  have hne:p1≠N 0:=by omega
  refine B5.sN 19 [.bool true] (by rw[Rx];decide) rfl λw20 k20 u20=>⟨⟨k6.hold u20 hne 0 (by simp[a6]),k6.hold u20 hne 1 (by simp[a6]),k6.hold u20 hne 2 (by simp[a6]),k6.hold u20 hne 3 (by simp[a6]),k6.hold u20 hne 4 (by simp[a6]),k6.hold u20 hne 5 (by simp[a6]),trivial⟩,?_⟩
  rw[Ac]
  exact Ar.sM2 k20 19 1 (a6 a) (by rw[aB,Rx];simp[a6]) rfl λw22 k22 u22=>⟨trivial,h1 hg w22 k22 (Ap.trans (Ap.trans (Ap.Ed g5) u20 λ_ _ x=>x) u22 λ_ _ x=>x)⟩
def ndL(s:zG)(lp:Option Addr)(on:Bool)(boot:Int)(c f l p q:Value)(bh:Bool)(ba:A6)(g j:Value):List Value:=stC s++[.pointer lp,.bool on,uV boot,c,f,l,p,q]++bk bh ba++[g,j]
theorem sZ{L:List Nat}{i:Nat}(h:i<L.length):L.getD i 0=L[i]:=by simp[List.getD,h]
theorem Ag7{L:List Nat}(h:L.Nodup){i j:Nat}(hi:i<L.length)(hj:j<L.length)(e:L.getD i 0=L.getD j 0):i=j:=by
 rw[sZ hi,sZ hj] at e
 exact(List.getElem_inj h).1 e
theorem Ua.cl{s:zG}{lp:Option Addr}{w:World}{k:TR RPI→WP}(h0:U1 s=false→ ∀w',Ah w w'→k ((none,()),(1,()),()) w')
  (h:U1 s=true→ ∀O N bf be w',NW w' O N bf be (nd0 s lp)→(∀z,NO N O z→w.heap.size≤z)→Ah w w'→k ((some ⟨N 0,0,none⟩,()),(0,()),()) w'):Ad prog F.Ua [.agg (stC s).toArray,.pointer lp] w true RPI k:=by
 refine Ua.ok ?_
 refine Ae λp1 w2 e1 k1 u1=>?_
 change Ar w2 p1 (stC s) at k1
 refine k1.cA (cs:=KSt) (stT s) rfl (Mc.cl (s:=s) λw5 u5=>En (λc=>h0 c w5 (u1.trans u5)) λc=>?_)
 have c:U1 s=true:=c
 have h:=h c
 obtain⟨m0,m1,gf,gp,l1,l2,j1,j2⟩:=Lj.1 c
 have gf':=Vg.1 gf
 have ge':=pV.1 gf'.1
 have g5:=u1.trans u5
 rw[Aq]
 have K5:=(k1.Ai u5).drew
 have hold: ∀{w':World},Ah w5.drew w'→ ∀j,j<11→w'.cell? (Addr.add ⟨p1,0,none⟩ j)=some ((w5.drew.cell? (Addr.add ⟨p1,0,none⟩ j)).getD undef):=λu j hj=>K5.hold u (λx=>x) j (by simpa [stC] using hj)
 refine K5.cA (cs:=KSt) (stT s) rfl (Vu.cL λg gr gc w9 b1 b2 b3 hR hg u9=>⟨⟨hold u9 0 (by decide),hold u9 1 (by decide),hold u9 2 (by decide),hold u9 3 (by decide),hold u9 4 (by decide),hold u9 5 (by decide),hold u9 6 (by decide),hold u9 7 (by decide),hold u9 8 (by decide),hold u9 9 (by decide),hold u9 10 (by decide),trivial⟩,?_⟩)
 refine Ae λn w11 e11 k11 u11=>?_
 have u11':=u9.trans u11
 refine⟨⟨hold u11' 0 (by decide),hold u11' 1 (by decide),hold u11' 2 (by decide),hold u11' 3 (by decide),hold u11' 4 (by decide),hold u11' 5 (by decide),hold u11' 6 (by decide),hold u11' 7 (by decide),hold u11' 8 (by decide),hold u11' 9 (by decide),hold u11' 10 (by decide),trivial⟩,?_⟩
 have lg:=hg.lt
 have K11:=K5.Ai u11'
 have lp1:p1<n:=by have:=(K5.Ai u9).lt;omega
 change Ar w11 n (ndL s lp false 0 (.pointer none) (.pointer none) (.pointer none) (.pointer none) (.pointer none) false a60 (pB g) (.pointer none)) at k11
 refine K11.c2 1 3 (c:=KI) (x:=s.drift) rfl (Yx.cl (by omega) (by omega) λc w14 e14 k14 u14=>?_)
 have lc:=k11.lt
 refine(k11.Ai u14).sN 14 [_] (by simp[ndL,stC,bk,a6]) rfl λw15 k15 u15=>?_
 change Ar w15 n (ndL s lp false 0 (pB c) (.pointer none) (.pointer none) (.pointer none) (.pointer none) false a60 (pB g) (.pointer none)) at k15
 have K15:=(K11.Ai u14).upd u15 (by omega)
 have kc:=k14.upd u15 (by omega)
 refine K15.c0 (c:=KI) (x:=s.me) rfl (K15.cN 1 (cs:=K4i) (s.tmo,s.ign,s.need,s.drift,()) rfl (Rn.cw (λhn=>absurd gf (by rcases hn with hn|hn|hn;omega;omega;rw[hn];decide)) λ_ _ _ O bf be w19 hF hO u19=>?_))
 have lcc:=kc.lt
 have k19:=k15.Ai u19
 have sz15:=u15.size
 have sz14:=u14.size
 refine k19.sN 15 [_] (by simp[ndL,stC,bk,a6]) rfl λw20 k20 u20=>?_
 change Ar w20 n (ndL s lp false 0 (pB c) (pB bf) (.pointer none) (.pointer none) (.pointer none) false a60 (pB g) (.pointer none)) at k20
 have nO: ¬O n:=λhz=>by have:=hO n hz;omega
 have hF20:=hF.upd u20 λz hz e=>nO (e▸hz)
 have K20:=(K15.Ai u19).upd u20 (by omega)
 have kc20:=(kc.Ai u19).upd u20 (by omega)
 refine K20.c0 (c:=KI) (x:=s.me) rfl (V8.cl m0 m1 λl w23 e23 k23 u23=>?_)
 have ln:=k20.lt
 refine(k20.Ai u23).sN 16 [_] (by simp[ndL,stC,bk,a6]) rfl λw24 k24 u24=>?_
 change Ar w24 n (ndL s lp false 0 (pB c) (pB bf) (pB l) (.pointer none) (.pointer none) false a60 (pB g) (.pointer none)) at k24
 have hF24:=(hF20.Ai u23).upd u24 λz hz e=>nO (e▸hz)
 have K24:=(K20.Ai u23).upd u24 (by omega)
 have kc24:=(kc20.Ai u23).upd u24 (by omega)
 have kl24:=k23.upd u24 (by omega)
 have lc20:=kc20.lt
 refine K24.c0 (c:=KI) (x:=s.me) rfl (Yz.cl m0 m1 λp w27 e27 k27 u27=>?_)
 have ll24:=kl24.lt
 refine(k24.Ai u27).sN 17 [_] (by simp[ndL,stC,bk,a6]) rfl λw28 k28 u28=>?_
 change Ar w28 n (ndL s lp false 0 (pB c) (pB bf) (pB l) (pB p) (.pointer none) false a60 (pB g) (.pointer none)) at k28
 have hF28:=(hF24.Ai u27).upd u28 λz hz e=>nO (e▸hz)
 have K28:=(K24.Ai u27).upd u28 (by omega)
 have kc28:=(kc24.Ai u27).upd u28 (by omega)
 have kl28:=(kl24.Ai u27).upd u28 (by omega)
 have kp28:=k27.upd u28 (by omega)
 refine K28.c1 8 (c:=KI) (x:=s.lim) rfl (Um.cl (λhn=>by omega) λ_ _ q w31 e31 k31 u31=>?_)
 have lp28:=kp28.lt
 refine(k28.Ai u31).sN 18 [_] (by simp[ndL,stC,bk,a6]) rfl λw32 k32 u32=>?_
 change Ar w32 n (ndL s lp false 0 (pB c) (pB bf) (pB l) (pB p) (pB q) false a60 (pB g) (.pointer none)) at k32
 have hF32:=(hF28.Ai u31).upd u32 λz hz e=>nO (e▸hz)
 have kc32:=(kc28.Ai u31).upd u32 (by omega)
 have kl32:=(kl28.Ai u31).upd u32 (by omega)
 have kp32:=(kp28.Ai u31).upd u32 (by omega)
 have kq32:=k31.upd u32 (by omega)
 refine I5.cL λj jc w34 f1 f2 hJ u34=>?_
 have lq32:=kq32.lt
 refine(k32.Ai u34).sN 27 [_] (by simp[ndL,stC,bk,a6]) rfl λw35 k35 u35=>?_
 change Ar w35 n (ndL s lp false 0 (pB c) (pB bf) (pB l) (pB p) (pB q) false a60 (pB g) (pB j)) at k35
 have hF35:=(hF32.Ai u34).upd u35 λz hz e=>nO (e▸hz)
 have kc35:=(kc32.Ai u34).upd u35 (by omega)
 have kl35:=(kl32.Ai u34).upd u35 (by omega)
 have kp35:=(kp32.Ai u34).upd u35 (by omega)
 have kq35:=(kq32.Ai u34).upd u35 (by omega)
 have hJ35:=hJ.upd u35 (by omega) (by omega)
 have ln11:=k11.lt
 have G:Ap (λz=>z=n) w9 w35:=by
  have a0:Ap (λz=>z=n) w9 w15:=Ap.trans (Ap.Ed (u11.trans u14)) u15 λ_ _ x=>x
  have a1:Ap (λz=>z=n) w9 w20:=Ap.trans (a0.Ai u19) u20 λ_ _ x=>x
  have a2:Ap (λz=>z=n) w9 w24:=Ap.trans (a1.Ai u23) u24 λ_ _ x=>x
  have a3:Ap (λz=>z=n) w9 w28:=Ap.trans (a2.Ai u27) u28 λ_ _ x=>x
  have a4:Ap (λz=>z=n) w9 w32:=Ap.trans (a3.Ai u31) u32 λ_ _ x=>x
  exact Ap.trans (a4.Ai u34) u35 λ_ _ x=>x
 have gw:Ah w w35:=Ap.trans ((g5.trans (Ah.drew _)).trans u9) G λz hz e=>by have:=(g5.trans ((Ah.drew _).trans u9)).size;omega
 have hR35:=hR.upd G (by omega) (by omega)
 have hg35:=hg.upd G (by omega)
 have sz5:=g5.size
 have szd:w5.drew.heap.size=w5.heap.size:=rfl
 have s19:=u19.size
 have s20:=u20.size
 have s23:=u23.size
 have s24:=u24.size
 have s27:=u27.size
 have s28:=u28.size
 have s31:=u31.size
 have s32:=u32.size
 have o1:gc<gr:=b2
 have o2:gr<g:=b3
 have o3:g<n:=by omega
 have o4:n<c:=by omega
 have o5:c<l:=by omega
 have o6:l<p:=by omega
 have o7:p<q:=by omega
 have o8:q<jc:=by omega
 have o9:jc<j:=f2
 have hOl: ∀z,O z→c<z∧z<l:=λz hz=>⟨by have:=hO z hz;omega,by have:=hF20.lt z hz;omega⟩
 have hnd:[n,c,l,p,q,g,gr,gc,j,jc].Nodup:=by
  simp only[List.nodup_cons,List.mem_cons,List.not_mem_nil,or_false,not_or,List.nodup_nil,not_false_eq_true,and_true]
  omega
 have hmem: ∀i,i<10→([n,c,l,p,q,g,gr,gc,j,jc].getD i 0)∈[n,c,l,p,q,g,gr,gc,j,jc]:=λi hi=>by
  rw[sZ (by simpa using hi)];exact List.getElem_mem _
 refine h O (λi=>[n,c,l,p,q,g,gr,gc,j,jc].getD i 0) bf be w35 ⟨k35,kc35,hF35,kl35,kp35,kq35,hg35,hR35,hJ35,λi j hi hj e=>Ag7 hnd (by simpa using hi) (by simpa using hj) e,?_⟩ ?_ gw
 ·intro i hi ho
  have:=hOl _ ho
  have hm:=hmem i hi
  simp only[List.mem_cons,List.not_mem_nil,or_false] at hm
  omega
 ·rintro z (⟨i,hi,rfl⟩|hz)
  ·have hm:=hmem i hi
   simp only[List.mem_cons,List.not_mem_nil,or_false] at hm
   show w.heap.size≤[n,c,l,p,q,g,gr,gc,j,jc].getD i 0
   omega
  ·have:=hOl z hz;omega
theorem NW.nx{w w':World}{O:NP}{N:NB}(i:Nat)(hi:i<10)(u:Ap (λz=>z=N i) w w'):Nx (NO N O) w (NO N O) w':=⟨u.mono λz hz=>.inl ⟨i,hi,hz.symm⟩,λz hz=>.inl hz⟩
theorem NW.nxF{w w':World}{O O':NP}{N:NB}(x:Nx O w O' w'):Nx (NO N O) w (NO N O') w':=
 ⟨x.u.mono λz hz=>.inr hz,λz hz=>hz.elim (λh=>.inl (.inl h)) λh=>(x.sub z h).elim (λh=>.inl (.inr h)) .inr⟩
theorem NW.n0{w:World}{O:NP}{N:NB}{bf be:Nat}{d:Nd}(h:NW w O N bf be d){c:CK}(o:Nat){x:Tv c}(e:(ndC N bf d)[o]? =some (enc c x)){k:Tv c→Prop}(hk:k x):ld1 c (Addr.add ⟨N 0,0,none⟩ o) w k:=h.nb.c1 o e hk
theorem D8.cl{w:World}{O:NP}{N:NB}{bf be:Nat}{d:Nd}(h:NW w O N bf be d){k:TR Kt→WP}(hk:k ((if d.on=true then 0 else 10,()),()) w):Ad prog F.D8 [pB (N 0)] w false Kt k:=by
 refine D8.ok ?_
 refine Le rfl ?_
 rw[Ac]
 refine h.n0 12 (c:=.b) (x:=d.on) rfl (En (λc=>?_) λc=>?_)
 ·have c:d.on=false:=c
  rw[c] at hk;exact hk
 ·have c:d.on=true:=c
  rw[c] at hk;exact hk
theorem Kz.n{w:World}{O:NP}{N:NB}{bf be:Nat}{d:Nd}{t:Int}(h:NW w O N bf be d)(hG:Zf d){k:TR Kt→WP}
  (hk: ∀w',NW w' O N bf be (d.go t).1→Nx (NO N O) w (NO N O) w'→k (((d.go t).2,()),()) w'):Ad prog F.Kz [pB (N 0),iV t] w false Kt k:=by
 refine Kz.ok ?_
 refine D8.cl h ?_
 unfold Nd.go at hk
 by_cases hon:d.on=true
 ·rw[if_pos hon]
  rw[if_neg (by rw[hon];decide)] at hk
  obtain⟨m0,m1,gf,_⟩:=Lj.1 hG.s
  have g:=Vg.1 gf
  refine Le rfl ?_
  rw[Ac]
  refine h.n0 14 (c:=.p) (x:=some ⟨N 1,0,none⟩) rfl (Qb.cl g.2.2.2.1 g.2.2.2.2 hG.now.1 hG.now.2 h.cb λw6 k6 u6=>hk w6 (h.set1 k6 u6) (NW.nx 1 (by decide) u6))
 ·rw[if_neg hon]
  rw[if_pos (by simpa using hon)] at hk
  exact We rfl (hk w h (Nx.of (Ah.refl _)))
theorem Hl.n{w:World}{O:NP}{N:NB}{bf be:Nat}{d:Nd}{t:Int}(h:NW w O N bf be d)(hG:Zf d){k:TR Vl→WP}(hk:k ((aQ d.s.drift t,()),()) w):Ad prog F.Hl [pB (N 0),iV t] w false Vl k:=by
 refine Hl.ok ?_
 obtain⟨m0,m1,gf,_⟩:=Lj.1 hG.s
 have g:=Vg.1 gf
 refine We rfl ?_
 rw[Ac]
 exact h.n0 14 (c:=.p) (x:=some ⟨N 1,0,none⟩) rfl (Ht.cl g.2.2.2.1 g.2.2.2.2 h.cb hk)
abbrev Au5:List (Bool×List CK):=[(false,[KI]),(false,[KI])]
theorem Hy.n{w:World}{O:NP}{N:NB}{bf be:Nat}{d:Nd}{j:Int}(h:NW w O N bf be d)(hG:Zf d){k:TR Au5→WP}
  (hk:k (((d.Ui j).1,()),((d.Ui j).2,()),()) w):Ad prog F.Hy [pB (N 0),iV j] w true Au5 k:=by
 refine Hy.ok ?_
 obtain⟨m0,m1,gf,gp,l1,l2,j1,j2⟩:=Lj.1 hG.s
 have hn:=hG.now
 refine D8.cl h ?_
 unfold Nd.Ui at hk
 by_cases hon:d.on=true
 ·rw[if_pos hon]
  rw[if_neg (by rw[hon];decide)] at hk
  refine Le rfl ?_
  rw[Ac]
  refine h.n0 9 (c:=KI) (x:=d.s.jit) rfl ?_
  rw[Af (n:=0-d.s.jit) (by unfold I64;omega)]
  refine Cf (λc=>?_) λc1=>?_
  ·have c:j<0-d.s.jit:=c
   rw[if_pos (.inl (by omega))] at hk
   exact hk
  have c1: ¬j<0-d.s.jit:=c1
  rw[Ac]
  refine h.n0 9 (c:=KI) (x:=d.s.jit) rfl (Cf (λc=>?_) λc2=>?_)
  ·have c:j>d.s.jit:=c
   rw[if_pos (.inr c)] at hk
   exact hk
  have c2: ¬j>d.s.jit:=c2
  rw[if_neg (by omega)] at hk
  rw[Ac]
  refine h.n0 14 (c:=.p) (x:=some ⟨N 1,0,none⟩) rfl (Ew.cl h.cb ?_)
  dsimp only
  rw[Af (n:=d.now+j) (by unfold I64;omega)]
  exact Nw.cl hk
 ·rw[if_neg hon]
  rw[if_pos (by simpa using hon)] at hk
  exact We rfl hk
theorem Kq.cl{w:World}{O:NP}{N:NB}{bf be:Nat}{d:Nd}{raw:Int}(h:NW w O N bf be d)(h0:0≤raw)(h1:raw<4294967296){k:TR Kt→WP}
  (hk: ∀w' O',NW w' O' N bf be (d.turn raw)→Nx (NO N O) w (NO N O') w'→k ((0,()),()) w'):Ad prog F.Kq [pB (N 0),.int .u32 raw] w false Kt k:=by
 refine Kq.ok ?_
 refine Le rfl ?_
 rw[Ac]
 refine h.nb.sN 12 [_] (by simp[ndC,stC,bk,a6]) rfl λw2 k2 u2=>?_
 have H2:=h.set0 (on:=true) (boot:=d.boot) (bh:=d.bh) (ba:=d.ba) k2 u2
 have X2:Nx (NO N O) w (NO N O) w2:=NW.nx 0 (by decide) u2
 rw[Ac]
 refine H2.n0 13 (c:=KU) (x:=d.boot) rfl ?_
 rw[Ac]
 refine H2.nb.sN 13 [_] (by simp[ndC,stC,bk,a6]) rfl λw6 k6 u6=>?_
 have H6:=H2.set0 (on:=true) (boot:=wrap .u16 (d.boot+1)) (bh:=d.bh) (ba:=d.ba) k6 u6
 have X6:=X2.trans (NW.nx (O:=O) 0 (by decide) u6)
 rw[Ac]
 refine H6.n0 14 (c:=.p) (x:=some ⟨N 1,0,none⟩) rfl (Lt.cl h0 h1 H6.cb λw10 k10 u10=>?_)
 have H10:=H6.set1 (now:=raw) k10 u10
 have X10:=X6.trans (NW.nx (O:=O) 1 (by decide) u10)
 rw[Aq,Ac]
 have H11:=H10.drew
 refine H11.n0 15 (c:=.p) (x:=some ⟨bf,0,none⟩) rfl ?_
 rw[Ac]
 refine H11.n0 13 (c:=KU) (x:=wrap .u16 (d.boot+1)) rfl (Jc.cw H11.fw λw17 O17 F17 x17=>⟨trivial,?_⟩)
 have H17:=H11.Asg F17 x17
 have X17:=(X10.Ai (Ah.drew _)).trans (NW.nxF (N:=N) x17)
 rw[Ac]
 refine H17.n0 16 (c:=.p) (x:=some ⟨N 2,0,none⟩) rfl (Ey.cl H17.lb λw21 k21 u21=>?_)
 have H21:=H17.set2 (lev:= -1) (par:= -1) k21 u21
 have X21:=X17.trans (NW.nx (O:=O17) 2 (by decide) u21)
 rw[Ac]
 refine H21.n0 17 (c:=.p) (x:=some ⟨N 3,0,none⟩) rfl (Om.cl H21.pb λw25 k25 u25=>?_)
 have H25:=H21.Amj k25 u25
 have X25:=X21.trans (NW.nx (O:=O17) 3 (by decide) u25)
 rw[Ac]
 refine H25.n0 18 (c:=.p) (x:=some ⟨N 4,0,none⟩) rfl (Fh.cl H25.sb λw29 k29 u29=>?_)
 have H29:=H25.Asl k29 u29
 have X29:=X25.trans (NW.nx (O:=O17) 4 (by decide) u29)
 rw[Ac]
 refine Je.in H29.nb (by simp[ndC,stC,bk,a6]) λw32 k32 u32=>?_
 have H32:=H29.set0 (on:=true) (boot:=wrap .u16 (d.boot+1)) (bh:=false) (ba:=a60) k32 u32
 have X32:=X29.trans (NW.nx (O:=O17) 0 (by decide) u32)
 rw[Ac]
 refine H32.n0 26 (c:=.p) (x:=some ⟨N 5,0,none⟩) rfl (Lm.cL (H32.ne 6 7) (H32.ne 5 6) (H32.ne 5 7) H32.ge H32.gb λw36 R36 k36 u36=>?_)
 have H36:=H32.Awy (evs:=[]) (last:=0) k36 R36 u36
 have X36:Nx (NO N O) w (NO N O17) w36:=X32.trans (NW.nx5 u36)
 rw[Ac]
 refine H36.n0 27 (c:=.p) (x:=some ⟨N 8,0,none⟩) rfl (Es.cL (H36.ne 8 9) H36.je λw40 R40 u40=>hk w40 O17 (H36.Apz (jobs:=[]) R40 u40) (X36.trans (NW.nx8 u40)))
theorem Eh.on{w:World}{O:NP}{N:NB}{bf be:Nat}{d:Nd}(h:NW w O N bf be d)(hon:d.on=true){k:TR [(true,K5),(false,[KI])]→WP}
  (hk: ∀w',Ah w w'→k (dM (d.tm d.now).1,((d.tm d.now).2,()),()) w'):Ad prog F.Eh [pB (N 0)] w true [(true,K5),(false,[KI])] k:=by
 refine Eh.ok ?_
 refine Ae λp1 w2 e1 k1 u1=>?_
 have H2:=h.Ai u1
 refine D8.cl H2 ?_
 rw[if_pos hon]
 refine Le rfl ?_
 rw[Aq,Ac]
 have H3:=H2.drew
 refine H3.n0 18 (c:=.p) (x:=some ⟨N 4,0,none⟩) rfl ?_
 rw[Ac]
 refine H3.n0 15 (c:=.p) (x:=some ⟨bf,0,none⟩) rfl ?_
 rw[Ac]
 refine H3.n0 14 (c:=.p) (x:=some ⟨N 1,0,none⟩) rfl (Ew.cl H3.cb ?_)
 have hl:(ndC N bf d).length=28:=rfl
 have hold: ∀{w':World},Ah w2.drew w'→ ∀j,j<28→w'.cell? (Addr.add ⟨N 0,0,none⟩ j)=some ((w2.drew.cell? (Addr.add ⟨N 0,0,none⟩ j)).getD undef):=λu j hj=>H3.nb.hold u (λx=>x) j (by omega)
 refine⟨⟨hold (Ah.refl _) 14 (by decide),hold (Ah.refl _) 15 (by decide),hold (Ah.refl _) 18 (by decide),trivial⟩,Am.cw H3.sb H3.fw λw17 u17=>⟨⟨hold u17 14 (by decide),trivial⟩,?_⟩⟩
 refine(k1.drew.Ai u17).E5 (encs K5 (dM (d.tm d.now).1)) rfl rfl λw18 k18 u18=>⟨trivial,?_⟩
 exact k18.cA (cs:=K5) (dM (d.tm d.now).1) rfl (hk w18 (Ah.fresh (Ah.refl _) (u1.trans ((Ah.drew _).trans u17)) u18 e1))
theorem Eh.n{w:World}{O:NP}{N:NB}{bf be:Nat}{d:Nd}(h:NW w O N bf be d){k:TR [(true,K5),(false,[KI])]→WP}
  (hk: ∀w',Ah w w'→k (dM d.time.1,(d.time.2,()),()) w'):Ad prog F.Eh [pB (N 0)] w true [(true,K5),(false,[KI])] k:=by
 unfold Nd.time at hk
 by_cases hon:d.on=true
 ·rw[if_neg (by rw[hon];decide)] at hk
  exact Eh.on h hon hk
 ·rw[if_pos (by simpa using hon)] at hk
  refine Eh.ok ?_
  refine Ae λp1 w2 e1 k1 u1=>D8.cl (h.Ai u1) ?_
  rw[if_neg hon]
  exact We rfl (k1.E5 (encs K5 (dM (0,0,0,0,0))) rfl rfl λw5 k5 u5=>k5.cA (cs:=K5) (dM (0,0,0,0,0)) rfl (hk w5 (Ah.fresh (Ah.refl _) u1 u5 e1)))
abbrev KSs:List CK:=[.b,KU,KI,KI,.b,.b,KI,KI,KI,.b,KI,KI]
def Abk(d:Nd):Ky KSs:=(true,d.boot,d.now,d.e.root,mine d.e,Xm d.f d.e d.es.length,(d.es.length:Int),d.lev,d.par,d.pr.waits,(d.jobs.length:Int),(d.evs.length:Int),())
theorem Dt.on{w:World}{O:NP}{N:NB}{bf be:Nat}{d:Nd}(h:NW w O N bf be d)(hon:d.on=true){k:TR [(true,KSs)]→WP}(hk: ∀w',Ah w w'→k (Abk d,()) w'):Ad prog F.Dt [pB (N 0)] w false [(true,KSs)] k:=by
 refine Dt.ok ?_
 refine Ae λp1 w2 e1 k1 u1=>Le rfl ?_
 rw[Ac]
 have H2:=h.Ai u1
 refine H2.n0 12 (c:=.b) (x:=d.on) rfl (Le (by rw[hon];rfl) ?_)
 rw[Aq]
 have H:=H2.drew
 have hl:(ndC N bf d).length=28:=rfl
 have hold: ∀{w':World},Ah w2.drew w'→ ∀j,j<28→w'.cell? (Addr.add ⟨N 0,0,none⟩ j)=some ((w2.drew.cell? (Addr.add ⟨N 0,0,none⟩ j)).getD undef):=λu j hj=>H.nb.hold u (λx=>x) j (by omega)
 have hf: ∀{w':World},Ah w2.drew w'→w'.cell? ⟨bf,0,none⟩=some ((w2.drew.cell? ⟨bf,0,none⟩).getD undef):=λu=>H.fw.Aqi u λx=>x
 rw[Ac]
 refine H.n0 13 (c:=KU) (x:=d.boot) rfl ?_
 rw[Ac]
 refine H.n0 14 (c:=.p) (x:=some ⟨N 1,0,none⟩) rfl ?_
 rw[Ac]
 refine H.n0 15 (c:=.p) (x:=some ⟨bf,0,none⟩) rfl ?_
 rw[Ac]
 refine H.fw.dN ?_
 rw[Ac]
 refine H.n0 15 (c:=.p) (x:=some ⟨bf,0,none⟩) rfl ?_
 rw[Ac]
 refine H.fw.dN ?_
 rw[Ac]
 refine H.n0 15 (c:=.p) (x:=some ⟨bf,0,none⟩) rfl ?_
 rw[Ac]
 refine H.n0 15 (c:=.p) (x:=some ⟨bf,0,none⟩) rfl ?_
 rw[Ac]
 refine H.n0 16 (c:=.p) (x:=some ⟨N 2,0,none⟩) rfl ?_
 rw[Ac]
 refine H.n0 16 (c:=.p) (x:=some ⟨N 2,0,none⟩) rfl ?_
 rw[Ac]
 refine H.n0 17 (c:=.p) (x:=some ⟨N 3,0,none⟩) rfl ?_
 rw[Ac]
 refine H.n0 27 (c:=.p) (x:=some ⟨N 8,0,none⟩) rfl ?_
 rw[Ac]
 refine H.n0 26 (c:=.p) (x:=some ⟨N 5,0,none⟩) rfl ?_
 have g0:=Ah.refl w2.drew
 refine Ew.cl H.cb ⟨⟨hold g0 26 (by decide),hold g0 27 (by decide),hold g0 17 (by decide),hold g0 16 (by decide),hold g0 16 (by decide),hold g0 15 (by decide),hold g0 15 (by decide),hf g0,hold g0 15 (by decide),hf g0,hold g0 15 (by decide),hold g0 14 (by decide),hold g0 13 (by decide),trivial⟩,?_⟩
 refine Bz.cw H.fw ⟨⟨hold g0 26 (by decide),hold g0 27 (by decide),hold g0 17 (by decide),hold g0 16 (by decide),hold g0 16 (by decide),hold g0 15 (by decide),hold g0 15 (by decide),hf g0,hold g0 15 (by decide),hf g0,hold g0 15 (by decide),hold g0 14 (by decide),hold g0 13 (by decide),trivial⟩,?_⟩
 refine A8.cw H.fw λw43 u43=>⟨⟨hold u43 26 (by decide),hold u43 27 (by decide),hold u43 17 (by decide),hold u43 16 (by decide),hold u43 16 (by decide),hold u43 15 (by decide),hold u43 15 (by decide),hf u43,hold u43 15 (by decide),hf u43,hold u43 15 (by decide),hold u43 14 (by decide),hold u43 13 (by decide),trivial⟩,?_⟩
 refine Az.cw (H.Ai u43).fw λw45 v45=>?_
 have u45:=u43.trans v45
 refine⟨⟨hold u45 26 (by decide),hold u45 27 (by decide),hold u45 17 (by decide),hold u45 16 (by decide),hold u45 16 (by decide),hold u45 15 (by decide),hold u45 15 (by decide),hf u45,hold u45 15 (by decide),hf u45,hold u45 15 (by decide),hold u45 14 (by decide),hold u45 13 (by decide),trivial⟩,?_⟩
 have H45:=H.Ai u45
 refine G8.cw H45.fw ⟨⟨hold u45 26 (by decide),hold u45 27 (by decide),hold u45 17 (by decide),hold u45 16 (by decide),hold u45 16 (by decide),hold u45 15 (by decide),hold u45 15 (by decide),hf u45,hold u45 15 (by decide),hf u45,hold u45 15 (by decide),hold u45 14 (by decide),hold u45 13 (by decide),trivial⟩,?_⟩
 refine Ik.cl H45.lb ⟨⟨hold u45 26 (by decide),hold u45 27 (by decide),hold u45 17 (by decide),hold u45 16 (by decide),hold u45 16 (by decide),hold u45 15 (by decide),hold u45 15 (by decide),hf u45,hold u45 15 (by decide),hf u45,hold u45 15 (by decide),hold u45 14 (by decide),hold u45 13 (by decide),trivial⟩,?_⟩
 refine Ea.cl H45.lb ⟨⟨hold u45 26 (by decide),hold u45 27 (by decide),hold u45 17 (by decide),hold u45 16 (by decide),hold u45 16 (by decide),hold u45 15 (by decide),hold u45 15 (by decide),hf u45,hold u45 15 (by decide),hf u45,hold u45 15 (by decide),hold u45 14 (by decide),hold u45 13 (by decide),trivial⟩,?_⟩
 refine Nh.cl H45.pb ⟨⟨hold u45 26 (by decide),hold u45 27 (by decide),hold u45 17 (by decide),hold u45 16 (by decide),hold u45 16 (by decide),hold u45 15 (by decide),hold u45 15 (by decide),hf u45,hold u45 15 (by decide),hf u45,hold u45 15 (by decide),hold u45 14 (by decide),hold u45 13 (by decide),trivial⟩,?_⟩
 refine Dj.cL H45.je ⟨⟨hold u45 26 (by decide),hold u45 27 (by decide),hold u45 17 (by decide),hold u45 16 (by decide),hold u45 16 (by decide),hold u45 15 (by decide),hold u45 15 (by decide),hf u45,hold u45 15 (by decide),hf u45,hold u45 15 (by decide),hold u45 14 (by decide),hold u45 13 (by decide),trivial⟩,?_⟩
 refine P9.cL H45.ge H45.gb ⟨⟨hold u45 27 (by decide),hold u45 17 (by decide),hold u45 16 (by decide),hold u45 16 (by decide),hold u45 15 (by decide),hold u45 15 (by decide),hf u45,hold u45 15 (by decide),hf u45,hold u45 15 (by decide),hold u45 14 (by decide),hold u45 13 (by decide),trivial⟩,?_⟩
 simp only[List.length_map]
 refine(k1.drew.Ai u45).E5 (encs KSs (Abk d)) rfl rfl λw58 k58 u58=>⟨trivial,?_⟩
 exact k58.cA (cs:=KSs) (Abk d) rfl (hk w58 (Ah.fresh (Ah.refl _) (u1.trans ((Ah.drew _).trans u45)) u58 e1))
def zL(d:Nd):Ky KSs:=if d.on=true then Abk d else(false,d.boot,0,0,false,false,0,0,0,false,0,0,())
theorem Dt.n{w:World}{O:NP}{N:NB}{bf be:Nat}{d:Nd}(h:NW w O N bf be d){k:TR [(true,KSs)]→WP}(hk: ∀w',Ah w w'→k (zL d,()) w'):Ad prog F.Dt [pB (N 0)] w false [(true,KSs)] k:=by
 unfold zL at hk
 by_cases hon:d.on=true
 ·rw[if_pos hon] at hk
  exact Dt.on h hon hk
 ·rw[if_neg hon] at hk
  refine Dt.ok ?_
  refine Ae λp1 w2 e1 k1 u1=>Le rfl ?_
  have H:=h.Ai u1
  have hf:d.on=false:=by simpa using hon
  rw[Ac]
  refine H.n0 12 (c:=.b) (x:=d.on) rfl (We (by rw[hf];rfl) ?_)
  rw[Ac]
  refine H.n0 13 (c:=KU) (x:=d.boot) rfl ?_
  exact k1.E5 (encs KSs (false,d.boot,0,0,false,false,0,0,0,false,0,0,())) rfl rfl λw5 k5 u5=>k5.cA (cs:=KSs) (false,d.boot,0,0,false,false,0,0,0,false,0,0,()) rfl (hk w5 (Ah.fresh (Ah.refl _) u1 u5 e1))
end Go.Proofs.YtppeepkmnijdpaaGreatDoor
