import Derived.Test.YtppeepkmnijdpaaGreatDoorMcH
import Derived.Test.YtppeepkmnijdpaaGreatDoorLcS
import Derived.Test.YtppeepkmnijdpaaGreatDoorCrune
namespace Go.Proofs.YtppeepkmnijdpaaGreatDoor
open Go.Eng Go Tryz
open Go.IntKind (wrap)
set_option linter.unusedSimpArgs false
set_option linter.unusedVariables false
set_option maxRecDepth 100000
set_option maxHeartbeats 8000000
abbrev Ag1(w:World)(base:Nat)(s:Sl)(ls:List Bs):Prop:=Dp w base T.string 1 s ls.length (ls.map λl=>Value.string (Fb l))
theorem Ag1.snoc{P:Program}{t ty:TypeId}{w:World}{base b:Nat}{s:Sl}{ls:List Bs}{x:Bs}{k:Sl→WP}(ht:P.underlying t=some (.slice T.string))(hi:zN P T.string 1=true)(h:Ag1 w base s ls)(hB:Ar w b [.string (Fb x)])(hn:ls.length≤100000000)(hbase:base≤w.heap.size)
  (hk: ∀s' w',Ag1 w' base s' (ls++[x])→Ap (λb=> ∃a,s.1=some a∧a.block=b) w w'→k s' w'):
  Qj ((Builtin.append_ #[t,t] ty #[.slice s.1 s.2.1 s.2.2,.slice (some ⟨b,0,none⟩) 1 1]).run P w) k:=by
 refine S9 (s:=s) (x:=(some ⟨b,0,none⟩,1,1)) (e:=T.string) (size:=1) (base:=base) (n:=ls.length) (xs:=ls.map λl=>Value.string (Fb l)) (news:=[.string (Fb x)]) ht hi (by decide) h
  ⟨rfl,λ_=>⟨_,rfl,hB.news⟩⟩ ?_ (by show ls.length+1≤_;omega) hbase λs' w16 o16 u16 hb=>?_
 ·intro u hu
  rw[List.mem_singleton.1 hu];rfl
 ·refine hk s' w16 ?_ u16
  unfold Ag1
  rw[List.length_append,List.map_append]
  simpa using o16
theorem qR{l:Bs}{f i:Nat}{c:UInt8}(h:l[i]? =some c)(hf:f≤i):(l.take (i+1)).drop f=(l.take i).drop f++[c]:=iE h hf
theorem Ad5{l:Bs}{f i:Nat}{c:UInt8}(h:l[i]? =some c)(hf:f≤i):l.drop f=(l.take i).drop f++c::l.drop (i+1):=by
 have hi:=(List.getElem?_eq_some_iff.1 h).1
 have e:l=l.take i++c::l.drop (i+1):=by
  have:=List.take_append_drop i l
  rw[List.drop_eq_getElem_cons hi] at this
  have hc:l[i]=c:=by have:=List.getElem?_eq_getElem hi;rw[h] at this;injection this with this;exact this.symm
  rw[hc] at this;exact this.symm
 have:(l.take i++c::l.drop (i+1)).drop f=(l.take i).drop f++c::l.drop (i+1):=List.drop_append_of_le_length (by rw[List.length_take];omega)
 rw[←this,←e]
theorem Ns.cl{l:Bs}{a:UInt8}{at_:Int}(ha:at_=(a.toNat:Int))(hl:l.length<40000000){w:World}{k:TR [(false,[.sl])]→WP}
  (h: ∀(s:Sl) w',Xn w' s (Rt a l)→(∀x,s.1=some x→w.heap.size≤x.block)→Ah w w'→k ((s,()),()) w'):
  Ad prog F.Ns [.string (Fb l),.int .u8 at_] w false [(false,[.sl])] k:=by
 subst ha
 refine Ns.ok ?_
 rw[Pq]
 refine Aw.by (λz W=> ∃(f i:Nat) (done:List Bs),z.2.1=f∧z.2.2.1=i∧Ag1 W w.heap.size z.1 done∧Ah w W∧done.length≤i∧
   ((i≤l.length∧f≤i∧Rt a l=done++Rt a (l.drop f)∧a∉(l.take i).drop f)∨(i=l.length+1∧done=Rt a l)))
  (λz=>((l.length:Int)+1-z.2.2.1).toNat) ⟨0,0,[],rfl,rfl,Dp.nil _ _ _ _,Ah.refl _,Nat.le_refl _,.inl ⟨Nat.zero_le _,Nat.le_refl _,rfl,by simp⟩⟩ ?_
 rintro⟨s,zf,zi,_⟩ W ⟨f,i,done,ef,ei,hO,hG,hdn,hc⟩ _
 dsimp only at ef ei hO
 subst ef ei
 have sz:=hG.size
 refine Cf (λc=>?_) λc=>?_
 ·have c:(i:Int)≤(l.length:Int):=c
  rcases hc with ⟨hi,hf,hp,hno⟩|⟨hi,_⟩
  case inr=>exact absurd c (by omega)
  have ei:wrap .i64 ((i:Int)+1)=((i+1:Nat):Int):=by rw[Af (by unfold I64;omega)];omega
  have dec:((l.length:Int)+1-wrap .i64 ((i:Int)+1)).toNat<((l.length:Int)+1-(i:Int)).toNat:=by rw[ei];omega
  refine Bh.by (λz W'=>W=W'∧z.1=decide (i=l.length∨l[i]? =some a)) ?_ ?_
  ·refine Vh (λc2=>⟨rfl,?_⟩) λc2=>?_
   ·have c2:(i:Int)=(l.length:Int):=c2
    symm;rw[decide_eq_true_iff];exact .inl (by omega)
   ·have c2:(i:Int)≠(l.length:Int):=c2
    have hx:l[i]? =some (l[i]'(by omega)):=List.getElem?_eq_getElem _
    generalize l[i]'(by omega)=x at hx
    refine dI rfl hx ⟨rfl,?_⟩
    refine bq ?_
    rw[beq_iff_eq,hx]
    exact⟨λh=>.inr (by congr 1;exact UInt8.toNat_inj.1 (by omega)),λh=>by
     rcases h with h|h
     ·omega
     ·injection h with h;rw[h]⟩
  rintro⟨z,_⟩ _ ⟨rfl,hz⟩ _
  dsimp only at hz
  subst hz
  refine Cf (λc2=>?_) λc2=>?_
  ·refine(nG (by show(0:Int)≤(f:Int)∧(f:Int)≤(i:Int)∧(i:Int)≤(l.length:Int);omega)).symm▸?_
   show Bj [.string ((Fb l).extract (Int.toNat (f:Int)) (Int.toNat (i:Int)))] _ _ _
   rw[Int.toNat_natCast,Int.toNat_natCast,Zn]
   refine Ae λp8 w9 e8 k8 u8=>Ag1.snoc (base:=w.heap.size) (ls:=done) (x:=(l.take i).drop f) (by kernel_rfl) (by kernel_rfl) (Dp.Ai hO u8) k8 (by omega) (by have:=u8.size;omega) λs' w11 o11 u11=>?_
   refine⟨⟨i+1,i+1,done++[(l.take i).drop f],ei,ei,o11,?_,by simp;omega,?_⟩,dec⟩
   ·refine Ap.trans (hG.trans u8) u11 λj hj ⟨a0,h0,h1⟩=>?_
    have:=(Dp.blk hO h0).1;omega
   ·rcases Nat.lt_or_ge i l.length with hlt|hge
    ·have hx:l[i]? =some a:=by rcases c2 with h|h;omega;exact h
     refine .inl ⟨by omega,Nat.le_refl _,?_,by simp⟩
     rw[hp,Ad5 hx hf,yV _ hno];simp
    ·have hi2:i=l.length:=by omega
     subst hi2
     refine .inr ⟨rfl,?_⟩
     rw[List.take_length] at hno
     rw[hp,List.take_length,Afp hno]
  ·have hi2:i<l.length:=by
    rcases Nat.lt_or_ge i l.length with h|h
    ·exact h
    ·exact absurd (.inl (by omega)) c2
   have hx:l[i]? =some l[i]:=List.getElem?_eq_getElem hi2
   generalize l[i]=x at hx
   have hxa:x≠a:=λe=>c2 (.inr (by rw[hx,e]))
   refine⟨⟨f,i+1,done,rfl,ei,hO,hG,by omega,.inl ⟨by omega,by omega,hp,?_⟩⟩,dec⟩
   rw[qR hx hf]
   simp[hno,Ne.symm hxa]
 ·have c: ¬(i:Int)≤(l.length:Int):=c
  rcases hc with ⟨hi,_⟩|⟨hi,hd⟩
  ·omega
  ·subst hd
   exact h s W (Dp.row hO) (λx hx=>(Dp.blk hO hx).1) hG
theorem Vq.cl{l:Bs}{w:World}{k:TR [(false,[KI]),(false,[.b])]→WP}(h0:Yf l=none→ ∀w',Ah w w'→k ((0,()),(false,()),()) w')(h1: ∀n,Yf l=some n→ ∀w',Ah w w'→k ((n,()),(true,()),()) w'):
  Ad prog F.Vq [.string (Fb l)] w true [(false,[KI]),(false,[.b])] k:=by
 refine Vq.ok ?_
 refine Po.cl (λhn w2 u2=>?_) λd hd w2 u2=>?_
 ·refine Ae λp3 w4 e3 k3 u4=>k3.E5 _ rfl rfl λw5 k5 u5=>We rfl ?_
  exact h0 (by unfold Yf;rw[hn]) w5 (u2.trans (Ah.fresh (Ah.refl _) u4 u5 e3))
 ·refine Ae λp3 w4 e3 k3 u4=>k3.E5 _ rfl rfl λw5 k5 u5=>Le rfl ?_
  have g5:Ah w w5:=u2.trans (Ah.fresh (Ah.refl _) u4 u5 e3)
  refine Ar.Xd k5 (Nr.cl (d:=d) (nN hd) λw8 u8=>?_)
  exact h1 _ (by unfold Yf;rw[hd]) w8 (g5.trans u8)
def bT(l:Bs):Int:=if O5 l then(Rq l:Int) else-1
theorem uU{l:Bs}:bT l<0↔ ¬O5 l:=by
 unfold bT;split<;>rename_i h<;>simp[h]
theorem Pm.cl{l:Bs}{w:World}{k:TR Tm→WP}(h:k ((bT l,()),()) w):Ad prog F.Pm [.string (Fb l)] w false Tm k:=by
 refine Pm.ok ?_
 refine Aw.by (λz W=>w=W∧ ∃n:Nat,z.1=n∧n≤100∧ ∀m,m<n→aJ m≠l) (λz=>(100-z.1).toNat) ⟨rfl,0,rfl,by omega,λm hm=>by omega⟩ ?_
 rintro⟨z,_⟩ _ ⟨rfl,n,ez,hn,hno⟩ _
 dsimp only at ez
 subst ez
 refine Cf (λc=>?_) λc=>?_
 ·have c:(n:Int)<100:=c
  refine strconv_Itoa.cl (n:=n) (by omega) (Am3 (λc2=>?_) λc2=>?_)
  ·have hp:O5 l:=c2▸Ad7 (by omega)
   have hv:Rq l=n:=by rw[←c2];exact Ajh (by omega)
   have e:bT l=(n:Int):=by unfold bT;rw[if_pos hp,hv]
   rw[e] at h;exact h
  ·have ei:wrap .i64 ((n:Int)+1)=((n+1:Nat):Int):=by rw[Af (by unfold I64;omega)];omega
   refine⟨⟨rfl,n+1,ei,by omega,λm hm=>?_⟩,?_⟩
   ·rcases Nat.lt_or_ge m n with h|h
    ·exact hno m h
    ·have:m=n:=by omega
     subst this;exact c2
   ·show(100-wrap .i64 ((n:Int)+1)).toNat<(100-(n:Int)).toNat
    rw[ei];omega
 ·have c: ¬(n:Int)<100:=c
  have e:bT l= -1:=by
   unfold bT;rw[if_neg]
   intro hp
   obtain⟨h1,h2⟩:=wK hp
   exact hno (Rq l) (by omega) h2.symm
  rw[e] at h;exact h
end Go.Proofs.YtppeepkmnijdpaaGreatDoor
namespace Go.Proofs.YtppeepkmnijdpaaGreatDoor
open Go.Eng Go Tryz
open Go.IntKind (wrap)
set_option linter.unusedSimpArgs false
set_option linter.unusedVariables false
set_option maxRecDepth 100000
set_option maxHeartbeats 8000000
def dayOf(ws:List Bs):Option Int:=match ws[1]? with|some x=>Yf x|none=>none
theorem Acs{r:RS}{ws:List Bs}(h:dayOf ws=none):stepW r ws=.inr 3:=by
 unfold dayOf at h
 unfold stepW
 split
 ·by_cases c:ws.length=3
  ·obtain⟨a,b,d,rfl⟩:=yC c
   simp at h
   unfold iL;simp only[h];split<;>rfl
  ·exact zS c
 split
 ·split
  ·by_cases c:ws.length=3
   ·obtain⟨a,b,d,rfl⟩:=yC c
    exact yE (by simpa using h)
   ·exact yO c
  ·by_cases c:ws.length=2
   ·obtain⟨a,b,rfl⟩:=Ai1 c
    exact wE (by simpa using h)
   ·exact yJ c
 ·rfl
abbrev K4t:List CK:=[KI,KI,KI,.sl]
abbrev RPT:List (Bool×List CK):=[(true,K4t),(false,[KI]),(false,[KI])]
abbrev Aoj(m:V9)(s:Sl):Ky K4t:=(m.st,m.ah,m.en,s,())
theorem Ab0{w:World}{b:Nat}{m:V9}{s:Sl}(h:Ar w b (cT m s)){k:Ky K4t→Prop}(hk:k (Aoj m s)):Bc K4t ⟨b,0,none⟩ 0 w k:=h.cA (cs:=K4t) (Aoj m s) rfl hk
theorem Ql.cl{l:Bs}{w:World}{k:TR RPT→WP}(hl:l.length<40000000)
  (h0: ∀at_ e,fC l=(none,at_,e)→ ∀w',Ah w w'→k (Aoj t0 (none,0,0),(at_,()),(e,()),()) w')
  (h1: ∀m,fC l=(some m,0,0)→ ∀sl w',Ox w' sl m.ls→Ah w w'→k (Aoj m sl,(0,()),(0,()),()) w'):
  Ad prog F.Ql [.string (Fb l)] w true RPT k:=by
 refine Ql.ok ?_
 rw[Pq]
 refine Ae λp1 w2 e1 k1 u1=>?_
 have l1:=k1.lt
 have low: ∀{W W':World},Ah w W→Ap (λx=>p1≤x) W W'→Ah w W':=λg u=>Ap.trans g u λj hj h=>by omega
 have fail: ∀{W:World} {at_ e:Int},Ah w W→Ar W p1 (cT t0 (none,0,0))→fC l=(none,at_,e)→Au [iV 0,iV 0,iV 0,.slice none 0 0] ⟨p1,0,none⟩ 0 W λw3=>
   Bc K4t ⟨p1,0,none⟩ 0 w3 λx4=>k ((x4.1,x4.2.1,x4.2.2.1,(x4.2.2.2.1.1,x4.2.2.2.1.2.1,x4.2.2.2.1.2.2),()),(at_,()),(e,()),()) w3:=λ{W at_ e} g kb hp=>
  kb.E5 (cT t0 (none,0,0)) rfl rfl λw3 k3 u3=>Ab0 k3 (h0 at_ e hp w3 (low g (u3.mono λj h=>by omega)))
 refine Cf (λc=>?_) λc=>?_
 ·have c:(l.length:Int)>16384:=c
  exact fail u1 k1 (by unfold fC;rw[if_pos (by omega)])
 have c: ¬(l.length:Int)>16384:=c
 have hp:fC l=zQ (Rt 10 l) 0 r0:=by unfold fC;rw[if_neg (by omega)]
 refine Ae λp5 w6 e5 k5 u5=>Ns.cl (a:=10) (at_:=10) rfl hl λs w8 R8 hs8 u8=>?_
 have o:p1<p5:=by omega
 have l5:=k5.lt
 have kk1:=(k1.Ai u5).Ai u8
 have kk5:=k5.Ai u8
 have g8:=(u1.trans u5).trans u8
 have l8:=kk5.lt
 have hpl:=yM 10 l
 have hpe:=uQ 10 l
 have hlen:=R8.len'
 have hs: ∀a,s.1=some a→a.block≠p5∧a.block<w8.heap.size:=λa ha=>by
  obtain⟨y,ys,hy⟩:=uJ (l:=l) (a:=10)
  have hc:=R8.cell ha (z:=0) (i:=0) (l:=y) rfl (by rw[hy];rfl)
  have hlt:=cell_lt hc
  rw[add_block] at hlt
  have:=hs8 a ha
  exact⟨by omega,hlt⟩
 refine Aw.by (λz W=> ∃(i:Nat) (r:RS),z.1=(r.q:Int)∧z.2.1=i∧i≤(Rt 10 l).length∧RI r∧(∃sl,Ar W p5 (cT r.t sl)∧Vz T.Qu W w8.heap.size sl r.t.ls)∧Rk p5 w8.heap.size w8 W∧zQ (Rt 10 l) 0 r0=zQ ((Rt 10 l).drop i) i r)
  (λz=>(((Rt 10 l).length:Int)-z.2.1).toNat) ⟨0,r0,rfl,rfl,by omega,RI.zero,⟨(none,0,0),kk5,Dp.nil _ _ _ _⟩,Rk.Ai (Ah.refl _),rfl⟩ ?_
 rintro⟨q,z,_⟩ W ⟨i,r,eq,ez,hi,hI,⟨sl,hB,hO⟩,fr,hgo⟩ _
 dsimp only at eq ez
 subst eq ez
 have szW:=fr.size
 have g8': ∀{W'},Rk p5 w8.heap.size w8 W'→Ah w W':=λfr'=>low g8 (fr'.mono λj h=>by omega)
 have b1: ∀{W'},Rk p5 w8.heap.size w8 W'→Ar W' p1 (cT t0 (none,0,0)):=λfr'=>kk1.upd fr' (by omega)
 refine Cf (λc2=>?_) λc2=>?_
 ·have c2:(i:Int)<s.2.1:=c2
  have hi':i<(Rt 10 l).length:=by omega
  have hx:(Rt 10 l)[i]? =some (Rt 10 l)[i]:=List.getElem?_eq_getElem hi'
  have hdr:(Rt 10 l).drop i=(Rt 10 l)[i]::(Rt 10 l).drop (i+1):=List.drop_eq_getElem_cons hi'
  have hxl:=hpe _ (List.getElem_mem hi')
  generalize (Rt 10 l)[i]=x at hx hdr hxl
  rw[hdr,zQ] at hgo
  have RW:Xn W s (Rt 10 l):=R8.upd fr λa ha hh=>by have:=hs a ha;omega
  have ei:wrap .i64 ((i:Int)+1)=((i+1:Nat):Int):=by rw[Af (by unfold I64;omega)];omega
  have ei2:wrap .i64 ((i:Int)+1)=(i:Int)+1:=by rw[Af (by unfold I64;omega)]
  have dec:(((Rt 10 l).length:Int)-wrap .i64 ((i:Int)+1)).toNat<(((Rt 10 l).length:Int)-(i:Int)).toNat:=by rw[ei];omega
  have bad: ∀{e:Int} {W':World},U2 r x=.inr e→Rk p5 w8.heap.size w8 W'→Au [iV 0,iV 0,iV 0,.slice none 0 0] ⟨p1,0,none⟩ 0 W' λw3=>
    Bc K4t ⟨p1,0,none⟩ 0 w3 λx4=>k ((x4.1,x4.2.1,x4.2.2.1,(x4.2.2.2.1.1,x4.2.2.2.1.2.1,x4.2.2.2.1.2.2),()),(wrap .i64 ((i:Int)+1),()),(e,()),()) w3:=λ{e W'} he fr'=>by
   rw[ei2]
   refine fail (g8' fr') (b1 fr') ?_
   rw[he] at hgo
   rw[hp,hgo]
  rw[Aff]
  refine RW.get rfl hx (Am3 (λc3=>?_) λc3=>?_)
  ·subst c3
   exact⟨⟨i+1,r,rfl,ei,by omega,hI,⟨sl,hB,hO⟩,fr,hgo⟩,dec⟩
  obtain⟨x0,l',rfl⟩: ∃x0 l',x=x0::l':=by cases x with|nil=>exact absurd rfl c3|cons x l'=>exact⟨x,l',rfl⟩
  refine dI (i:=0) rfl rfl (Vh (λc4=>?_) λc4=>?_)
  ·have c4:(x0.toNat:Int)=35:=c4
   have:x0=35:=UInt8.toNat_inj.1 (by show x0.toNat=35;omega)
   subst this
   have e:U2 r (35::l')=.inl r:=by unfold U2;rw[if_pos (.inr rfl)]
   rw[e] at hgo
   exact⟨⟨i+1,r,rfl,ei,by omega,hI,⟨sl,hB,hO⟩,fr,hgo⟩,dec⟩
  have c4:(x0.toNat:Int)≠35:=c4
  have est:U2 r (x0::l')=stepW r (Rt 32 (x0::l')):=by
   unfold U2;rw[if_neg]
   rintro(h|h)
   ·cases h
   ·simp at h;subst h;exact c4 rfl
  rw[est] at hgo bad
  refine Ns.cl (a:=32) (at_:=32) rfl (by omega) λsw w16 R16 hsw u16=>?_
  generalize Rt 32 (x0::l')=ws at R16 hgo bad est
  have hlw:=R16.len'
  have B16:=hB.Ai u16
  have O16:=Dp.Ai hO u16
  have lW:=hB.lt
  have fr16:Rk p5 w8.heap.size w8 w16:=Rk.trans' fr (Rk.Ai u16)
  have hw5: ∀a,sw.1=some a→a.block≠p5∧ ∀a0,sl.1=some a0→a0.block≠a.block:=λa ha=>by
   have:=hsw a ha
   exact⟨by omega,λa0 h0=>by have:=(Dp.blk hO h0).2.1;omega⟩
  refine Bh.by (λz W'=>Ah w16 W'∧(z.2.1=true→dayOf ws=some z.1)∧(z.2.1=false→dayOf ws=none)) ?_ ?_
  ·refine Cf (λc5=>?_) λc5=>⟨Ah.refl _,?_,?_⟩
   ·have c5:(sw.2.1:Int)>1:=c5
    have h1x:ws[1]? =some (ws[1]'(by omega)):=List.getElem?_eq_getElem _
    generalize ws[1]'(by omega)=y at h1x
    refine R16.get (i:=1) rfl h1x (Vq.cl (λhn w' u=>⟨u,(λh=>by cases h),λ_=>?_⟩) λn hn w' u=>⟨u,λ_=>?_,(λh=>by cases h)⟩)
    ·unfold dayOf;rw[h1x];exact hn
    ·unfold dayOf;rw[h1x];exact hn
   ·have c5: ¬(sw.2.1:Int)>1:=c5
    intro h;exact absurd (of_decide_eq_true h) c5
   ·have c5: ¬(sw.2.1:Int)>1:=c5
    intro _
    have:ws[1]? =none:=List.getElem?_eq_none (by omega)
    unfold dayOf;rw[this]
  rintro⟨zd,zk,_⟩ w19 ⟨u19,hk1,hk2⟩ _
  dsimp only at hk1 hk2
  refine Bh.by (λz W'=>w19=W'∧z.1=(!zk||decide (r.q=2))) ?_ ?_
  ·refine En (λc5=>⟨rfl,?_⟩) λc5=>⟨rfl,?_⟩
   ·have c5:zk=false:=c5
    rw[c5];rfl
   ·have c5:zk=true:=c5
    rw[c5]
    show((r.q:Int)==2)=(false||decide (r.q=2))
    rw[Bool.false_or]
    exact bq (by rw[beq_iff_eq];omega)
  rintro⟨z2,_⟩ _ ⟨rfl,hz2⟩ _
  dsimp only at hz2
  subst hz2
  have fr19:Rk p5 w8.heap.size w8 w19:=Rk.trans' fr16 (Rk.Ai u19)
  refine bQ (λc5=>?_) λc5=>?_
  ·have c5:(!zk||decide (r.q=2))=true:=c5
   refine bad ?_ fr19
   cases hzk:zk with
   |false=>exact Acs (hk2 hzk)
   |true=>
    rw[hzk] at c5
    have:r.q=2:=of_decide_eq_true (by simpa using c5)
    unfold stepW;rw[if_neg (by omega),if_neg (by omega)]
  have c5:(!zk||decide (r.q=2))=false:=c5
  have hzk:zk=true:=by cases h:zk;rw[h] at c5;cases c5;rfl
  have hq2:r.q≠2:=by intro h;rw[hzk,h] at c5;cases c5
  have hday:=hk1 hzk
  have B19:=B16.Ai u19
  have O19:=Dp.Ai O16 u19
  have R19:Xn w19 sw ws:=R16.Ai u19
  have n64:=hI.n
  refine Vh (λc6=>?_) λc6=>?_
  ·
   have c6:(r.q:Int)=0:=c6
   have eW:stepW r ws=iL r ws:=by unfold stepW;rw[if_pos (by omega)]
   refine Bh.by (λz W'=>Ah w19 W'∧(z.1=true→iL r ws=.inr 3)∧(z.1=false→ ∃b c,ws=[La,b,c]∧O5 c)) ?_ ?_
   ·refine dS (λc7=>⟨Ah.refl _,λ_=>zS ?_,(λh=>by cases h)⟩) λc7=>?_
    ·have c7:(sw.2.1:Int)≠3:=c7;omega
    have c7:(sw.2.1:Int)=3:=c7
    obtain⟨y0,y1,y2,rfl⟩:=yC (ws:=ws) (by omega)
    refine R19.get (i:=0) rfl rfl ?_
    rw[yB,Abq]
    refine En (λc8=>⟨Ah.refl _,λ_=>kH λh=>(of_decide_eq_false c8) h.1,(λh=>by cases h)⟩) λc8=>?_
    have c8:y0=La:=of_decide_eq_true c8
    subst c8
    refine R19.get (i:=2) rfl rfl (Pm.cl ⟨Ah.refl _,λh=>?_,λh=>⟨y1,y2,rfl,?_⟩⟩)
    ·exact kH λhh=>uU.1 (of_decide_eq_true h) hh.2
    ·exact Decidable.not_not.1 λhh=>(of_decide_eq_false h) (uU.2 hh)
   rintro⟨zb,_⟩ w31 ⟨u31,hb1,hb2⟩ _
   dsimp only at hb1 hb2
   have fr31:Rk p5 w8.heap.size w8 w31:=Rk.trans' fr19 (Rk.Ai u31)
   refine bQ (λc7=>bad (by rw[eW];exact hb1 c7) fr31) λc7=>?_
   obtain⟨y1,y2,rfl,hpl2⟩:=hb2 c7
   have hd2:Yf y1=some zd:=by unfold dayOf at hday;simpa using hday
   rw[eW,nT hpl2 hd2] at hgo
   refine(B19.Ai u31).s0 (by simp) λw40 k40 u40=>?_
   have R40:Xn w40 sw [La,y1,y2]:=(R19.Ai u31).upd u40 λa ha=>(hw5 a ha).1
   refine R40.get (i:=2) rfl rfl (Pm.cl ?_)
   refine k40.s1 1 (by simp) λw45 k45 u45=>?_
   have es:bT y2=(Rq y2:Int):=by unfold bT;rw[if_pos hpl2]
   rw[es] at k45
   refine⟨⟨i+1,⟨1,⟨zd,Rq y2,r.t.en,r.t.ls⟩⟩,rfl,ei,by omega,aX hI (by rw[est,eW,nT hpl2 hd2]),⟨sl,k45,?_⟩,?_,hgo⟩,dec⟩
   ·exact fA (fA (Dp.Ai O19 u31) u40 (by omega)) u45 (by omega)
   ·exact Rk.trans' (Rk.trans' fr31 (Rk.blk u40)) (Rk.blk u45)
  have c6:(r.q:Int)≠0:=c6
  have hq1:r.q=1:=by have:=hI.q;omega
  have ws0: ∃y0 ys,ws=y0::ys:=by
   cases ws with
   |nil=>unfold dayOf at hday;simp at hday
   |cons y ys=>exact⟨y,ys,rfl⟩
  obtain⟨y0,ys,hys⟩:=ws0
  have hl19:=(Vz.rows O19).len
  refine B19.c1 3 (c:=.sl) (x:=sl) rfl ?_
  rw[Aa1]
  refine R19.get (i:=0) rfl (show ws[0]? =some y0 by rw[hys];rfl) (Am3 (λc7=>?_) λc7=>?_)
  ·
   have eW:stepW r ws=jO r ws:=by unfold stepW;rw[if_neg (by omega),if_pos hq1,if_pos (by rw[hys,c7];rfl)]
   refine Bh.by (λz W'=>w19=W'∧(z.1=true→jO r ws=.inr 3)∧(z.1=false→ ∃a b c,ws=[a,b,c]∧(c=pR∨c=m1L))) ?_ ?_
   ·refine dS (λc8=>⟨rfl,λ_=>yO ?_,(λh=>by cases h)⟩) λc8=>?_
    ·have c8:(sw.2.1:Int)≠3:=c8;omega
    have c8:(sw.2.1:Int)=3:=c8
    obtain⟨z0,z1,z2,rfl⟩:=yC (ws:=ws) (by omega)
    refine R19.get (i:=2) rfl rfl ?_
    rw[Aiu,Ady,Abq]
    refine En (λc9=>?_) λc9=>⟨rfl,(λh=>by cases h),λ_=>⟨_,_,_,rfl,.inl (of_decide_eq_true c9)⟩⟩
    have c9: ¬z2=pR:=of_decide_eq_false c9
    refine R19.get (i:=2) rfl rfl ?_
    rw[Abq]
    refine⟨rfl,λh=>Acw λhh=>?_,λh=>⟨_,_,_,rfl,.inr ?_⟩⟩
    ·have h:(!decide (z2=m1L))=true:=h
     rcases hh with hh|hh
     ·exact c9 hh
     ·rw[decide_eq_true hh] at h;cases h
    ·have h:(!decide (z2=m1L))=false:=h
     by_cases hh:z2=m1L
     ·exact hh
     ·rw[decide_eq_false hh] at h;cases h
   rintro⟨zb,_⟩ _ ⟨rfl,hb1,hb2⟩ _
   dsimp only at hb1 hb2
   refine bQ (λc8=>bad (by rw[eW];exact hb1 c8) fr19) λc8=>?_
   obtain⟨z0,z1,z2,rfl,hz⟩:=hb2 c8
   have hd2:Yf z1=some zd:=by unfold dayOf at hday;simpa using hday
   have eS:=xO (r:=r) (a:=z0) hz hd2
   refine Vh (λc9=>bad (by rw[eW,eS,if_pos (by have c9:(sl.2.1:Int)=64:=c9;omega)]) fr19) λc9=>?_
   have c9:(sl.2.1:Int)≠64:=c9
   rw[if_neg (by omega)] at eS
   refine Bh.by (λz W'=>w19=W'∧z.1=decide (zd<r.t.st∨late r.t.ls zd)) ?_ ?_
   ·refine B19.i0 rfl (Cf (λc10=>⟨rfl,?_⟩) λc10=>?_)
    ·symm;rw[decide_eq_true_iff];exact .inl c10
    have c10: ¬zd<r.t.st:=c10
    refine Cf (λc11=>?_) λc11=>⟨rfl,?_⟩
    ·have c11:(sl.2.1:Int)>0:=c11
     have hx:r.t.ls[r.t.ls.length-1]? =some (r.t.ls[r.t.ls.length-1]'(by omega)):=List.getElem?_eq_getElem _
     generalize r.t.ls[r.t.ls.length-1]'(by omega)=xl at hx
     refine B19.c1 3 (c:=.sl) (x:=sl) rfl ?_
     have ew:=mG (n:=sl.2.1) (by omega) (by omega)
     rw[show wrap .i64 ((sl.2.1:Int)-1)=((r.t.ls.length-1:Nat):Int) from by rw[ew,hl19]]
     refine(Vz.rows O19).ix rfl hx λa ha=>(Vz.rows O19).f0 ha hx rfl ⟨rfl,?_⟩
     show decide (zd≤xl.1)=_
     refine bq ?_
     rw[decide_eq_true_iff]
     exact⟨λh=>.inr ((Wy hx).2 h),λh=>by
      rcases h with h|h
      ·exact absurd h c10
      ·exact(Wy hx).1 h⟩
    ·have c11: ¬(sl.2.1:Int)>0:=c11
     have:r.t.ls=[]:=List.eq_nil_of_length_eq_zero (by omega)
     symm;rw[decide_eq_false_iff_not,this]
     rintro(h|h)
     ·exact c10 h
     ·exact fP h
   rintro⟨zo,_⟩ _ ⟨rfl,hzo⟩ _
   dsimp only at hzo
   subst hzo
   refine Cf (λc10=>bad (by rw[eW,eS,if_pos c10]) fr19) λc10=>?_
   rw[if_neg c10] at eS
   refine Bh.by (λz W'=>w19=W'∧z.1=if z2=pR then(1:Int) else-1) ?_ ?_
   ·refine R19.get (i:=2) rfl rfl ?_
    rw[Ady]
    refine Am3 (λc11=>⟨rfl,?_⟩) λc11=>⟨rfl,?_⟩
    ·rw[c11,if_neg (by decide)];rfl
    ·rw[if_pos (by rcases hz with h|h;exact h;exact absurd h c11)]
   rintro⟨zs,_⟩ _ ⟨rfl,hzs⟩ _
   dsimp only at hzs
   subst hzs
   refine B19.c1 3 (c:=.sl) (x:=sl) rfl (Ae λp75 w76 e75 k75 u76=>?_)
   have O76:=Dp.Ai O19 u76
   have l19:=B19.lt
   have s19:=u19.size
   have s16:=u16.size
   have s76:=u76.size
   refine Vz.snoc (x:=(zd,if z2=pR then 1 else-1)) (ls:=r.t.ls) (base:=w8.heap.size) (e:=T.Qu) (by kernel_rfl) (by kernel_rfl) O76 k75 (by omega) (by omega) λs' w78 O78 u78=>?_
   have hown: ∀a0,sl.1=some a0→w8.heap.size≤a0.block:=λa0 h0=>(Dp.blk O76 h0).1
   have B78:=(B19.Ai u76).upd u78 λ⟨a0,h0,h1⟩=>by have:=hown a0 h0;omega
   refine B78.sN 3 [.slice s'.1 s'.2.1 s'.2.2] (by simp) rfl λw79 k79 u79=>?_
   rw[eW,eS] at hgo
   refine⟨⟨i+1,⟨1,⟨r.t.st,r.t.ah,r.t.en,r.t.ls++[(zd,if z2=pR then 1 else-1)]⟩⟩,by show(r.q:Int)=((1:Nat):Int);rw[hq1],ei,by omega,aX hI (by rw[est,eW,eS]),⟨s',k79,fA O78 u79 (by omega)⟩,?_,hgo⟩,dec⟩
   exact Rk.trans' (Rk.trans' (Rk.trans' fr19 (Rk.Ai u76)) (u78.mono λj ⟨a0,h0,h1⟩=>.inr (by have:=hown a0 h0;omega))) (Rk.blk u79)
  ·
   have eW:stepW r ws=jC r ws:=by
    unfold stepW;rw[if_neg (by omega),if_pos hq1,if_neg]
    rw[hys];intro h;injection h with h;exact c7 h
   refine Bh.by (λz W'=>w19=W'∧(z.1=true→jC r ws=.inr 3)∧(z.1=false→ ∃b,ws=[Yj,b])) ?_ ?_
   ·refine dS (λc8=>⟨rfl,λ_=>yJ ?_,(λh=>by cases h)⟩) λc8=>?_
    ·have c8:(sw.2.1:Int)≠2:=c8;omega
    have c8:(sw.2.1:Int)=2:=c8
    obtain⟨z0,z1,rfl⟩:=Ai1 (ws:=ws) (by omega)
    refine R19.get (i:=0) rfl rfl ?_
    rw[Ae6,Abq]
    refine⟨rfl,λh=>Aan λhh=>?_,λh=>⟨z1,?_⟩⟩
    ·have h:(!decide (z0=Yj))=true:=h
     rw[decide_eq_true hh] at h;cases h
    ·have h:(!decide (z0=Yj))=false:=h
     by_cases hh:z0=Yj
     ·rw[hh]
     ·rw[decide_eq_false hh] at h;cases h
   rintro⟨zb,_⟩ _ ⟨rfl,hb1,hb2⟩ _
   dsimp only at hb1 hb2
   refine bQ (λc8=>bad (by rw[eW];exact hb1 c8) fr19) λc8=>?_
   obtain⟨z1,rfl⟩:=hb2 c8
   have hd2:Yf z1=some zd:=by unfold dayOf at hday;simpa using hday
   have eS:=wX (r:=r) (a:=Yj) rfl hd2
   refine Bh.by (λz W'=>w19=W'∧z.1=decide (zd≤r.t.st∨late r.t.ls zd)) ?_ ?_
   ·refine B19.i0 rfl (Cf (λc10=>⟨rfl,?_⟩) λc10=>?_)
    ·symm;rw[decide_eq_true_iff];exact .inl c10
    have c10: ¬zd≤r.t.st:=c10
    refine Cf (λc11=>?_) λc11=>⟨rfl,?_⟩
    ·have c11:(sl.2.1:Int)>0:=c11
     have hx:r.t.ls[r.t.ls.length-1]? =some (r.t.ls[r.t.ls.length-1]'(by omega)):=List.getElem?_eq_getElem _
     generalize r.t.ls[r.t.ls.length-1]'(by omega)=xl at hx
     refine B19.c1 3 (c:=.sl) (x:=sl) rfl ?_
     have ew:=mG (n:=sl.2.1) (by omega) (by omega)
     rw[show wrap .i64 ((sl.2.1:Int)-1)=((r.t.ls.length-1:Nat):Int) from by rw[ew,hl19]]
     refine(Vz.rows O19).ix rfl hx λa ha=>(Vz.rows O19).f0 ha hx rfl ⟨rfl,?_⟩
     show decide (zd≤xl.1)=_
     refine bq ?_
     rw[decide_eq_true_iff]
     exact⟨λh=>.inr ((Wy hx).2 h),λh=>by
      rcases h with h|h
      ·exact absurd h c10
      ·exact(Wy hx).1 h⟩
    ·have c11: ¬(sl.2.1:Int)>0:=c11
     have:r.t.ls=[]:=List.eq_nil_of_length_eq_zero (by omega)
     symm;rw[decide_eq_false_iff_not,this]
     rintro(h|h)
     ·exact c10 h
     ·exact fP h
   rintro⟨zo,_⟩ _ ⟨rfl,hzo⟩ _
   dsimp only at hzo
   subst hzo
   refine Cf (λc10=>bad (by rw[eW,eS,if_pos c10]) fr19) λc10=>?_
   rw[if_neg c10] at eS
   rw[eW,eS] at hgo
   refine B19.s1 2 (by simp) λw96 k96 u96=>?_
   refine⟨⟨i+1,⟨2,⟨r.t.st,r.t.ah,zd,r.t.ls⟩⟩,rfl,ei,by omega,aX hI (by rw[est,eW,eS]),⟨sl,k96,fA O19 u96 (by omega)⟩,Rk.trans' fr19 (Rk.blk u96),hgo⟩,dec⟩
 ·have c2: ¬(i:Int)<s.2.1:=c2
  have:i=(Rt 10 l).length:=by omega
  subst this
  rw[List.drop_length,zQ] at hgo
  refine Cf (λc3=>?_) λc3=>?_
  ·have c3:(r.q:Int)<2:=c3
   rw[if_pos (by omega)] at hgo
   rw[hlen]
   exact fail (g8' fr) (b1 fr) (by rw[hp,hgo])
  ·have c3: ¬(r.q:Int)<2:=c3
   rw[if_neg (by omega)] at hgo
   refine Ab0 hB ((b1 fr).E5 (cT r.t sl) rfl rfl λw100 k100 u100=>Ab0 k100 ?_)
   refine h1 r.t (by rw[hp,hgo]) sl w100 (Vz.rows (e:=T.Qu) (base:=w8.heap.size) ?_) (low (g8' fr) (u100.mono λj h=>by omega))
   exact Dp.upd hO u100 λa ha hh=>by have:=(Dp.blk hO ha).1;omega
end Go.Proofs.YtppeepkmnijdpaaGreatDoor
namespace Go.Proofs.YtppeepkmnijdpaaGreatDoor
open Go.Eng Go Go.Shelf Tryz
open Go.IntKind (wrap)
set_option linter.unusedSimpArgs false
set_option linter.unusedVariables false
set_option maxRecDepth 100000
set_option maxHeartbeats 8000000
theorem Au4:shr.t 72=T.Ia:=by kernel_rfl
theorem Aqe:shr.t 5=T.uint8:=by kernel_rfl
def BuW(w:World)(b:Nat)(l:Bs):Prop:=Lib.IsBuilderF T.Ia T.uint8 b b (Lib.byteCells l) w
structure vC(b:Nat)(w w':World):Prop where
 low:Ap (λx=>b≤x) w w'
 oth:Lib.OthersKept T.uint8 (some b) w w'
theorem vC.refl(b:Nat)(w:World):vC b w w:=⟨Ap.refl _ _,Lib.OthersKept.refl _ _ _⟩
theorem vC.trans{b:Nat}{u v w:World}(h:vC b u v)(k:vC b v w):vC b u w:=⟨Ap.trans h.low k.low λ_ _ x=>x,h.oth.trans k.oth⟩
theorem vC.Ai{b:Nat}{w w':World}(h:Ah w w'):vC b w w':=⟨Ap.Ed h,λk o ho _ _=>by rw[h.block k (Array.getElem?_eq_some_iff.1 ho).1 λx=>x];exact ho⟩
theorem vC.mark{b D:Nat}{w w':World}(h:vC b w w')(hD:b<D)(m:Eng.Mark w D):Eng.Mark w' D:=h.oth D _ m (λe=>by injection e with e;omega) λc fz e=>by cases e
theorem zM(l:Bs):Lib.strCells (Fb l)=Lib.byteCells l:=by
 unfold Lib.strCells Lib.byteCells
 simp[Fb]
theorem BuW.keep{w w':World}{b:Nat}{l:Bs}(h:BuW w b l)(hk: ∀(k:Nat) (c:Array Value) (t:TypeId) (fz:Nat×Nat),w.heap[k]? =some (.cells c t fz)→w'.heap[k]? =some (.cells c t fz)):BuW w' b l:=by
 have key: ∀p,Lib.BuilderAtF T.Ia T.uint8 b b p (Lib.byteCells l) w→Lib.BuilderAtF T.Ia T.uint8 b b p (Lib.byteCells l) w':=by
  rintro p ⟨h1,v,h2,⟨h3,h4⟩,h5⟩
  refine⟨h1,v,hk _ _ _ _ h2,⟨h3,?_⟩,h5⟩
  rcases h4 with h4|⟨g,cap,cur,fz,a1,a2,a3,a4⟩
  ·grind
  ·exact .inr ⟨g,cap,cur,fz,a1,a2,hk _ _ _ _ a3,a4⟩
 exact h.elim (λh=>.inl (key _ h)) λh=>.inr (key _ h)
theorem BuW.turn{B:Nat}{w w':World}{b:Nat}{l:Bs}(h:BuW w b l)(t:Turn B w w'):BuW w' b l:=h.keep λk c ty fz ho=>t.block k _ ho (.inr rfl)
theorem Ata{w:World}{k:Addr→WP}(h: ∀b w',w.heap.size=b→BuW w' b []→Ah w w'→k ⟨b,0,none⟩ w'):Bj [.pointer none,.slice none 0 0] T.Ia w k:=by
 refine h _ _ rfl (.inl ⟨Nat.le_refl _,.slice none 0 0,?_,World.ownsRowF_nil _ _ _ _,by simp[Value.ownBlock]⟩) ((Ah.refl w).alloc _)
 show(w.heap.push _)[w.heap.size]? =_
 grind
theorem BuW.Ai{w w':World}{b:Nat}{l:Bs}(h:BuW w b l)(u:Ah w w'):BuW w' b l:=h.keep λk c ty fz ho=>by rw[u.block k (Array.getElem?_eq_some_iff.1 ho).1 λx=>x];exact ho
theorem BuW.lt{w:World}{b:Nat}{l:Bs}(h:BuW w b l):b<w.heap.size:=h.elim (λh=>h.lt) λh=>h.lt
theorem Fe.cl{w:World}{b:Nat}{l:Bs}(h:BuW w b l){k:TR []→WP}
  (hk: ∀w',Lib.BuilderAtF T.Ia T.uint8 b b (.pointer (some ⟨b,0,none⟩)) (Lib.byteCells l) w'→w.heap.size=w'.heap.size→vC b w w'→k () w'):
  Ad prog F.Fe [.pointer (some ⟨b,0,none⟩)] w true [] k:=by
 rcases h with h|h
 ·refine Calls.mono (P:=prog) (f:=F.Fe) (Amv b w h.cell0 h.shape h.frozen0) ?_
  rintro e w' ⟨rfl,rfl⟩
  have hs:w.heap.size=(w.setCell ⟨b,0,none⟩ (.pointer (some ⟨b,0,none⟩))).heap.size:=by simp
  refine⟨(),rfl,hk _ (h.used _) hs ⟨((Ap.refl (λx=>b≤x) w).setCell _ _ λ_=>Nat.le_refl b),(Lib.OthersKept.refl _ _ w).setCell ⟨b,0,none⟩ rfl _⟩⟩
 ·refine Calls.mono (P:=prog) (f:=F.Fe) (Aot b w h.cell0) ?_
  rintro e w' ⟨rfl,rfl⟩
  exact⟨(),rfl,hk _ h rfl (vC.refl b _)⟩
theorem Ar9: ∃i,prog.info? T.uint8=some i∧i.zero=some (.int .u8 0)∧i.size=1∧i.bytes=1:=by
 obtain⟨i,h1,h2⟩:=Option.map_eq_some_iff.1 shX.infoByte
 rw[Aqe] at h1
 grind
theorem Be.cl{w:World}{b:Nat}{l x:Bs}(h:BuW w b l)(hlen:l.length+x.length≤1000000){k:TR [(false,[KI]),(false,[.any])]→WP}
  (hk: ∀w',BuW w' b (l++x)→vC b w w'→k ((x.length,()),(.nilIface,()),()) w'):
  Ad prog F.Be [.pointer (some ⟨b,0,none⟩),.string (Fb x)] w true [(false,[KI]),(false,[.any])] k:=by
 refine Be.ok ?_
 have hb:=h.lt
 refine Fe.cl h λw2 hB sz f2=>?_
 obtain⟨hb0,v,hv,hown,hne⟩:=hB
 obtain⟨s,rfl⟩: ∃s:Sl,v=.slice s.1 s.2.1 s.2.2:=by
  rcases hown.2 with ⟨h0,_⟩|⟨g',cap',cur,fz,hv,_⟩
  ·exact⟨(none,0,0),h0⟩
  ·exact⟨(_,_,_),hv⟩
 have kb:Ar w2 b [.pointer (some ⟨b,0,none⟩),.slice s.1 s.2.1 s.2.2]:=⟨_,hv⟩
 rw[Ac]
 refine kb.c1 1 (c:=.sl) (x:=s) rfl ?_
 obtain⟨i,hi,hz,hs,hby⟩:=Ar9
 have hcl:(Lib.byteCells l).length=l.length:=by simp[Lib.byteCells]
 obtain⟨v',w6,hr,hown',hgr,_⟩:=Lib.run_append_own_stringF (P:=prog) (w:=w2) b T.D6 T.string T.D6 T.uint8 i (by kernel_rfl) (by kernel_rfl) hi hz hs hby _ _ _ hown (Fb x)
  (by rw[hcl,Pq];unfold maxLen;omega) (by rw[hcl,Pq];omega) (by omega)
 obtain⟨s',rfl⟩: ∃s':Sl,v'=.slice s'.1 s'.2.1 s'.2.2:=by
  rcases hown'.2 with ⟨h0,_⟩|⟨g',cap',cur,fz,hv,_⟩
  ·exact⟨(none,0,0),h0⟩
  ·exact⟨(_,_,_),hv⟩
 have hsl: ∀K:Sl→WP,Qj (.ok (.slice s'.1 s'.2.1 s'.2.2) w6) K=K s' w6:=λK=>rfl
 rw[hr,hsl]
 rw[Ac]
 have hb2:b<w2.heap.size:=by omega
 have hv6:w6.heap[b]? =some (.cells #[.pointer (some ⟨b,0,none⟩),.slice s.1 s.2.1 s.2.2] T.Ia (0,0)):=by
  rw[hgr.block b hb2 λe=>hne e.symm];exact hv
 have f6:vC b w2 w6:=by
  refine⟨⟨hgr.os,hgr.tape,hgr.output,hgr.size,λj hj hn=>hgr.block j hj λe=>hn ?_⟩,?_⟩
  ·exact(hown.lt j e.symm).1
  ·refine(Lib.OthersKept.refl T.uint8 (some b) w2).grown hgr λg hg=>?_
   rcases hown.2 with ⟨h0,_⟩|⟨g',cap',cur,fz,hv,_,hgg,_⟩
   ·rw[h0] at hg;cases hg
   ·rw[hv] at hg
    simp only[Value.ownBlock,Option.some.injEq] at hg
    subst hg
    exact⟨_,_,hgg⟩
 rw[Lr,Nat.zero_add]
 have kb6:Ar w6 b [.pointer (some ⟨b,0,none⟩),.slice s.1 s.2.1 s.2.2]:=⟨_,hv6⟩
 rw[show Au [Value.slice s'.1 s'.2.1 s'.2.2] ⟨b,1,none⟩ 0 w6=λK=>K (w6.setCell ⟨b,1,none⟩ (.slice s'.1 s'.2.1 s'.2.2)) from ?_]
 ·have hput:Lib.BuilderAtF T.Ia T.uint8 b b (.pointer (some ⟨b,0,none⟩)) (Lib.byteCells l++Lib.strCells (Fb x)) (w6.setCell ⟨b,1,none⟩ (.slice s'.1 s'.2.1 s'.2.2)):=
   Lib.BuilderAtF.put (Nat.le_refl b) hv6 (by simpa [Lib.strCells_length] using hown') (by rw[←Au4,←Aqe];exact shX.neB5)
  have e:Lib.byteCells l++Lib.strCells (Fb x)=Lib.byteCells (l++x):=by rw[zM];simp[Lib.byteCells]
  rw[e] at hput
  have:=hk _ (.inr hput) (f2.trans (f6.trans ⟨((Ap.refl (λx=>b≤x) w6).setCell _ _ λ_=>Nat.le_refl b),(Lib.OthersKept.refl _ _ w6).setCell ⟨b,1,none⟩ rfl _⟩))
  trivial
 ·funext K
  show(match w6.cell? ⟨b,1,none⟩ with|some _=>_|none=>False)=_
  rw[kb6.cell]
  show(if w6.frozen? ⟨b,1,none⟩=true then False else Au [] _ _ _ K)=_
  rw[kb6.thaw,if_neg (by decide)]
  rfl
theorem Il.cl{w:World}{b:Nat}{l:Bs}(h:BuW w b l){k:TR [(false,[.s])]→WP}(hk: ∀w',vC b w w'→k ((Fb l,()),()) w'):
  Ad prog F.Il [.pointer (some ⟨b,0,none⟩)] w false [(false,[.s])] k:=by
 have hb:=h.lt
 have c:=Any.Builder_String_any_k Aus shX b b l w (by trivial) (by omega)
 refine Calls.mono (P:=prog) (f:=F.Il) c ?_
 rintro e w' ⟨rfl,_,h2,h3⟩
 refine⟨((Fb l,()),()),rfl,hk w' ⟨⟨h2.os,h2.tape,h2.output,h2.size,λj hj hn=>h2.block j (by omega)⟩,?_⟩⟩
 trivial
theorem Qc.cl{n:Int}(h1: -719162≤n)(h2:n≤2932896){w:World}{k:TR [(false,[.s])]→WP}(h: ∀w',Ah w w'→k ((Fb (datL n),()),()) w'):Ad prog F.Qc [iV n] w false [(false,[.s])] k:=by
 refine Qc.ok ?_
 refine Vb.cl (by unfold I64;omega) (λc=>absurd c (by omega)) λ_ _ d hg hd w2 u2=>?_
 refine Ae λp3 w4 e3 k3 u4=>k3.E5 _ rfl rfl λw5 k5 u5=>Ar.Xd k5 (Ls.cl (d:=d) λw8 u8=>?_)
 have g5:Ah w w5:=u2.trans (Ah.fresh (Ah.refl _) u4 u5 e3)
 have:=h w8 (g5.trans u8)
 rw[←Aft hg hd,←xB hg] at this;exact this
theorem Ha.r{n:Int}(h1: -719162≤n)(h2:n≤2932896){w:World}{k:TR [(false,[.s])]→WP}(h: ∀w',Ah w w'→k ((Fb (datL n),()),()) w'):Ad prog F.Ha [iV n] w false [(false,[.s])] k:=
 Ha.cl h1 h2 λd hg hd w' u=>by rw[Aft hg hd];exact h w' u
theorem Ajs:(⟨#[115,116,97,114,116,32]⟩:ByteArray)=Fb (La++[32]):=rfl
theorem Ajr:(⟨#[108,101,97,112,32]⟩:ByteArray)=Fb (Yb++[32]):=rfl
theorem Ak6:(⟨#[101,110,100,32]⟩:ByteArray)=Fb (Yj++[32]):=rfl
theorem Ak5:(⟨#[32]⟩:ByteArray)=Fb [32]:=rfl
theorem Anc:(⟨#[10]⟩:ByteArray)=Fb [10]:=rfl
theorem Asb:(⟨#[43,49]⟩:ByteArray)=Fb pR:=rfl
theorem Arp:(⟨#[45,49]⟩:ByteArray)=Fb m1L:=rfl
theorem Ao2:(⟨#[32,43,49,10]⟩:ByteArray)=Fb (32::(pR++[10])):=rfl
theorem An1:(⟨#[32,45,49,10]⟩:ByteArray)=Fb (32::(m1L++[10])):=rfl
theorem yF(m:V9)(i:Nat)(hi:i≤m.ls.length):txtT m=Pg (lnS m::(m.ls.take i).map lnL)++Pg ((m.ls.drop i).map lnL++[lnE m]):=by
 rw[←zA]
 unfold txtT lnsT
 congr 1
 have:m.ls.map lnL=(m.ls.take i).map lnL++(m.ls.drop i).map lnL:=by simp
 grind
theorem xJ(a:List Bs)(l:Bs):Pg (a++[l])=Pg a++(l++[10]):=by simp[Pg]
theorem sQ{m:V9}{i:Nat}(hg:Tq m)(hi:i≤m.ls.length):(Pg (lnS m::(m.ls.take i).map lnL)).length≤2000:=by
 have h: ∀l∈lnS m::(m.ls.take i).map lnL,l.length≤19:=λl hl=>by
  rcases List.mem_cons.1 hl with rfl|hl
  ·exact Afg m
  ·obtain⟨x,_,rfl⟩:=List.mem_map.1 hl;exact Aah x
 have:=xG h
 simp only[List.length_cons,List.length_map,List.length_take] at this
 have:=hg.2.2.1
 omega
theorem Ab6{m:V9}(hg:Tq m){l:P2}(hl:l∈m.ls): -719162≤l.1∧l.1≤2932896:=by
 have:=hg.2.2.2.mem l hl
 have:=hg.1
 unfold Xx at this
 omega
theorem Uf.cl{w:World}{m:V9}{s:Sl}(hR:Ox w s m.ls)(hg:Tq m){k:TR [(false,[.s])]→WP}(h: ∀w',Ah w w'→k ((Fb (txtT m),()),()) w'):
  Ad prog F.Uf [vT m s] w false [(false,[.s])] k:=by
 refine Uf.ok ?_
 have hl:=hR.len
 have hr:=hg.1
 unfold Xx at hr
 have n64:=hg.2.2.1
 rw[Ajs,Ak5,Anc,Ajr,Ak6,Ao2,An1]
 refine Ae λp1 w2 e1 k1 u1=>?_
 rw[Aq]
 have k3:=k1.drew
 have g3:=u1.trans (Ah.drew w2)
 generalize w2.drew=w3 at k3 g3
 obtain⟨a,ea⟩: ∃a:Nat,m.ah=a:=⟨m.ah.toNat,by omega⟩
 refine k3.i0 rfl (k3.i1 1 rfl (Ha.r hr.1 hr.2.1 λw7 u7=>⟨⟨k3.hold u7 (λx=>x) 1 (by simp),k3.hold u7 (λx=>x) 0 (by simp),trivial⟩,?_⟩))
 refine Fz (by simp[Hq,La]) ?_
 rw[Di]
 refine Fz (by simp[Hq,La]) ?_
 rw[Di,ea]
 refine strconv_Itoa.cl (n:=a) (by omega) ⟨⟨k3.hold u7 (λx=>x) 0 (by simp),trivial⟩,?_⟩
 have la:=qO a
 refine Fz (by simp[Hq,La];omega) ?_
 rw[Di]
 refine Fz (by simp[Hq,La];omega) ?_
 rw[Di]
 have g7:=g3.trans u7
 have k7:=k3.Ai u7
 refine k7.c1 3 (c:=.sl) (x:=s) rfl ?_
 have e0:(((La++[32]++datL m.st)++[32])++aJ a)++[10]=Pg (lnS m::(m.ls.take 0).map lnL):=by
  simp[Pg,lnS,ea]
 rw[e0]
 refine Aw.by (λz W=> ∃i:Nat,z.2.1=i∧i≤m.ls.length∧z.1=Fb (Pg (lnS m::(m.ls.take i).map lnL))∧Ah w W∧Ar W p1 [iV m.st,iV m.ah,iV m.en,.slice s.1 s.2.1 s.2.2]) (λz=>((m.ls.length:Int)-z.2.1).toNat) ⟨0,rfl,by omega,rfl,g7,k7⟩ ?_
 rintro⟨zt,zi,_⟩ W ⟨i,ez,hi,et,hG,hB⟩ _
 dsimp only at ez et
 subst ez et
 have hln:=sQ hg hi
 have hmx: ∀{n:Nat},n≤100→(Pg (lnS m::(m.ls.take i).map lnL)).length+n≤1000000000000:=λh=>by omega
 refine Cf (λc=>?_) λc=>?_
 ·have c:(i:Int)<s.2.1:=c
  have hi':i<m.ls.length:=by omega
  have hx:m.ls[i]? =some m.ls[i]:=List.getElem?_eq_getElem hi'
  have hst:=hg.2.1 _ (List.getElem_mem hi')
  have hrg:=Ab6 hg (List.getElem_mem hi')
  have tk:m.ls.take (i+1)=m.ls.take i++[m.ls[i]]:=by rw[List.take_add_one,hx];rfl
  generalize m.ls[i]=x at hx hst hrg tk
  have RW:=hR.Ai hG
  refine RW.ix rfl hx λa0 ha=>RW.Bc ha hx (Ae λp16 w17 e16 k16 u17=>k16.E5 _ rfl rfl λw18 k18 u18=>?_)
  have g18:Ah W w18:=Ah.fresh (Ah.refl _) u17 u18 e16
  refine Bh.by (λz W'=>w18=W'∧z.1=Fb (32::(sgn x.2++[10]))) ?_ ?_
  ·unfold Stp at hst
   unfold sgn
   refine k18.i1 1 rfl (Vh (λc2=>⟨rfl,?_⟩) λc2=>⟨rfl,?_⟩)
   ·have c2:x.2= -1:=c2
    rw[if_pos (by omega)]
   ·have c2: ¬x.2= -1:=c2
    rw[if_neg (by omega)]
  rintro⟨zs,_⟩ _ ⟨rfl,hzs⟩ _
  dsimp only at hzs
  subst hzs
  have lsg:(sgn x.2).length=2:=by unfold sgn;split<;>rfl
  refine Fz (hmx (by simp[Yb])) (k18.i0 rfl (Ha.r hrg.1 hrg.2 λw25 u25=>?_))
  rw[Di]
  refine Fz (by simp only[Yb,Hq,List.length_append,List.length_cons,List.length_nil];omega) ?_
  rw[Di]
  refine Fz (by simp only[Yb,Hq,lsg,List.length_append,List.length_cons,List.length_nil];omega) ?_
  rw[Di]
  have ei:wrap .i64 ((i:Int)+1)=((i+1:Nat):Int):=by rw[Af (by unfold I64;omega)];omega
  refine⟨⟨i+1,ei,by omega,?_,(hG.trans g18).trans u25,(hB.Ai g18).Ai u25⟩,?_⟩
  ·show Fb _=_
   rw[tk,List.map_append,List.map_singleton,show∀A:List Bs,lnS m::(A++[lnL x])=(lnS m::A)++[lnL x] from λ_=>rfl,xJ]
   simp[lnL]
  ·show((m.ls.length:Int)-wrap .i64 ((i:Int)+1)).toNat<((m.ls.length:Int)-(i:Int)).toNat
   rw[ei];omega
 ·have c: ¬(i:Int)<s.2.1:=c
  have:i=m.ls.length:=by omega
  subst this
  refine Fz (hmx (by simp[Yj])) (hB.i1 2 rfl (Ha.r hr.2.2.1 hr.2.2.2.1 λw28 u28=>?_))
  rw[Di]
  refine Fz (by simp only[Yj,Hq,List.length_append,List.length_cons,List.length_nil];omega) ?_
  rw[Di]
  refine Fz (by simp only[Yj,Hq,List.length_append,List.length_cons,List.length_nil];omega) ?_
  rw[Di]
  have:=h w28 (hG.trans u28)
  have e:((Pg (lnS m::(m.ls.take m.ls.length).map lnL)++(Yj++[32]))++datL m.en)++[10]=txtT m:=by
   rw[yF m m.ls.length (Nat.le_refl _),List.drop_length]
   simp[Pg,lnE]
  grind
theorem Fj.tg{w:World}{b:Nat}{m:V9}{s:Sl}(hB:Ar w b (cT m s)){k:TR [(false,[.any])]→WP}
  (hk: ∀pb w',w.heap.size=pb→Ah w w'→w'.heap[pb]? =some (.cells #[.slice s.1 s.2.1 s.2.2] T.Qx (0,0))→w'.heap.size=pb+1→k ((.func (.func F.Cc) #[] #[.pointer (some ⟨pb,0,none⟩)],()),()) w'):
  Ad prog F.Fj [.pointer (some ⟨b,0,none⟩)] w false [(false,[.any])] k:=by
 refine Fj.ok ?_
 refine Le rfl ?_
 refine hB.c1 3 (c:=.sl) (x:=s) rfl ?_
 refine Ec.ok ?_
 refine hk _ _ rfl ((Ah.refl w).alloc _) ?_ (by simp)
 show(w.heap.push _)[w.heap.size]? =_
 grind
theorem Ll.cl{w:World}{b:Nat}{m:V9}(hT:TbW w b m)(hg:Tq m){k:TR [(false,[.s])]→WP}(h: ∀w',Ah w w'→k ((Fb (txtT m),()),()) w'):
  Ad prog F.Ll [.pointer (some ⟨b,0,none⟩)] w false [(false,[.s])] k:=by
 refine Ll.ok ?_
 have hr:=hg.1
 unfold Xx at hr
 have n64:=hg.2.2.1
 have hb:=hT.lt
 rw[Ajs,Ak5,Anc,Ajr,Ak6,Asb,Arp]
 refine Le rfl (Ata λp1 w2 e1 kb u1=>?_)
 rw[Aq]
 have kb3:=kb.Ai (Ah.drew w2)
 have g3:=u1.trans (Ah.drew w2)
 have s2:p1<w2.drew.heap.size:=kb3.lt
 generalize w2.drew=w3 at kb3 g3 s2
 obtain⟨s',hB0,hR0⟩:=hT
 have hB:=hB0.Ai g3
 have hR:=hR0.Ai g3
 obtain⟨a,ea⟩: ∃a:Nat,m.ah=a:=⟨m.ah.toNat,by omega⟩
 have low: ∀{W W':World},Ah w W→vC p1 W W'→Ah w W':=λg u=>Ap.trans g u.low λj hj h=>by omega
 rw[Ac]
 refine hB.i0 rfl ?_
 rw[Ac]
 refine hB.i1 1 rfl (Qc.cl hr.1 hr.2.1 λw9 u9=>⟨⟨hB.hold u9 (λx=>x) 1 (by simp),hB.hold u9 (λx=>x) 0 (by simp),trivial⟩,?_⟩)
 have la:=qO a
 refine Fz (by simp only[La,Hq,List.length_append,List.length_cons,List.length_nil];omega) ?_
 rw[Di]
 refine Fz (by simp only[La,Hq,List.length_append,List.length_cons,List.length_nil];omega) ?_
 rw[Di,ea]
 refine strconv_Itoa.cl (n:=a) (by omega) ⟨⟨hB.hold u9 (λx=>x) 1 (by simp),hB.hold u9 (λx=>x) 0 (by simp),trivial⟩,?_⟩
 refine Fz (by simp only[La,Hq,List.length_append,List.length_cons,List.length_nil];omega) ?_
 rw[Di]
 refine Fz (by simp only[La,Hq,List.length_append,List.length_cons,List.length_nil];omega) ?_
 rw[Di]
 have e0:(((La++[32]++datL m.st)++[32])++aJ a)++[10]=Pg (lnS m::(m.ls.take 0).map lnL):=by
  simp[Pg,lnS,ea]
 rw[e0]
 have h0:=sQ hg (Nat.zero_le _)
 refine Be.cl (l:=[]) (x:=Pg (lnS m::(m.ls.take 0).map lnL)) (kb3.Ai u9) (by simp only[List.length_nil];omega) λw13 kb13 f13=>?_
 rw[List.nil_append] at kb13
 have g9:=g3.trans u9
 have g13:=low g9 f13
 have f39:vC p1 w3 w13:=(vC.Ai u9).trans f13
 refine⟨⟨hB.hold f39.low (by omega) 1 (by simp),hB.hold f39.low (by omega) 0 (by simp),trivial⟩,?_⟩
 have hB13:=hB0.Ai g13
 have hR13:=hR0.Ai g13
 refine Fj.tg hB13 λpb w15 eb u15 hpb sz15=>?_
 have g15:=g13.trans u15
 have hR15:=hR13.Ai u15
 have s13:=f39.low.size
 have hall: ∀l∈m.ls,Stp l:=hg.2.1
 have hrow:m.ls≠[]→ ∀a,s'.1=some a→a.block<w.heap.size:=λhx a ha=>hR0.blk hx ha
 refine⟨λx=>dJ x∈m.ls,m.ls.map lV,λz=>p1≤z∧z≠pb,
  λpre W=>Ah w W∧BuW W p1 (Pg (lnS m::(pre.map dJ).map lnL))∧W.heap[pb]? =some (.cells #[.slice s'.1 s'.2.1 s'.2.2] T.Qx (0,0))∧ ∀l∈pre.map dJ,l∈m.ls,λ_ _ _=>False,
  dL.Ad4 (λl hl=>hl) ⟨_,hpb⟩ hR15 (by omega) (λhh=>hh.2 rfl) (λhx a ha hh=>by have:=hrow hx a ha;omega),
  λW tu=>⟨g15.turn tu g15.size,?_,tu.block pb _ hpb (.inr rfl),λl h=>by cases h⟩,?_,?_,λs hs=>by cases hs⟩
 ·exact(kb13.Ai u15).turn tu
 ·intro x W hx hs
  refine Ae λp24 w25 e24 k24 u25=>k24.E5 _ rfl rfl λw26 k26 u26=>iC (Ah.fresh (Ah.refl W) u25 u26 e24) ?_
  rintro W2 tu pre ⟨hg2,hbu,hpb2,hpre⟩ hlen
  rw[List.length_map] at hlen
  have k2:=k26.turn tu
  have hst:Stp (dJ x):=hall _ hx
  have hrg:=Ab6 hg hx
  refine Bh.by (λz W'=>W2=W'∧z.1=Fb (sgn (dJ x).2)) ?_ ?_
  ·refine k2.i1 1 rfl (Cf (λc2=>⟨rfl,?_⟩) λc2=>⟨rfl,?_⟩)
   ·have c2:(dJ x).2<0:=c2
    unfold sgn;rw[if_pos c2]
   ·have c2: ¬(dJ x).2<0:=c2
    unfold sgn;rw[if_neg c2]
  rintro⟨zs,_⟩ _ ⟨rfl,hzs⟩ _
  dsimp only at hzs
  subst hzs
  have lsg:(sgn (dJ x).2).length=2:=by unfold sgn;split<;>rfl
  refine k2.i0 rfl (Qc.cl (n:=(dJ x).1) hrg.1 hrg.2 λw33 u33=>?_)
  refine Fz (by simp only[Yb,Hq,List.length_append,List.length_cons,List.length_nil];omega) ?_
  rw[Di]
  refine Fz (by simp only[Yb,Hq,List.length_append,List.length_cons,List.length_nil];omega) ?_
  rw[Di]
  refine Fz (by simp only[Yb,Hq,lsg,List.length_append,List.length_cons,List.length_nil];omega) ?_
  rw[Di]
  refine Fz (by simp only[Yb,Hq,lsg,List.length_append,List.length_cons,List.length_nil];omega) ?_
  rw[Di]
  have hlb:(Pg (lnS m::(pre.map dJ).map lnL)).length≤2000:=by
   have h: ∀l∈lnS m::(pre.map dJ).map lnL,l.length≤19:=λl hl=>by
    rcases List.mem_cons.1 hl with rfl|hl
    ·exact Afg m
    ·obtain⟨x,_,rfl⟩:=List.mem_map.1 hl;exact Aah x
   have:=xG h
   simp only[List.length_cons,List.length_map] at this
   omega
  have ex:(((Yb++[32]++datL (dJ x).1)++[32])++sgn (dJ x).2)++[10]=lnL (dJ x)++[10]:=by simp[lnL]
  rw[ex]
  refine Be.cl (hbu.Ai u33) (by have:=Aah (dJ x);simp only[List.length_append,List.length_cons,List.length_nil];omega) λw35 kb35 f35=>?_
  have f:vC p1 W2 w35:=(vC.Ai u33).trans f35
  have hpb35:w35.heap[pb]? =some (.cells #[.slice s'.1 s'.2.1 s'.2.2] T.Qx (0,0)):=f.oth pb _ hpb2 (λe=>by injection e with e;omega) λc fz e=>by injection e with _ e;exact absurd e (by decide)
  refine⟨⟨f.low.os,f.low.tape,f.low.output,f.low.size,λj o hj hM ho=>?_,λj o hj ho hc=>?_⟩,λW4 t4=>⟨(low hg2 f).turn t4 g15.size,?_,t4.block pb _ hpb35 (.inr rfl),?_⟩⟩
  ·by_cases c:j=pb
   ·subst c;rw[hpb2] at ho;injection ho with ho;subst ho;exact hpb35
   ·have hj1:j<p1:=by
     rcases Nat.lt_or_ge j p1 with h|h
     ·exact h
     ·exact absurd ⟨h,c⟩ hM
    rw[f.low.block j (Array.getElem?_eq_some_iff.1 ho).1 (by omega)];exact ho
  ·refine f.oth j o ho (λe=>by injection e with e;omega) λc fz e=>?_
   subst e;cases hc
  ·have e:(pre++[x]).map dJ=pre.map dJ++[dJ x]:=by simp
   rw[e,List.map_append,List.map_singleton,show∀A:List Bs,lnS m::(A++[lnL (dJ x)])=(lnS m::A)++[lnL (dJ x)] from λ_=>rfl,xJ]
   exact kb35.turn t4
  ·intro l hl
   rw[List.map_append] at hl
   rcases List.mem_append.1 hl with hl|hl
   ·exact hpre l hl
   ·rw[List.mem_singleton.1 hl];exact hx
 ·rintro D W hD ⟨hgW,hbu,_,_⟩ hm
  rw[Ae7] at hbu
  have hB2:=hB0.Ai hgW
  refine hB2.i1 2 rfl (Qc.cl hr.2.2.1 hr.2.2.2.1 λw39 u39=>?_)
  refine Fz (by simp only[Yj,Hq,List.length_append,List.length_cons,List.length_nil];omega) ?_
  rw[Di]
  refine Fz (by simp only[Yj,Hq,List.length_append,List.length_cons,List.length_nil];omega) ?_
  rw[Di]
  have hle:=sQ (i:=m.ls.length) hg (Nat.le_refl _)
  rw[List.take_length] at hle
  refine Be.cl (hbu.Ai u39) (by simp only[Yj,Hq,List.length_append,List.length_cons,List.length_nil];omega) λw41 kb41 f41=>Il.cl kb41 λw43 f43=>?_
  have f:vC p1 W w43:=((vC.Ai u39).trans f41).trans f43
  refine jZ (f.mark (by omega) hm) λw44 ht=>?_
  have:=h w44 ((low hgW f).turn (ht w.heap.size (Nat.le_trans g15.size hD)) (Nat.le_refl _))
  have e:Pg (lnS m::m.ls.map lnL)++(((Yj++[32])++datL m.en)++[10])=txtT m:=by
   rw[yF m m.ls.length (Nat.le_refl _),List.drop_length,List.take_length]
   rfl
  grind
end Go.Proofs.YtppeepkmnijdpaaGreatDoor
namespace Go.Proofs.YtppeepkmnijdpaaGreatDoor
open Go.Eng Go Tryz
open Go.IntKind (wrap)
set_option linter.unusedSimpArgs false
set_option linter.unusedVariables false
set_option maxRecDepth 100000
set_option maxHeartbeats 8000000
theorem Sv.cl{w:World}{m:V9}{s:Sl}(hR:Ox w s m.ls)(hn:m.ls.length≤1000000){k:TR Tm→WP}(h: ∀w',Ah w w'→k ((rY m,()),()) w'):
  Ad prog F.Sv [vT m s] w false Tm k:=by
 refine Sv.ok ?_
 have hl:=hR.len
 refine Ae λp1 w2 e1 k1 u1=>?_
 have one:(¬Xx m∨ ¬ ∀l∈m.ls,Stp l)→ ∀{w'},Ah w w'→k ((1,()),()) w':=λhc w' g=>by
  have e:rY m=1:=by
   unfold rY
   rcases hc with hc|hc
   ·rw[if_pos hc]
   ·by_cases c:Xx m
    ·rw[if_neg (λx=>x c),if_pos hc]
    ·rw[if_pos c]
  have:=h w' g;rw[e] at this;exact this
 refine k1.i0 rfl (Cf (λc=>one (.inl λhh=>by have c:m.st< -719162:=c;unfold Xx at hh;omega) u1) λc1=>?_)
 refine k1.i0 rfl (Cf (λc=>one (.inl λhh=>by have c:m.st>2932896:=c;unfold Xx at hh;omega) u1) λc2=>?_)
 refine k1.i1 2 rfl (Cf (λc=>one (.inl λhh=>by have c:m.en< -719162:=c;unfold Xx at hh;omega) u1) λc3=>?_)
 refine k1.i1 2 rfl (Cf (λc=>one (.inl λhh=>by have c:m.en>2932896:=c;unfold Xx at hh;omega) u1) λc4=>?_)
 refine k1.i0 rfl (k1.i1 2 rfl (Cf (λc=>one (.inl λhh=>by have c:m.st≥m.en:=c;unfold Xx at hh;omega) u1) λc5=>?_))
 refine k1.i1 1 rfl (Cf (λc=>one (.inl λhh=>by have c:m.ah<0:=c;unfold Xx at hh;omega) u1) λc6=>?_)
 refine k1.i1 1 rfl (Cf (λc=>one (.inl λhh=>by have c:m.ah>99:=c;unfold Xx at hh;omega) u1) λc7=>?_)
 have hr:Xx m:=by
  have c1: ¬m.st< -719162:=c1
  have c2: ¬m.st>2932896:=c2
  have c3: ¬m.en< -719162:=c3
  have c4: ¬m.en>2932896:=c4
  have c5: ¬m.st≥m.en:=c5
  have c6: ¬m.ah<0:=c6
  have c7: ¬m.ah>99:=c7
  unfold Xx;omega
 refine k1.c1 3 (c:=.sl) (x:=s) rfl ?_
 refine Aw.by (λz W=> ∃i:Nat,z.1=i∧i≤m.ls.length∧Ah w2 W∧ ∀l∈m.ls.take i,Stp l) (λz=>((m.ls.length:Int)-z.1).toNat) ⟨0,rfl,by omega,Ah.refl _,by simp⟩ ?_
 rintro⟨zi,_⟩ W ⟨i,ez,hi,hG,hs⟩ _
 dsimp only at ez
 subst ez
 have kW:=k1.Ai hG
 have gW:=u1.trans hG
 refine Cf (λc=>?_) λc=>?_
 ·have c:(i:Int)<s.2.1:=c
  have hi':i<m.ls.length:=by omega
  have hx:m.ls[i]? =some m.ls[i]:=List.getElem?_eq_getElem hi'
  have hmem:=List.getElem_mem hi'
  have tk:m.ls.take (i+1)=m.ls.take i++[m.ls[i]]:=by rw[List.take_add_one,hx];rfl
  generalize m.ls[i]=x at hx hmem tk
  have RW:=hR.Ai gW
  have ei:=kR hi' (show m.ls.length≤1000000000 by omega)
  refine RW.ix rfl hx λa ha=>RW.Bc ha hx (Ae λp17 w18 e17 k17 u18=>k17.E5 _ rfl rfl λw19 k19 u19=>?_)
  have g19:Ah W w19:=Ah.fresh (Ah.refl _) u18 u19 e17
  have next:Stp x→(∃i':Nat,wrap .i64 ((i:Int)+1)=i'∧i'≤m.ls.length∧Ah w2 w19∧ ∀l∈m.ls.take i',Stp l)∧((m.ls.length:Int)-wrap .i64 ((i:Int)+1)).toNat<((m.ls.length:Int)-(i:Int)).toNat:=λhx=>by
   refine⟨⟨i+1,ei,by omega,hG.trans g19,?_⟩,by rw[ei];omega⟩
   intro l hl
   rw[tk] at hl
   rcases List.mem_append.1 hl with hl|hl
   ·exact hs l hl
   ·rw[List.mem_singleton.1 hl];exact hx
  refine k19.i1 1 rfl (dS (λc2=>k19.i1 1 rfl (dS (λc3=>one (.inr λhh=>?_) (gW.trans g19)) λc3=>next (.inr c3))) λc2=>next (.inl c2))
  have c2:x.2≠1:=c2
  have c3:x.2≠Int.negSucc 0:=c3
  have:=hh x hmem
  unfold Stp at this
  rcases this with h|h
  ·exact c2 h
  ·exact c3 h
 have c: ¬(i:Int)<s.2.1:=c
 have:i=m.ls.length:=by omega
 subst this
 rw[List.take_length] at hs
 refine kW.c1 3 (c:=.sl) (x:=s) rfl (Cf (λc2=>?_) λc2=>?_)
 ·have c2:(s.2.1:Int)>64:=c2
  have e:rY m=6:=by unfold rY;rw[if_neg (λx=>x hr),if_neg (λx=>x hs),if_pos (by omega)]
  have:=h W gW;rw[e] at this;exact this
 have c2: ¬(s.2.1:Int)>64:=c2
 refine kW.c1 3 (c:=.sl) (x:=s) rfl ?_
 have twelve: ¬Asc m.en (m.st-1) m.ls→ ∀{w'},Ah w w'→k ((12,()),()) w':=λhc w' g=>by
  have e:rY m=12:=by unfold rY;rw[if_neg (λx=>x hr),if_neg (λx=>x hs),if_neg (by omega),if_pos hc]
  have:=h w' g;rw[e] at this;exact this
 refine Aw.by (λz W=> ∃i:Nat,z.1=i∧i≤m.ls.length∧Ah w2 W∧Asc m.en (m.st-1) (m.ls.take i)) (λz=>((m.ls.length:Int)-z.1).toNat) ⟨0,rfl,by omega,hG,by simp[Asc]⟩ ?_
 rintro⟨zi,_⟩ W ⟨i,ez,hi,hG,hA⟩ _
 dsimp only at ez
 subst ez
 have gW:=u1.trans hG
 refine Cf (λc=>?_) λc=>?_
 ·have c:(i:Int)<s.2.1:=c
  have hi':i<m.ls.length:=by omega
  have hx:m.ls[i]? =some m.ls[i]:=List.getElem?_eq_getElem hi'
  have hmem:=List.getElem_mem hi'
  have tk:m.ls.take (i+1)=m.ls.take i++[m.ls[i]]:=by rw[List.take_add_one,hx];rfl
  generalize m.ls[i]=x at hx hmem tk
  have RW:=hR.Ai gW
  have ei:=kR hi' (show m.ls.length≤1000000000 by omega)
  refine RW.ix rfl hx λa ha=>RW.Bc ha hx (Ae λp17 w18 e17 k17 u18=>k17.E5 _ rfl rfl λw19 k19 u19=>?_)
  have g19:Ah W w19:=Ah.fresh (Ah.refl _) u18 u19 e17
  rw[Aq]
  have g32:=(gW.trans g19).trans (Ah.drew w19)
  have G32:=(hG.trans g19).trans (Ah.drew w19)
  have q1:=(k1.Ai (hG.trans g19)).drew
  have k19:Ar w19.drew p17 [iV x.1,iV x.2]:=k19.drew
  have R32:=hR.Ai g32
  generalize w19.drew=w32 at g32 G32 q1 k19 R32
  refine k19.i0 rfl (q1.i0 rfl (Cf (λc3=>twelve (λhh=>?_) g32) λc3=>?_))
  ·have c3:x.1<m.st:=c3
   have:=hh.mem x hmem;omega
  refine k19.i0 rfl (q1.i1 2 rfl (Cf (λc4=>twelve (λhh=>?_) g32) λc4=>?_))
  ·have c4:x.1≥m.en:=c4
   have:=hh.mem x hmem;omega
  have c3: ¬x.1<m.st:=c3
  have c4: ¬x.1≥m.en:=c4
  have next: ¬late (m.ls.take i) x.1→(∃i':Nat,wrap .i64 ((i:Int)+1)=i'∧i'≤m.ls.length∧Ah w2 w32∧Asc m.en (m.st-1) (m.ls.take i'))∧((m.ls.length:Int)-wrap .i64 ((i:Int)+1)).toNat<((m.ls.length:Int)-(i:Int)).toNat:=λhx=>by
   refine⟨⟨i+1,ei,by omega,G32,?_⟩,by rw[ei];omega⟩
   rw[tk]
   exact Abl hA (by omega) (by omega) (rP hA hx)
  refine Cf (λc5=>?_) λc5=>next ?_
  ·have c5:(i:Int)>0:=c5
   have hy:m.ls[i-1]? =some (m.ls[i-1]'(by omega)):=List.getElem?_eq_getElem _
   generalize m.ls[i-1]'(by omega)=y at hy
   have ew:wrap .i64 ((i:Int)-1)=((i-1:Nat):Int):=by rw[Af (by unfold I64;omega)];omega
   refine k19.i0 rfl (q1.c1 3 (c:=.sl) (x:=s) rfl ?_)
   rw[show wrap .i64 (((i:Int),()).1-1)=((i-1:Nat):Int) from ew]
   refine R32.ix rfl hy λa ha=>R32.f0 ha hy rfl (Cf (λc6=>twelve (λhh=>?_) g32) λc6=>next ?_)
   ·have c6:x.1≤y.1:=c6
    have:=iJ hh (show i-1<i by omega) hy hx;omega
   ·have c6: ¬x.1≤y.1:=c6
    rintro⟨z,hz,hd⟩
    rw[List.length_take,Nat.min_eq_left (by omega),List.getElem?_take_of_lt (by omega),hy] at hz
    injection hz with hz
    subst hz;omega
  ·have c5: ¬(i:Int)>0:=c5
   have:i=0:=by omega
   subst this
   exact fP
 ·have c: ¬(i:Int)<s.2.1:=c
  have:i=m.ls.length:=by omega
  subst this
  rw[List.take_length] at hA
  have e:rY m=0:=by unfold rY;rw[if_neg (λx=>x hr),if_neg (λx=>x hs),if_neg (by omega),if_neg (λx=>x hA)]
  have:=h W gW;rw[e] at this;exact this
end Go.Proofs.YtppeepkmnijdpaaGreatDoor
