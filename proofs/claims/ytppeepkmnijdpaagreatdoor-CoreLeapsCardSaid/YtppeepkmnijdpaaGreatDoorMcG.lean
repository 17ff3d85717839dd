import Derived.Test.YtppeepkmnijdpaaGreatDoorMcF
import Derived.Laws.BytesString
import Derived.Laws.IdiomStrings
namespace Go.Proofs.YtppeepkmnijdpaaGreatDoor
open Go.Eng Go Tryz
open Go.IntKind (wrap)
set_option linter.unusedSimpArgs false
set_option linter.unusedVariables false
set_option maxRecDepth 100000
set_option maxHeartbeats 8000000
abbrev RS1:List (Bool×List CK):=[(false,[.s])]
def bv(c:UInt8):Value:=.int .u8 (c.toNat:Int)
theorem Asf{P:Program}{w:World}{a:Addr}{n c:Nat}{l:List UInt8}(hn:l.length=n)(h: ∀i c,l[i]? =some c→w.cell? (a.add i)=some (bv c)){k:ByteArray→WP}(hk:k (Fb l) w):
  bsK P (.slice (some a) n c) w k:=by
 have hl:=run_loadCells_list (P:=P) (w:=w) a ((l.map (λb=>(b.toNat:Int))).map (Value.int .u8)) (λj v hj=>by
  rw[List.getElem?_map,List.getElem?_map] at hj
  cases hc:l[j]? with
  |none=>rw[hc] at hj;cases hj
  |some c=>rw[hc] at hj;simp at hj;rw[h j c hc,←hj];rfl)
 simp only[List.length_map] at hl
 subst hn
 unfold bsK
 rw[run_bytesToString w a l.length c _ hl,foldl_push_byteCells]
 have e:(⟨ByteArray.empty.data++l.toArray⟩:ByteArray)=Fb l:=by simp[Fb]
 rw[e];exact hk
theorem Af2{P:Program}{w:World}{b:Nat}{l:List UInt8}{n c:Nat}(hB:Ar w b (l.map bv))(hn:l.length=n){k:ByteArray→WP}(hk:k (Fb l) w):bsK P (.slice (some ⟨b,0,none⟩) n c) w k:=
 Asf hn (λi c hc=>by rw[Lr,Nat.zero_add,hB.cell,List.getElem?_map,hc];rfl) hk
theorem As2{a b:ByteArray}{p:Prop}(h:a.size+b.size≤1000000000000)(hp:p):iF a b p:=by
 exact⟨by have:IntKind.i64.max=9223372036854775807:=rfl;rw[this];omega,hp⟩
theorem Fz{a b:List UInt8}{p:Prop}(h:a.length+b.length≤1000000000000)(hp:p):iF (Fb a) (Fb b) p:=As2 (by rw[Pq,Pq];exact h) hp
theorem wu8(n:Int):wrap .u8 n=n%256:=by simp[wrap,IntKind.bits,IntKind.signed]
theorem Acj{n:Nat}(hn:n≤1000000000):(Value.int .u8 (wrap .u8 (wrap .i64 (48+Int.tmod (n:Int) 10))))=bv (xM n):=by
 unfold bv
 rw[rJ (by omega),Af (by unfold I64;omega),wu8,Wi]
 congr 1;omega
theorem ms4(w:World)(k:Sl→WP):Qj ((Instr.makeSlice T.D6 (iV 4) (iV 4)).run prog w) k=k (some ⟨w.heap.size,0,none⟩,4,4) (w.alloc (.cells #[.int .u8 0,.int .u8 0,.int .u8 0,.int .u8 0] T.uint8)):=by kernel_rfl
theorem ms2(w:World)(k:Sl→WP):Qj ((Instr.makeSlice T.D6 (iV 2) (iV 2)).run prog w) k=k (some ⟨w.heap.size,0,none⟩,2,2) (w.alloc (.cells #[.int .u8 0,.int .u8 0] T.uint8)):=by kernel_rfl
theorem Em.core{n sz:Nat}(hn:n≤1000000)(hz:sz≤20){w:World}{k:TR RS1→WP}
  (hms: ∀k':Sl→WP,Qj ((Instr.makeSlice T.D6 (iV (sz:Int)) (iV (sz:Int))).run prog w) k'=k' (some ⟨w.heap.size,0,none⟩,sz,sz) (w.alloc (.cells (List.replicate sz (Value.int .u8 0)).toArray T.uint8)))
  (h: ∀w',Ah w w'→k ((Fb (Zc n sz),()),()) w'):Ad prog F.Em [iV (n:Int),iV (sz:Int)] w false RS1 k:=by
 refine Em.ok ?_
 rw[hms]
 have hB:=Ar.new w (List.replicate sz (Value.int .u8 0)) T.uint8
 have hG:Ah w (w.alloc (.cells (List.replicate sz (Value.int .u8 0)).toArray T.uint8)):=(Ah.refl w).alloc _
 generalize hw:w.alloc (.cells (List.replicate sz (Value.int .u8 0)).toArray T.uint8)=w2 at hB hG
 rw[Af (n:=(sz:Int)-1) (by unfold I64;omega)]
 refine Aw.by (λz W=> ∃(i n':Nat) (t:List UInt8),i≤sz∧z.1=n'∧n'≤1000000∧z.2.1=(i:Int)-1∧Zc n sz=Zc n' i++t∧Ar W w.heap.size (List.replicate i (Value.int .u8 0)++t.map bv)∧Ah w W)
  (λz=>(z.2.1+1).toNat) ⟨sz,n,[],Nat.le_refl _,rfl,hn,rfl,by simp,by simpa using hB,hG⟩ ?_
 rintro⟨z1,z2,_⟩ W ⟨i,n',t,hi,e1,hn',e2,hd,hB,hG⟩ _
 dsimp only at e1 e2
 subst e1 e2
 have ht:t.length=sz-i:=by have:=congrArg List.length hd;rw[List.length_append,Gj,Gj] at this;omega
 refine Cf (λc=>?_) λc=>?_
 ·have c:(i:Int)-1≥0:=c
  obtain⟨j,rfl⟩: ∃j,i=j+1:=⟨i-1,by omega⟩
  rw[Gm (by decide)]
  show Hf (some ⟨w.heap.size,0,none⟩) sz (((j+1:Nat):Int)-1) _
  rw[Ip (by omega)]
  rw[Acj (by omega)]
  have ej:(((j+1:Nat):Int)-1).toNat*1=j:=by omega
  show Au _ (Addr.add ⟨w.heap.size,0,none⟩ ((((j+1:Nat):Int)-1).toNat*1)) 0 W _
  rw[ej]
  refine hB.sN j [bv (xM n')] (by simp only[List.length_append,List.length_replicate,List.length_cons,List.length_nil];omega) rfl λw7 k7 u7=>?_
  rw[Gm (by decide),lS (by show(0:Int)≤(n':Int);omega)]
  have es:splice (List.replicate (j+1) (Value.int .u8 0)++t.map bv) j [bv (xM n')]=List.replicate j (Value.int .u8 0)++(xM n'::t).map bv:=by
   simp only[splice]
   rw[List.set_append_left _ _ (by simp),show List.replicate (j+1) (Value.int .u8 0)=List.replicate j (Value.int .u8 0)++[Value.int .u8 0] from List.replicate_succ',List.set_append_right _ _ (by simp)]
   simp
  rw[es] at k7
  have ed:wrap .i64 ((n':Int)/10)=((n'/10:Nat):Int):=by rw[Af (by unfold I64;omega)];omega
  have ei:wrap .i64 (((j+1:Nat):Int)-1-1)=(j:Int)-1:=by rw[Af (by unfold I64;omega)];omega
  refine⟨⟨j,n'/10,xM n'::t,by omega,ed,by omega,ei,by rw[hd,Zc];simp,k7,Ap.trans hG u7 λi hi h=>by omega⟩,?_⟩
  show(wrap .i64 (((j+1:Nat):Int)-1-1)+1).toNat<(((j+1:Nat):Int)-1+1).toNat
  rw[ei];omega
 ·have c: ¬(i:Int)-1≥0:=c
  have:i=0:=by omega
  subst this
  have hd:Zc n sz=t:=hd
  subst hd
  exact Af2 (by simpa using hB) (Gj _ _) (h W hG)
theorem Em.c4{x:Int}(h0:0≤x)(h1:x≤1000000){w:World}{k:TR RS1→WP}(h: ∀w',Ah w w'→k ((Fb (Zc x.toNat 4),()),()) w'):Ad prog F.Em [iV x,iV 4] w false RS1 k:=by
 have:=Em.core (n:=x.toNat) (sz:=4) (by omega) (by omega) (ms4 w) h
 rwa [show((x.toNat:Nat):Int)=x by omega] at this
theorem Em.c2{x:Int}(h0:0≤x)(h1:x≤1000000){w:World}{k:TR RS1→WP}(h: ∀w',Ah w w'→k ((Fb (Zc x.toNat 2),()),()) w'):Ad prog F.Em [iV x,iV 2] w false RS1 k:=by
 have:=Em.core (n:=x.toNat) (sz:=2) (by omega) (by omega) (ms2 w) h
 rwa [show((x.toNat:Nat):Int)=x by omega] at this
theorem Qi.cl{x:Int}{sz:Nat}(h0:0≤x)(h1:x≤1000000)(hz:sz≤20){w:World}{k:TR RS1→WP}(h: ∀w',Ah w w'→k ((Fb (Zc x.toNat sz),()),()) w'):
  Ad prog F.Qi [iV x,iV (sz:Int)] w false RS1 k:=by
 refine Qi.ok ?_
 refine Aw.by (λz W=> ∃(i n':Nat) (t:List UInt8),i≤sz∧z.1=n'∧n'≤1000000∧z.2.2.1=(i:Int)∧z.2.1=Fb t∧Zc x.toNat sz=Zc n' (sz-i)++t∧Ah w W)
  (λz=>((sz:Int)-z.2.2.1).toNat) ⟨0,x.toNat,[],by omega,by show x=_;omega,by omega,rfl,rfl,by simp,Ah.refl _⟩ ?_
 rintro⟨z1,s,z2,_⟩ W ⟨i,n',t,hi,e1,hn',e2,e3,hd,hG⟩ _
 dsimp only at e1 e2 e3
 subst e1 e2 e3
 have ht:t.length=i:=by have:=congrArg List.length hd;rw[List.length_append,Gj,Gj] at this;omega
 refine Cf (λc=>?_) λc=>?_
 ·have c:(i:Int)<(sz:Int):=c
  rw[Gm (by decide)]
  rw[show(Value.int .u8 (wrap .u8 (wrap .i64 (48+Int.tmod (((n':Int),Fb t,(i:Int),()):Int×ByteArray×Int×Unit).1 10))))=bv (xM n') from Acj (by omega)]
  refine Ae λp4 w5 e4 k4 u5=>Af2 (l:=[xM n']) k4 rfl (Fz (by simp;omega) ?_)
  rw[Gm (by decide),lS (by show(0:Int)≤(n':Int);omega)]
  have ed:wrap .i64 ((n':Int)/10)=((n'/10:Nat):Int):=by rw[Af (by unfold I64;omega)];omega
  have ei:wrap .i64 ((i:Int)+1)=((i+1:Nat):Int):=by rw[Af (by unfold I64;omega)];omega
  refine⟨⟨i+1,n'/10,xM n'::t,by omega,ed,by omega,ei,by rw[show(xM n'::t)=[xM n']++t from rfl,←Di],?_,hG.trans u5⟩,?_⟩
  ·rw[hd,show sz-i=(sz-(i+1))+1 by omega,Zc];simp
  ·show((sz:Int)-wrap .i64 ((i:Int)+1)).toNat<((sz:Int)-(i:Int)).toNat
   rw[ei];omega
 ·have c: ¬(i:Int)<(sz:Int):=c
  have:i=sz:=by omega
  subst this
  rw[Nat.sub_self] at hd
  have hd:Zc x.toNat i=t:=hd
  subst hd
  exact h W hG
def strD(d:D3):ByteArray:=if Q4 d=true then Fb (eH d) else Fb []
theorem lits:(⟨#[45]⟩:ByteArray)=Fb [45]∧(⟨#[84]⟩:ByteArray)=Fb [84]∧(⟨#[58]⟩:ByteArray)=Fb [58]∧(⟨#[90]⟩:ByteArray)=Fb [90]∧(⟨#[]⟩:ByteArray)=Fb []:=⟨rfl,rfl,rfl,rfl,rfl⟩
theorem sJ{d:D3}(h:F8 d):0≤d.1∧d.1≤1000000∧0≤d.2.1∧d.2.1≤1000000∧0≤d.2.2∧d.2.2≤1000000:=by
 obtain⟨g1,g2,g3,g4,g5,g6⟩:=h
 have:=(Oy d.1 d.2.1).2
 omega
theorem Ls.cl{d:D3}{w:World}{k:TR RS1→WP}(h: ∀w',Ah w w'→k ((strD d,()),()) w'):Ad prog F.Ls [vD d] w false RS1 k:=by
 refine Ls.ok ?_
 unfold strD at h
 refine Ae λp1 w2 e1 k1 u1=>k1.Xd (Ef.cl λw5 u5=>En (λc=>?_) λc=>?_)
 ·have:=h w5 (u1.trans u5)
  rw[if_neg (by have c:Q4 d=false:=c;rw[c];simp)] at this;exact this
 have c:Q4 d=true:=c
 rw[if_pos c] at h
 obtain⟨s1,s2,s3,s4,s5,s6⟩:=sJ (of_decide_eq_true c)
 rw[Aq]
 have k5:=(k1.Ai u5).drew
 have g:=(u1.trans u5).trans (Ah.drew w5)
 generalize w5.drew=w6 at k5 g
 have hh: ∀{w'},Ah w6 w'→ ∀i,i<3→w'.cell? (Addr.add ⟨p1,0,none⟩ i)=some ((w6.cell? (Addr.add ⟨p1,0,none⟩ i)).getD undef):=λu i hi=>k5.hold u (λx=>x) i (by simpa using hi)
 refine k5.i0 rfl (k5.i1 1 rfl (k5.i1 2 rfl (Em.c4 s1 s2 λw11 u11=>⟨⟨hh u11 2 (by decide),hh u11 1 (by decide),hh u11 0 (by decide),trivial⟩,?_⟩)))
 rw[lits.1]
 refine Fz (by simp[Gj]) (Em.c2 s3 s4 λw13 u13=>⟨⟨hh (u11.trans u13) 2 (by decide),hh (u11.trans u13) 1 (by decide),hh (u11.trans u13) 0 (by decide),trivial⟩,?_⟩)
 rw[Di]
 refine Fz (by simp[Gj]) ?_
 rw[Di]
 refine Fz (by simp[Gj]) (Em.c2 s5 s6 λw15 u15=>⟨⟨hh ((u11.trans u13).trans u15) 1 (by decide),hh ((u11.trans u13).trans u15) 0 (by decide),trivial⟩,?_⟩)
 rw[Di]
 refine Fz (by simp[Gj]) ?_
 rw[Di]
 have:=h w15 (((g.trans u11).trans u13).trans u15)
 have e:(((Zc d.1.toNat 4++[45])++Zc d.2.1.toNat 2)++[45])++Zc d.2.2.toNat 2=eH d:=by simp[eH]
 rw[←e] at this;exact this
theorem Uk.cl{d:D3}{w:World}{k:TR RS1→WP}(h: ∀w',Ah w w'→k ((strD d,()),()) w'):Ad prog F.Uk [vD d] w false RS1 k:=by
 refine Uk.ok ?_
 unfold strD at h
 refine Ae λp1 w2 e1 k1 u1=>k1.Xd (Q3.cl λw5 u5=>En (λc=>?_) λc=>?_)
 ·have:=h w5 (u1.trans u5)
  rw[if_neg (by have c:Q4 d=false:=c;rw[c];simp)] at this;exact this
 have c:Q4 d=true:=c
 rw[if_pos c] at h
 obtain⟨s1,s2,s3,s4,s5,s6⟩:=sJ (of_decide_eq_true c)
 rw[Aq]
 have k5:=(k1.Ai u5).drew
 have g:=(u1.trans u5).trans (Ah.drew w5)
 generalize w5.drew=w6 at k5 g
 have hh: ∀{w'},Ah w6 w'→ ∀i,i<3→w'.cell? (Addr.add ⟨p1,0,none⟩ i)=some ((w6.cell? (Addr.add ⟨p1,0,none⟩ i)).getD undef):=λu i hi=>k5.hold u (λx=>x) i (by simpa using hi)
 refine k5.i0 rfl (k5.i1 1 rfl (k5.i1 2 rfl (Qi.cl (sz:=4) s1 s2 (by omega) λw11 u11=>⟨⟨hh u11 2 (by decide),hh u11 1 (by decide),hh u11 0 (by decide),trivial⟩,?_⟩)))
 rw[lits.1]
 refine Fz (by simp[Gj]) (Qi.cl (sz:=2) s3 s4 (by omega) λw13 u13=>⟨⟨hh (u11.trans u13) 2 (by decide),hh (u11.trans u13) 1 (by decide),hh (u11.trans u13) 0 (by decide),trivial⟩,?_⟩)
 rw[Di]
 refine Fz (by simp[Gj]) ?_
 rw[Di]
 refine Fz (by simp[Gj]) (Qi.cl (sz:=2) s5 s6 (by omega) λw15 u15=>⟨⟨hh ((u11.trans u13).trans u15) 1 (by decide),hh ((u11.trans u13).trans u15) 0 (by decide),trivial⟩,?_⟩)
 rw[Di]
 refine Fz (by simp[Gj]) ?_
 rw[Di]
 have:=h w15 (((g.trans u11).trans u13).trans u15)
 have e:(((Zc d.1.toNat 4++[45])++Zc d.2.1.toNat 2)++[45])++Zc d.2.2.toNat 2=eH d:=by simp[eH]
 rw[←e] at this;exact this
abbrev KU6:List CK:=[KI,KI,KI,KI,KI,KI]
abbrev tU(u:U6):Ky KU6:=(u.1,u.2.1,u.2.2.1,u.2.2.2.1,u.2.2.2.2.1,u.2.2.2.2.2,())
abbrev cU(u:U6):List Value:=[iV u.1,iV u.2.1,iV u.2.2.1,iV u.2.2.2.1,iV u.2.2.2.2.1,iV u.2.2.2.2.2]
abbrev vU(u:U6):Value:=.agg #[iV u.1,iV u.2.1,iV u.2.2.1,iV u.2.2.2.1,iV u.2.2.2.2.1,iV u.2.2.2.2.2]
theorem Ar.ldU{w:World}{b:Nat}{u:U6}(h:Ar w b (cU u)){k:Ky KU6→Prop}(hk:k (tU u)):Bc KU6 ⟨b,0,none⟩ 0 w k:=h.cA (cs:=KU6) (tU u) rfl hk
theorem Ar.Aox{w:World}{b:Nat}{u:U6}(h:Ar w b (cU u)){k:Ky K3→Prop}(hk:k (tD (dU u))):Bc K3 ⟨b,0,none⟩ 0 w k:=h.cN 0 (cs:=K3) (tD (dU u)) rfl hk
end Go.Proofs.YtppeepkmnijdpaaGreatDoor
namespace Go.Proofs.YtppeepkmnijdpaaGreatDoor
open Go.Eng Go Tryz
open Go.IntKind (wrap)
set_option linter.unusedSimpArgs false
set_option linter.unusedVariables false
set_option maxRecDepth 100000
set_option maxHeartbeats 8000000
theorem Ri.cl{u:U6}{w:World}{k:TR RB1→WP}(h: ∀w',Ah w w'→k ((rZ u,()),()) w'):Ad prog F.Ri [vU u] w false RB1 k:=by
 refine Ri.ok ?_
 refine Ae λp1 w2 e1 k1 u1=>Ar.Aox (u:=u) k1 (Ef.cl (d:=dU u) λw5 u5=>?_)
 have k5:=k1.Ai u5
 have g:=u1.trans u5
 have no: ¬iZ u→k ((false,()),()) w5:=λhn=>by
  have:=h w5 g
  rw[show rZ u=false from decide_eq_false hn] at this;exact this
 have yes:iZ u→k ((true,()),()) w5:=λhn=>by
  have:=h w5 g
  rw[show rZ u=true from decide_eq_true hn] at this;exact this
 refine bQ (λc0=>?_) λc=>no λhg=>by have c:Q4 (dU u)=false:=c;exact of_decide_eq_false c hg.1
 have c0:F8 (dU u):=of_decide_eq_true c0
 refine k5.i1 3 rfl (Cf (λc1=>?_) λc=>no λhg=>c hg.2.1)
 refine k5.i1 3 rfl (Cf (λc2=>?_) λc=>no λhg=>c hg.2.2.1)
 refine k5.i1 4 rfl (Cf (λc3=>?_) λc=>no λhg=>c hg.2.2.2.1)
 refine k5.i1 4 rfl (Cf (λc4=>?_) λc=>no λhg=>c hg.2.2.2.2.1)
 refine k5.i1 5 rfl (Cf (λc5=>?_) λc=>no λhg=>c hg.2.2.2.2.2.1)
 refine k5.i1 5 rfl (Cf (λc6=>yes ⟨c0,c1,c2,c3,c4,c5,.inl c6⟩) λc6=>?_)
 have c6: ¬u.2.2.2.2.2≤59:=c6
 have fin: ∀(b:Bool),(b=true↔iZ u)→k ((b,()),()) w5:=λb hb=>by
  have:=h w5 g
  rw[←show b=rZ u from bq hb] at this;exact this
 refine k5.i1 5 rfl (Vh (λc7=>?_) λc=>no λhg=>by have c:u.2.2.2.2.2≠60:=c;have:=hg.2.2.2.2.2.2;omega)
 refine k5.i1 3 rfl (Vh (λc8=>k5.i1 4 rfl (fin _ ?_)) λc=>no λhg=>by have c:u.2.2.2.1≠23:=c;have:=hg.2.2.2.2.2.2;omega)
 have c7:u.2.2.2.2.2=60:=c7
 have c8:u.2.2.2.1=23:=c8
 rw[beq_iff_eq]
 exact⟨λc9=>⟨c0,c1,c2,c3,c4,c5,.inr ⟨c7,c8,c9⟩⟩,λhg=>by have:=hg.2.2.2.2.2.2;show u.2.2.2.2.1=59;omega⟩
theorem xB{d:D3}(h:F8 d):strD d=Fb (eH d):=by unfold strD;rw[if_pos (show Q4 d=true from decide_eq_true h)]
theorem Pe.cl{y:Int}(h1:1≤y)(h2:y≤20000){w:World}{k:TR Tm→WP}(h:k ((N9 y,()),()) w):Ad prog F.Pe [iV y] w false Tm k:=by
 refine Pe.ok ?_
 refine Aw.by (λz W=>W=w∧z.1=N9 z.2.1∧1≤z.2.1∧z.2.1≤y∧(z.2.1-1)%400=0) (λz=>(y-z.2.1).toNat) ⟨rfl,by decide,by show(1:Int)≤1;omega,h1,by decide⟩ ?_
 rintro⟨n,q,_⟩ _ ⟨rfl,e1,e2,e3,e4⟩ _
 dsimp only at e1 e2 e3 e4
 subst e1
 have yr:=Zu e2 (by omega:q≤20000)
 have ew:wrap .i64 (q+400)=q+400:=Af (by unfold I64;omega)
 rw[show wrap .i64 (((N9 q,q,()):Int×Int×Unit).2.1+400)=q+400 from ew]
 refine Cf (λc=>?_) λc=>?_
 ·have c:q+400≤y:=c
  have e5:wrap .i64 (N9 q+146097)=N9 q+146097:=Af (by unfold I64;omega)
  refine⟨⟨rfl,?_,by show(1:Int)≤q+400;omega,c,by show(q+400-1)%400=0;omega⟩,by show(y-(q+400)).toNat<(y-q).toNat;omega⟩
  show wrap .i64 (N9 q+146097)=N9 (q+400)
  rw[e5];unfold N9;omega
 ·refine Aw.by (λz W=>W=_∧z.1=N9 z.2.1∧1≤z.2.1∧z.2.1≤y) (λz=>(y-z.2.1).toNat) ⟨rfl,rfl,e2,e3⟩ ?_
  rintro⟨n,q,_⟩ _ ⟨rfl,e1,e2,e3⟩ _
  dsimp only at e1 e2 e3
  subst e1
  have yr:=Zu e2 (by omega:q≤20000)
  have ew:wrap .i64 (q+1)=q+1:=Af (by unfold I64;omega)
  refine Cf (λc=>?_) λc=>?_
  ·have c:q<y:=c
   have ys:=gG q
   have ex:wrap .i64 (N9 q+365)=N9 q+365:=Af (by unfold I64;omega)
   have dc:(y-wrap .i64 (q+1)).toNat<(y-q).toNat:=by rw[ew];omega
   refine Og.cl (by show 0≤q;omega) (bQ (λc2=>⟨⟨rfl,?_,by show(1:Int)≤wrap .i64 (q+1);omega,by show wrap .i64 (q+1)≤y;omega⟩,dc⟩) λc2=>⟨⟨rfl,?_,by show(1:Int)≤wrap .i64 (q+1);omega,by show wrap .i64 (q+1)≤y;omega⟩,dc⟩)
   ·have c2:lpY q=true:=c2
    rw[if_pos c2] at ys
    show wrap .i64 (wrap .i64 (N9 q+365)+1)=N9 (wrap .i64 (q+1))
    rw[ew,ys,ex,Af (by unfold I64;omega)]
   ·have c2:lpY q=false:=c2
    rw[if_neg (by rw[c2];simp)] at ys
    show wrap .i64 (N9 q+365)=N9 (wrap .i64 (q+1))
    rw[ew,ys,ex];omega
  ·have c: ¬q<y:=c
   have:q=y:=by omega
   subst this;exact h
theorem Nr.cl{d:D3}(hg:F8 d){w:World}{k:TR Tm→WP}(h: ∀w',Ah w w'→k ((Ja d,()),()) w'):Ad prog F.Nr [vD d] w false Tm k:=by
 refine Nr.ok ?_
 obtain⟨g1,g2,g3,g4,g5,g6⟩:=hg
 have m1:=(Oy d.1 d.2.1).2
 have yr:=Zu g1 (by omega:d.1≤20000)
 refine Ae λp1 w2 e1 k1 u1=>k1.i0 rfl (Pe.cl g1 (by omega) (Pe.cl (by decide) (by decide) ?_))
 have e70:N9 1970=719162:=by decide
 rw[e70,Af (n:=N9 d.1-719162) (by unfold I64;omega)]
 refine Aw.by (λz W=> ∃i:Nat,(i:Int)<d.2.1∧z.1=N9 d.1-719162+Oz d.1 i∧z.2.1=(i:Int)+1∧Ar W p1 [iV d.1,iV d.2.1,iV d.2.2]∧Ah w W)
  (λz=>(20-z.2.1).toNat) ⟨0,by omega,by simp[Oz],rfl,k1,u1⟩ ?_
 rintro⟨z1,z2,_⟩ W ⟨i,hi,e1,e2,hB,hG⟩ _
 dsimp only at e1 e2
 subst e1 e2
 have cr:=pU d.1 i
 refine hB.i1 1 rfl (Cf (λc=>?_) λc=>?_)
 ·have c:(i:Int)+1<d.2.1:=c
  have ml:=Oy d.1 (i+1)
  refine hB.i0 rfl (Ov.cl (by omega) ⟨⟨i+1,by omega,?_,?_,hB,hG⟩,?_⟩)
  ·show wrap .i64 (N9 d.1-719162+Oz d.1 i+Rw d.1 ((i:Int)+1))=_
   rw[Af (by unfold I64;omega)];simp only[Oz];omega
  ·show wrap .i64 ((i:Int)+1+1)=_
   rw[Af (by unfold I64;omega)];omega
  ·show(20-wrap .i64 ((i:Int)+1+1)).toNat<(20-((i:Int)+1)).toNat
   rw[Af (by unfold I64;omega)];omega
 ·have c: ¬(i:Int)+1<d.2.1:=c
  have e:(d.2.1-1).toNat=i:=by omega
  refine hB.i1 2 rfl ?_
  have:=h W hG
  unfold Ja at this
  rw[e] at this
  rw[show wrap .i64 (wrap .i64 (((N9 d.1-719162+Oz d.1 i,(i:Int)+1,()):Int×Int×Unit).1+d.2.2)-1)= -719162+N9 d.1+Oz d.1 i+d.2.2-1 from by
   show wrap .i64 (wrap .i64 (N9 d.1-719162+Oz d.1 i+d.2.2)-1)=_
   rw[Af (n:=N9 d.1-719162+Oz d.1 i+d.2.2) (by unfold I64;omega),Af (by unfold I64;omega)];omega]
  exact this
theorem Uh.cl{d:D3}(hg:F8 d){w:World}{k:TR [(true,K3)]→WP}(h: ∀w',Ah w w'→k (tD (mJ d),()) w'):Ad prog F.Uh [vD d] w false [(true,K3)] k:=by
 refine Uh.ok ?_
 obtain⟨g1,g2,g3,g4,g5,g6⟩:=hg
 have m1:=Oy d.1 d.2.1
 refine Ae λp1 w2 e1 k1 u1=>Ae λp3 w4 e3 k3 u3=>?_
 have l1:=k1.lt
 have l3:=k3.lt
 have g4':=u1.trans u3
 have q1:=k1.Ai u3
 refine q1.i1 2 rfl (q1.s1 2 (by simp) λw6 k6 u6=>?_)
 have e6:wrap .i64 (d.2.2+1)=d.2.2+1:=Af (by unfold I64;omega)
 rw[e6] at k6
 have q3:=k3.upd u6 (by omega)
 have G6:Ah w w6:=Ap.trans g4' u6 λi hi h=>by omega
 refine Bh.by (λz W=>Ah w W∧Ar W p3 [iV 0,iV 0,iV 0]∧Ar W p1 (if d.2.2+1>Rw d.1 d.2.1 then[iV d.1,iV (d.2.1+1),iV 1] else[iV d.1,iV d.2.1,iV (d.2.2+1)])) ?_ ?_
 ·rw[Aq]
  have k6:=k6.drew
  have q3:=q3.drew
  have G6:=G6.trans (Ah.drew _)
  generalize w6.drew=w10 at k6 q3 G6
  refine k6.i1 2 rfl (k6.i0 rfl (k6.i1 1 rfl (Ov.cl (by omega) ⟨⟨k6.hold (Ah.refl _) (λx=>x) 2 (by simp),trivial⟩,Cf (λc=>?_) λc=>?_⟩)))
  ·have c:d.2.2+1>Rw d.1 d.2.1:=c
   rw[if_pos c]
   refine k6.s1 2 (by simp) λw16 k16 u16=>k16.i1 1 rfl (k16.s1 1 (by simp) λw18 k18 u18=>⟨?_,?_,?_⟩)
   ·exact Ap.trans (Ap.trans G6 u16 λi hi h=>by omega) u18 λi hi h=>by omega
   ·exact(q3.upd u16 (by omega)).upd u18 (by omega)
   ·have e7:wrap .i64 (d.2.1+1)=d.2.1+1:=Af (by unfold I64;omega)
    rw[e7] at k18;exact k18
  ·have c: ¬d.2.2+1>Rw d.1 d.2.1:=c
   rw[if_neg c]
   exact⟨G6,q3,k6⟩
 ·rintro⟨⟩ w9 ⟨G9,q3,hB⟩ _
  have fin: ∀{W} {x:D3},Ah w W→Ar W p3 [iV 0,iV 0,iV 0]→x=mJ d→Au [iV x.1,iV x.2.1,iV x.2.2] ⟨p3,0,none⟩ 0 W λw24=>Bc K3 ⟨p3,0,none⟩ 0 w24 λx25=>k ((x25.1,x25.2.1,x25.2.2.1,()),()) w24:=by
   intro W x G q e
   refine q.E5 _ rfl rfl λw24 k24 u24=>k24.Xd ?_
   subst e
   exact h w24 (Ap.trans G u24 λi hi h=>by omega)
  unfold mJ at fin
  by_cases c:d.2.2+1>Rw d.1 d.2.1
  ·rw[if_pos c] at hB fin
   refine hB.i1 1 rfl (Cf (λc2=>?_) λc2=>?_)
   ·have c2:d.2.1+1>12:=c2
    rw[if_pos c2] at fin
    refine hB.s1 1 (by simp) λw20 k20 u20=>k20.i0 rfl (k20.s0 (by simp) λw22 k22 u22=>?_)
    have e7:wrap .i64 (d.1+1)=d.1+1:=Af (by unfold I64;omega)
    rw[e7] at k22
    refine Ar.Xd (x:=d.1+1) (y:=1) (z:=1) k22 ?_
    exact fin (x:=(d.1+1,1,1)) (Ap.trans (Ap.trans G9 u20 λi hi h=>by omega) u22 λi hi h=>by omega) ((q3.upd u20 (by omega)).upd u22 (by omega)) rfl
   ·have c2: ¬d.2.1+1>12:=c2
    rw[if_neg c2] at fin
    exact hB.Xd (fin (x:=(d.1,d.2.1+1,1)) G9 q3 rfl)
  ·rw[if_neg c] at hB fin
   refine hB.i1 1 rfl (Cf (λc2=>absurd (show d.2.1>12 from c2) (by omega)) λc2=>?_)
   exact hB.Xd (fin (x:=(d.1,d.2.1,d.2.2+1)) G9 q3 rfl)
end Go.Proofs.YtppeepkmnijdpaaGreatDoor
namespace Go.Proofs.YtppeepkmnijdpaaGreatDoor
open Go.Eng Go Tryz
open Go.IntKind (wrap)
set_option linter.unusedSimpArgs false
set_option linter.unusedVariables false
set_option maxRecDepth 100000
set_option maxHeartbeats 8000000
theorem Af5(l:List UInt8)(i:Nat):(Fb l)[i]? =l[i]? :=by
 unfold Fb
 show(if h:i<(⟨l.toArray⟩:ByteArray).size then some ((⟨l.toArray⟩:ByteArray)[i]) else none)=_
 by_cases h:i<l.length
 ·rw[dif_pos (by simpa [ByteArray.size] using h),List.getElem?_eq_getElem h];rfl
 ·rw[dif_neg (by simpa [ByteArray.size] using h),List.getElem?_eq_none (by omega)]
theorem dI{l:List UInt8}{ix:Int}{i:Nat}{c:UInt8}(hi:ix=i)(hc:l[i]? =some c){k:Int→Prop}(hk:k (c.toNat:Int)):siK (Fb l) ix k:=by
 subst hi
 unfold siK
 rw[if_pos (by omega),Int.toNat_natCast,Af5,hc];exact hk
theorem Zn(l:List UInt8)(a b:Nat):(Fb l).extract a b=Fb ((l.take b).drop a):=by
 apply ByteArray.ext
 show((Fb l).extract a b).data=(Fb ((l.take b).drop a)).data
 rw[ByteArray.data_extract]
 simp[Fb]
 rw[List.drop_take]
instance instClCtxt3_1183 (c:UInt8):Decidable (N8 c):=by unfold N8;exact inferInstance
def mX(l:List UInt8):Int:=if∀c∈l,N8 c then(Rq l:Int) else-1
theorem qI(n k:Nat)(h:n<10^k):mX (Zc n k)=n:=by unfold mX;rw[if_pos (Ajp n k),Acf k n h]
theorem wd{c:UInt8}(h:N8 c):wrap .i64 (wrap .u8 ((c.toNat:Int)-48))=((c.toNat-48:Nat):Int):=by
 unfold N8 at h
 have e:wrap .u8 ((c.toNat:Int)-48)=(c.toNat:Int)-48:=by rw[wu8];omega
 rw[e,Af (by unfold I64;omega)];omega
theorem Dh.cl{l:List UInt8}(hl:l.length≤10){w:World}{k:TR Tm→WP}(h:k ((mX l,()),()) w):Ad prog F.Dh [.string (Fb l)] w false Tm k:=by
 refine Dh.ok ?_
 rw[Pq]
 refine Aw.by (λz W=>W=w∧ ∃i:Nat,z.2.1=i∧i≤l.length∧(∀c∈l.take i,N8 c)∧z.1=(Rq (l.take i):Int)) (λz=>((l.length:Int)-z.2.1).toNat) ⟨rfl,0,rfl,by omega,by simp,rfl⟩ ?_
 rintro⟨z1,z2,_⟩ _ ⟨rfl,i,e2,hi,hd,e1⟩ _
 dsimp only at e1 e2
 subst e1 e2
 refine Cf (λc=>?_) λc=>?_
 ·have c:(i:Int)<(l.length:Int):=c
  have hi':i<l.length:=by omega
  have hx:l[i]? =some l[i]:=List.getElem?_eq_getElem hi'
  have tk:l.take (i+1)=l.take i++[l[i]]:=by rw[List.take_add_one,hx];rfl
  have bad: ¬N8 l[i]→k ((-1,()),()) _:=λhn=>by
   have e:mX l= -1:=by unfold mX;rw[if_neg (λx=>hn (x _ (List.getElem_mem hi')))]
   rw[e] at h;exact h
  generalize l[i]=x at*
  refine dI rfl hx (Cf (λc2=>bad λhh=>by unfold N8 at hh;have c2:(x.toNat:Int)<48:=c2;omega) λc2=>?_)
  refine dI rfl hx (Cf (λc3=>bad λhh=>by unfold N8 at hh;have c3:(x.toNat:Int)>57:=c3;omega) λc3=>?_)
  have c2: ¬(x.toNat:Int)<48:=c2
  have c3: ¬(x.toNat:Int)>57:=c3
  have hx2:N8 x:=by unfold N8;omega
  have hall: ∀c∈l.take (i+1),N8 c:=by
   rw[tk];intro c hc
   rcases List.mem_append.1 hc with hc|hc
   ·exact hd c hc
   ·rw[List.mem_singleton.1 hc];exact hx2
  have vl:=Af7 (l.take i) hd
  have vb:(10:Nat)^(l.take i).length≤10^10:=Nat.pow_le_pow_right (by decide) (by rw[List.length_take];omega)
  have vb2:(10:Nat)^10=10000000000:=by decide
  have ew:wrap .i64 (10*(Rq (l.take i):Int))=10*(Rq (l.take i):Int):=Af (by unfold I64;omega)
  have hxb:x.toNat-48≤9:=by unfold N8 at hx2;omega
  have ei:wrap .i64 ((i:Int)+1)=((i+1:Nat):Int):=by rw[Af (by unfold I64;omega)];omega
  refine dI rfl hx ⟨⟨rfl,i+1,ei,by omega,hall,?_⟩,?_⟩
  ·show wrap .i64 (wrap .i64 (10*(Rq (l.take i):Int))+wrap .i64 (wrap .u8 ((x.toNat:Int)-48)))=_
   rw[ew,wd hx2,Af (by unfold I64;omega),tk,Xz];omega
  ·show((l.length:Int)-wrap .i64 ((i:Int)+1)).toNat<((l.length:Int)-(i:Int)).toNat
   rw[ei];omega
 ·have c: ¬(i:Int)<(l.length:Int):=c
  have:i=l.length:=by omega
  subst this
  rw[List.take_length] at hd
  have e:mX l=(Rq l:Int):=by unfold mX;rw[if_pos hd]
  rw[e] at h
  rw[List.take_length];exact h
def Ws(l:List UInt8):D3:=(mX (l.take 4),mX ((l.take 7).drop 5),mX (l.drop 8))
def Y3(l:List UInt8):Option D3:=if l.length=10∧l[4]? =some 45∧l[7]? =some 45∧F8 (Ws l) then some (Ws l) else none
theorem nN{l:List UInt8}{d:D3}(h:Y3 l=some d):F8 d:=by
 unfold Y3 at h
 split at h
 ·rename_i hc;injection h with h;subst h;exact hc.2.2.2
 ·cases h
theorem Alf{d:D3}(h:F8 d):Ws (eH d)=d:=by
 obtain⟨g1,g2,g3,g4,g5,g6⟩:=h
 have m1:=(Oy d.1 d.2.1).2
 unfold Ws eH
 have t1:(Zc d.1.toNat 4++45::(Zc d.2.1.toNat 2++45::Zc d.2.2.toNat 2)).take 4=Zc d.1.toNat 4:=by
  rw[List.take_append_of_le_length (by rw[Gj];omega),List.take_of_length_le (by rw[Gj];omega)]
 have t2:((Zc d.1.toNat 4++45::(Zc d.2.1.toNat 2++45::Zc d.2.2.toNat 2)).take 7).drop 5=Zc d.2.1.toNat 2:=by
  simp only[Zc,List.nil_append,List.cons_append,List.take_succ_cons,List.drop_succ_cons,List.take_zero,List.drop_zero]
 have t3:(Zc d.1.toNat 4++45::(Zc d.2.1.toNat 2++45::Zc d.2.2.toNat 2)).drop 8=Zc d.2.2.toNat 2:=by
  simp only[Zc,List.nil_append,List.cons_append,List.drop_succ_cons,List.drop_zero]
 rw[t1,t2,t3,qI _ _ (by omega),qI _ _ (by omega),qI _ _ (by omega)]
 obtain⟨x,y,z⟩:=d
 dsimp only at*
 simp only[Prod.mk.injEq]
 omega
theorem Abf{d:D3}(h:F8 d):Y3 (eH d)=some d:=by
 have h4:(eH d)[4]? =some 45:=by simp[eH,Zc]
 have h7:(eH d)[7]? =some 45:=by simp[eH,Zc]
 unfold Y3
 rw[Alf h]
 exact if_pos ⟨oP d,h4,h7,h⟩
abbrev RDB:List (Bool×List CK):=[(true,K3),(false,[.b])]
theorem Po.cl{l:List UInt8}{w:World}{k:TR RDB→WP}(h0:Y3 l=none→ ∀w',Ah w w'→k (tD (0,0,0),(false,()),()) w')(h1: ∀d,Y3 l=some d→ ∀w',Ah w w'→k (tD d,(true,()),()) w'):
  Ad prog F.Po [.string (Fb l)] w true RDB k:=by
 refine Po.ok ?_
 rw[Pq]
 refine Ae λp1 w2 e1 k1 u1=>?_
 have l1:=k1.lt
 have no:Y3 l=none→ ∀{w'},Ah w w'→Ar w' p1 [iV 0,iV 0,iV 0]→Au [iV 0,iV 0,iV 0] ⟨p1,0,none⟩ 0 w' λw3=>Bc K3 ⟨p1,0,none⟩ 0 w3 λx4=>k ((x4.1,x4.2.1,x4.2.2.1,()),(false,()),()) w3:=λhn w' g kb=>
  kb.E5 _ rfl rfl λw3 k3 u3=>k3.Xd (h0 hn w3 (Ap.trans g u3 λi hi h=>by omega))
 have non: ¬(l.length=10∧l[4]? =some 45∧l[7]? =some 45∧F8 (Ws l))→Y3 l=none:=λh=>by unfold Y3;rw[if_neg h]
 refine dS (λc=>no (non λx=>by have c:(l.length:Int)≠10:=c;omega) u1 k1) λc1=>?_
 have c1:(l.length:Int)=10:=c1
 have hl:l.length=10:=by omega
 have g4:l[4]? =some (l[4]'(by omega)):=List.getElem?_eq_getElem _
 have g7:l[7]? =some (l[7]'(by omega)):=List.getElem?_eq_getElem _
 generalize l[4]'(by omega)=x4 at g4
 generalize l[7]'(by omega)=x7 at g7
 have ne45: ∀{x:UInt8},(x.toNat:Int)≠45→ ¬some x=some (45:UInt8):=λ{x} h e=>by injection e with e;subst e;exact h rfl
 have eq45: ∀{x:UInt8},(x.toNat:Int)=45→x=45:=λ{x} h=>UInt8.toNat_inj.1 (by show x.toNat=45;omega)
 refine dI (i:=4) rfl g4 (dS (λc=>no (non λx=>ne45 c (g4▸x.2.1)) u1 k1) λc4=>?_)
 refine dI (i:=7) rfl g7 (dS (λc=>no (non λx=>ne45 c (g7▸x.2.2.1)) u1 k1) λc7=>?_)
 have c4:=eq45 c4
 have c7:=eq45 c7
 subst c4 c7
 refine Bh.by (λz W=> ∃b,z.1=⟨b,0,none⟩∧Ah w W∧Ar W p1 [iV 0,iV 0,iV 0]∧p1<b∧Ar W b [iV (Ws l).1,iV (Ws l).2.1,iV (Ws l).2.2]) ?_ ?_
 ·rw[Aq]
  have k1:=k1.drew
  have u1:=u1.trans (Ah.drew w2)
  generalize w2.drew=w14 at k1 u1
  have l1:=k1.lt
  have e0:(Fb l).extract (Int.toNat 0) (Int.toNat 4)=Fb (l.take 4):=by rw[Zn];rfl
  have e5:(Fb l).extract (Int.toNat 5) (Int.toNat 7)=Fb ((l.take 7).drop 5):=by rw[Zn];rfl
  have e8:(Fb l).extract (Int.toNat 8) (Int.toNat (l.length:Int))=Fb (l.drop 8):=by rw[Zn,Int.toNat_natCast,List.take_length];rfl
  rw[nG (by omega),nG (by omega),nG (by omega),e0,e5,e8]
  have b0:(l.take 4).length≤10:=by rw[List.length_take];omega
  have b5:((l.take 7).drop 5).length≤10:=by rw[List.length_drop,List.length_take];omega
  have b8:(l.drop 8).length≤10:=by rw[List.length_drop];omega
  have fin: ∀{b:Nat} {w' w'':World},w14.heap.size=b→Ar w' b [iV 0,iV 0,iV 0]→Ah w14 w'→(∀{w''},Ar w'' b [iV (Ws l).1,iV (Ws l).2.1,iV (Ws l).2.2]→Ap (λx=>x=b) w' w''→ ∃b',(⟨b,0,none⟩:Addr)=⟨b',0,none⟩∧Ah w w''∧Ar w'' p1 [iV 0,iV 0,iV 0]∧p1<b'∧Ar w'' b' [iV (Ws l).1,iV (Ws l).2.1,iV (Ws l).2.2]):=by
   intro b w' _ e kb g w'' kb' u
   exact⟨b,rfl,Ap.trans (u1.trans g) u λi hi h=>by have:=u1.size;omega,(k1.Ai g).upd u (by omega),by omega,kb'⟩
  refine⟨?_,?_⟩
  ·refine Dh.cl b0 ⟨trivial,⟨?_,?_⟩⟩
   ·refine Dh.cl b5 ⟨trivial,⟨?_,?_⟩⟩
    ·refine Dh.cl b8 ⟨trivial,Ae λp21 w22 e21 k21 u22=>⟨trivial,k21.E5 _ rfl rfl λw23 k23 u23=>⟨trivial,fin (w'':=w23) e21 k21 u22 k23 u23⟩⟩⟩
    ·refine Ae λp21 w22 e21 k21 u22=>⟨trivial,Dh.cl b8 ⟨trivial,k21.E5 _ rfl rfl λw23 k23 u23=>⟨trivial,fin (w'':=w23) e21 k21 u22 k23 u23⟩⟩⟩
   ·refine Ae λp21 w22 e21 k21 u22=>⟨trivial,Dh.cl b5 ⟨trivial,Dh.cl b8 ⟨trivial,k21.E5 _ rfl rfl λw23 k23 u23=>⟨trivial,fin (w'':=w23) e21 k21 u22 k23 u23⟩⟩⟩⟩
  ·refine Ae λp21 w22 e21 k21 u22=>⟨trivial,Dh.cl b0 ⟨trivial,Dh.cl b5 ⟨trivial,Dh.cl b8 ⟨trivial,k21.E5 _ rfl rfl λw23 k23 u23=>⟨trivial,fin (w'':=w23) e21 k21 u22 k23 u23⟩⟩⟩⟩⟩
 ·rintro⟨z,_⟩ w13 ⟨b,hz,G,kp,hpb,kb⟩ _
  dsimp only at hz
  subst hz
  refine kb.Xd (Q3.cl (d:=Ws l) λw47 u47=>En (λc=>?_) λc=>?_)
  ·have c:Q4 (Ws l)=false:=c
   exact no (non λx=>of_decide_eq_false c x.2.2.2) (G.trans u47) (kp.Ai u47)
  ·have c:F8 (Ws l):=of_decide_eq_true c
   refine(kb.Ai u47).Xd ((kp.Ai u47).E5 _ rfl rfl λw51 k51 u51=>Ar.Xd k51 ?_)
   exact h1 (Ws l) (by unfold Y3;rw[if_pos ⟨hl,g4,g7,c⟩]) w51 (Ap.trans (G.trans u47) u51 λi hi h=>by omega)
theorem Ha.cl{n:Int}(h1: -719162≤n)(h2:n≤2932896){w:World}{k:TR RS1→WP}(h: ∀d:D3,F8 d→Ja d=n→ ∀w',Ah w w'→k ((Fb (eH d),()),()) w'):
  Ad prog F.Ha [iV n] w false RS1 k:=by
 refine Ha.ok ?_
 have hw: ∀{p1:Nat} {W W':World},w.heap.size=p1→Ah w W→Ap (λx=>x=p1) W W'→Ah w W':=λe g u=>Ap.trans g u λi hi h=>by omega
 have y10:N9 10000=3652059:=by decide
 have num1: ∀y,Ja (y,1,1)= -719162+N9 y:=λy=>by unfold Ja;show-719162+N9 y+Oz y ((1:Int)-1).toNat+1-1=_;simp[Oz]
 have small: ∀{y:Int},1≤y→ -719162+N9 y≤n→y≤9999:=λ{y} a b=>by
  rcases aN y 10000 with c|c
  ·omega
  ·rcases aN 10000 y with c2|c2
   ·have:=fG c2;omega
   ·have:y=10000:=by omega
    subst this;omega
 refine Ae λp1 w2 e1 k1 u1=>k1.E5 _ rfl rfl λw3 k3 u3=>?_
 have G3:=hw e1 u1 u3
 refine Aw.by (λz W=> ∃y:Int,1≤y∧(y-1)%400=0∧z.1= -719162+N9 y∧z.1≤n∧Ar W p1 [iV y,iV 1,iV 1]∧Ah w W) (λz=>(n-z.1).toNat) ⟨1,by decide,by decide,by decide,h1,k3,G3⟩ ?_
 rintro⟨z,_⟩ W ⟨y,i1,i2,i3,i4,hB,hG⟩ _
 dsimp only at i3 i4
 subst i3
 have ys:=small i1 i4
 have yr:=Zu i1 (by omega:y≤20000)
 have ea:wrap .i64 (-719162+N9 y+146097)= -719162+N9 (y+400):=by rw[Af (by unfold I64;omega)];unfold N9;omega
 rw[show wrap .i64 (((-719162+N9 y,()):Int×Unit).1+146097)= -719162+N9 (y+400) from ea]
 refine Cf (λc=>?_) λc=>?_
 ·have c: -719162+N9 (y+400)≤n:=c
  have ey:wrap .i64 (y+400)=y+400:=Af (by unfold I64;omega)
  refine hB.i0 rfl (hB.s0 (by simp) λw8 k8 u8=>?_)
  rw[ey] at k8
  refine⟨⟨y+400,by omega,by omega,rfl,c,k8,hw e1 hG u8⟩,?_⟩
  have:=fG (show y<y+400 by omega)
  show(n-(-719162+N9 (y+400))).toNat<(n-(-719162+N9 y)).toNat
  omega
 ·refine Aw.by (λz W=> ∃y:Int,1≤y∧z.1= -719162+N9 y∧z.1≤n∧Ar W p1 [iV y,iV 1,iV 1]∧Ah w W) (λz=>(n-z.1).toNat) ⟨y,i1,rfl,i4,hB,hG⟩ ?_
  rintro⟨z,_⟩ W ⟨y,i1,i3,i4,hB,hG⟩ _
  dsimp only at i3 i4
  subst i3
  have ys:=small i1 i4
  have yr:=Zu i1 (by omega:y≤20000)
  have ysc:=gG y
  have ea:wrap .i64 (-719162+N9 y+366)= -719162+N9 y+366:=Af (by unfold I64;omega)
  have eb:wrap .i64 (-719162+N9 y+365)= -719162+N9 y+365:=Af (by unfold I64;omega)
  rw[show wrap .i64 (((-719162+N9 y,()):Int×Unit).1+366)= -719162+N9 y+366 from ea]
  have ey:wrap .i64 (y+1)=y+1:=Af (by unfold I64;omega)
  refine Cf (λc=>?_) λc=>?_
  ·have c: -719162+N9 y+366≤n:=c
   refine hB.i0 rfl (Og.cl (by omega) (bQ (λc2=>?_) λc2=>?_))
   ·have c2:lpY y=true:=c2
    rw[if_pos c2] at ysc
    refine hB.i0 rfl (hB.s0 (by simp) λw8 k8 u8=>?_)
    rw[ey] at k8
    have ex:wrap .i64 (wrap .i64 (-719162+N9 y+365)+1)= -719162+N9 (y+1):=by rw[eb,Af (by unfold I64;omega)];omega
    refine⟨⟨y+1,by omega,ex,by show wrap .i64 (wrap .i64 (-719162+N9 y+365)+1)≤n;omega,k8,hw e1 hG u8⟩,?_⟩
    show(n-wrap .i64 (wrap .i64 (-719162+N9 y+365)+1)).toNat<(n-(-719162+N9 y)).toNat
    rw[ex];omega
   ·have c2:lpY y=false:=c2
    rw[if_neg (by rw[c2];simp)] at ysc
    refine hB.i0 rfl (hB.s0 (by simp) λw8 k8 u8=>?_)
    rw[ey] at k8
    refine⟨⟨y+1,by omega,by show wrap .i64 (-719162+N9 y+365)=_;omega,by show wrap .i64 (-719162+N9 y+365)≤n;omega,k8,hw e1 hG u8⟩,?_⟩
    show(n-wrap .i64 (-719162+N9 y+365)).toNat<(n-(-719162+N9 y)).toNat
    rw[eb];omega
  ·refine Aw.by (λz W=> ∃d:D3,F8 d∧Ja d=z.1∧z.1≤n∧Ar W p1 [iV d.1,iV d.2.1,iV d.2.2]∧Ah w W) (λz=>(n-z.1).toNat)
    ⟨(y,1,1),⟨i1,ys,by show(1:Int)≤1;omega,by show(1:Int)≤12;omega,by show(1:Int)≤1;omega,by show(1:Int)≤Rw y 1;have:=Oy y 1;omega⟩,num1 y,i4,hB,hG⟩ ?_
   rintro⟨z,_⟩ W ⟨d,hg,i3,i4,hB,hG⟩ _
   dsimp only at i3 i4
   subst i3
   refine Cf (λc=>?_) λc=>?_
   ·have c:Ja d<n:=c
    have rg:=jG hg
    have en:wrap .i64 (Ja d+1)=Ja d+1:=Af (by unfold I64;omega)
    have nx:=Ah3 hg
    have hg2:F8 (mJ d):=by
     rcases nx.2 with h|⟨_,h⟩
     ·exact h
     ·have:=nx.1;rw[h,num1] at this;omega
    refine hB.Xd (Uh.cl hg λw24 u24=>(hB.Ai u24).E5 _ rfl rfl λw25 k25 u25=>?_)
    refine⟨⟨mJ d,hg2,by show _=wrap .i64 (Ja d+1);rw[en];exact nx.1,by show wrap .i64 (Ja d+1)≤n;omega,k25,hw e1 (hG.trans u24) u25⟩,?_⟩
    show(n-wrap .i64 (Ja d+1)).toNat<(n-Ja d).toNat
    rw[en];omega
   ·have c: ¬Ja d<n:=c
    refine hB.Xd (Uk.cl (d:=d) λw28 u28=>?_)
    rw[xB hg]
    exact h d hg (by omega) w28 (hG.trans u28)
theorem Ur.cl{n:Int}(h1: -719162≤n)(h2:n≤2932896){w:World}{k:TR [(true,K3)]→WP}(h: ∀d:D3,F8 d→Ja d=n→ ∀w',Ah w w'→k (tD d,()) w'):
  Ad prog F.Ur [iV n] w false [(true,K3)] k:=by
 refine Ur.ok ?_
 refine Ae λp1 w2 e1 k1 u1=>Ha.cl h1 h2 λd hg hn w4 u4=>Po.cl (λhp=>?_) λd' hp w6 u6=>?_
 ·rw[Abf hg] at hp;cases hp
 rw[Abf hg] at hp
 injection hp with hp
 subst hp
 have l1:=k1.lt
 refine Ae λp7 w8 e7 k7 u8=>k7.E5 _ rfl rfl λw9 k9 u9=>k9.Xd ?_
 have g9:Ah w2 w9:=Ah.fresh (u4.trans u6) u8 u9 e7
 refine(k1.Ai g9).E5 _ rfl rfl λw11 k11 u11=>k11.Xd ?_
 exact h d hg hn w11 (Ap.trans (u1.trans g9) u11 λi hi h=>by omega)
end Go.Proofs.YtppeepkmnijdpaaGreatDoor
