import Derived.Test.YtppeepkmnijdpaaGreatDoorNdE
import Derived.Lib.TrailingZeros
namespace Go.Proofs.YtppeepkmnijdpaaGreatDoor
open Go Go.Eng
open Go.IntKind (wrap)
set_option linter.unusedSimpArgs false
set_option linter.unusedVariables false
set_option maxRecDepth 100000
set_option maxHeartbeats 8000000
theorem uN{a:Nat}(h:a<18446744073709551616):Tn (a:Int):=by unfold Tn;omega
theorem wuN{a:Nat}(h:a<18446744073709551616):wrap .u64 (a:Int)=(a:Int):=I9 (uN h)
theorem bvN{a:Nat}(h:a<18446744073709551616):(BitVec.ofInt 64 (a:Int)).toNat=a:=by rw[Go.Eng.ofInt_u64 (uN h)];rfl
theorem Ale{a b:Nat}(ha:a<18446744073709551616)(hb:b<18446744073709551616):Ez .and .u64 (a:Int) (b:Int)=((a&&&b:Nat):Int):=by
 show wrap .u64 ((BitVec.ofInt 64 (a:Int)&&&BitVec.ofInt 64 (b:Int)).toNat:Int)=_
 rw[BitVec.toNat_and,bvN ha,bvN hb]
 exact wuN (Nat.lt_of_le_of_lt Nat.and_le_left ha)
theorem Aq1{a b:Nat}(ha:a<18446744073709551616)(hb:b<18446744073709551616):a|||b<18446744073709551616:=
 Nat.or_lt_two_pow (n:=64) ha hb
theorem Afv{a b:Nat}(ha:a<18446744073709551616)(hb:b<18446744073709551616):Ez .or .u64 (a:Int) (b:Int)=((a|||b:Nat):Int):=by
 show wrap .u64 ((BitVec.ofInt 64 (a:Int)|||BitVec.ofInt 64 (b:Int)).toNat:Int)=_
 rw[BitVec.toNat_or,bvN ha,bvN hb]
 exact wuN (Aq1 ha hb)
def jD(i a:Nat):Nat:=a&&&(18446744073709551615-2^i)
def setB(i a:Nat):Nat:=a|||2^i
theorem uB{i:Nat}(h:i<64):2^i<18446744073709551616:=by
 have h2:=Nat.pow_lt_pow_right (a:=2) (by decide) h
 rwa [p64] at h2
theorem Alc{a i:Nat}(ha:a<18446744073709551616)(hi:i<64):Ez .andNot .u64 (a:Int) ((2^i:Nat):Int)=((jD i a:Nat):Int):=by
 show wrap .u64 ((BitVec.ofInt 64 (a:Int)&&& ~~~BitVec.ofInt 64 ((2^i:Nat):Int)).toNat:Int)=_
 rw[BitVec.toNat_and,BitVec.toNat_not,bvN ha,bvN (uB hi)]
 exact wuN (Nat.lt_of_le_of_lt Nat.and_le_left ha)
theorem Aaa{a i:Nat}(ha:a<18446744073709551616):jD i a<18446744073709551616:=Nat.lt_of_le_of_lt Nat.and_le_left ha
theorem zJ{a i:Nat}(ha:a<18446744073709551616)(hi:i<64):setB i a<18446744073709551616:=Aq1 ha (uB hi)
theorem Atd(i a j:Nat):(setB i a).testBit j=(a.testBit j||decide (i=j)):=by
 unfold setB;rw[Nat.testBit_or,Nat.testBit_two_pow]
theorem sh1{i:Nat}(h:i<64):Ib .u64 1 (i:Int)=((2^i:Nat):Int):=by
 unfold Ib
 have e:min (i:Int).toNat IntKind.u64.bits=i:=by show min i 64=i;omega
 rw[e,Int.one_mul]
 have e2:((2:Int)^i)=((2^i:Nat):Int):=by rw[Int.natCast_pow];rfl
 rw[e2]
 exact wuN (uB h)
theorem Awx{a i:Nat}(ha:a<18446744073709551616)(h:i<64):(Ez .and .u64 (I7 .u64 (a:Int) (i:Int)) 1==1)=a.testBit i:=by
 have e:I7 .u64 (a:Int) (i:Int)=((a/2^i:Nat):Int):=by
  rw[dH (k:=.u64) i (by show i≤64;omega),←Int.natCast_ediv]
 have hl:a/2^i<18446744073709551616:=Nat.lt_of_le_of_lt (Nat.div_le_self _ _) ha
 rw[e,Avx (uN hl),Nat.testBit_eq_decide_div_mod_eq]
 generalize a/2^i=q
 by_cases c:q%2=1
 ·have:(q:Int)%2=1:=by omega
  rw[this,c];rfl
 ·have:(q:Int)%2=0:=by omega
  rw[this,decide_eq_false c];rfl
def Lh(p:Nat→Bool):Nat→Nat
 |0=>0
 |n+1=>if p n=true then setB n (Lh p n) else Lh p n
theorem zF(p:Nat→Bool): ∀n j,(Lh p n).testBit j=(decide (j<n)&&p j)
 |0,j=>by simp[Lh]
 |n+1,j=>by
  have ih:=zF p n j
  unfold Lh
  split
  ·rename_i h
   rw[Atd,ih]
   by_cases e:n=j
   ·subst e
    rw[decide_eq_true rfl,Bool.or_true,decide_eq_true (Nat.lt_succ_self _),h];rfl
   ·rw[decide_eq_false e,Bool.or_false]
    have:decide (j<n)=decide (j<n+1):=by congr 1;exact propext ⟨λh=>by omega,λh=>by omega⟩
    rw[this]
  ·rename_i h
   rw[ih]
   by_cases e:n=j
   ·subst e
    have h:p n=false:=by simpa using h
    rw[h,Bool.and_false,Bool.and_false]
   ·have:decide (j<n)=decide (j<n+1):=by congr 1;exact propext ⟨λh=>by omega,λh=>by omega⟩
    rw[this]
theorem nX(p:Nat→Bool): ∀n,n≤64→Lh p n<18446744073709551616
 |0,_=>by simp[Lh]
 |n+1,h=>by
  have ih:=nX p n (by omega)
  unfold Lh
  split
  ·exact zJ ih (by omega)
  ·exact ih
theorem Agd{x:Nat}(h0:x≠0)(h:x<18446744073709551616):x.testBit (Lib.ctz 64 x)=true∧Lib.ctz 64 x<64:=by
 unfold Lib.ctz
 rw[if_neg h0]
 obtain⟨m,hm,hl⟩:=Lib.ctzFrom_spec 64 x (by omega) h
 refine⟨?_,hl⟩
 generalize Lib.ctzFrom 64 x=k at*
 rw[hm,Nat.mul_comm,Nat.testBit_mul_two_pow]
 simp[Nat.testBit_zero]
def opB(near:List Nat)(i:Nat)(f:Nat→Nat):List Nat:=near.set i (f (near.getD i 0))
def aZ(near:List Nat)(i k:Nat)(on:Bool):List Nat:=
 let b:=opB (opB near i (jD k)) k (jD i)
 if on=true then opB (opB b i (setB k)) k (setB i) else b
def Apo(send Vo:Nat)(lost:List Nat)(i:Nat)(f:Int):Int×Int:=
 if send.testBit i=true then(f,2) else if Vo.testBit i=false then(f,3) else if f<0 then(f,4)
 else if i<lost.length∧(lost.getD i 0).testBit f.toNat=true then(f,5) else(f,1)
def oZ(near:Nat):Int:=if near&&&(near-1)=0 then(Lib.ctz 64 near:Int) else-1
def vH(send Vo:Nat)(lost:List Nat)(i near:Nat):Int×Int:=if near=0 then(-1,0) else Apo send Vo lost i (oZ near)
structure zU where
 nodes:Int
 tmo:Int
 ign:Int
 need:Int
 drift:Int
 rnd:Int
 opn:Int
 lim:Int
 jit:Int
 gate:Int
 own:List Int
def Ag5(S:zU)(i:Nat):Int:=match S.own[i]? with|some o=>o|none=>Int.tmod (i:Int) (if 1>S.rnd then 1 else S.rnd)
def ndS(S:zU)(i:Nat):zG:=⟨i,S.tmo,S.ign,S.need,S.drift,S.rnd,S.opn,Ag5 S i,S.lim,S.jit,(i:Int)==S.gate⟩
def uD(S:zU):Bool:=decide (1≤S.nodes)&&decide (S.nodes≤64)&&(List.range S.nodes.toNat).all λi=>U1 (ndS S i)
theorem aO{S:zU}:uD S=true↔(1≤S.nodes∧S.nodes≤64)∧ ∀i,(i:Nat)<S.nodes.toNat→U1 (ndS S i)=true:=by
 unfold uD
 simp[List.all_eq_true]
structure Ch where
 ticks:List Int
 send:List Int
 hear:List Int
 lost:List Nat
structure Nt where
 s:zU
 near:List Nat
 ds:List Nd
 steps:Int
 sent:Nat
 ears:List (Int×Int)
def U7(jit:Int)(n:Nat)(l:List Int):Bool:=decide (l.length=n)&&l.all λx=>decide (-jit≤x)&&decide (x≤jit)
def Nt.chk(t:Nt)(c:Ch):Int:=
 if c.ticks.length≠t.ds.length∨c.lost.length>t.ds.length∨U7 t.s.jit t.ds.length c.send=false∨U7 t.s.jit t.ds.length c.hear=false then 1
 else if((t.ds.zip c.ticks).all λx=>aQ x.1.s.drift x.2)=false then 1
 else if((t.ds.zip c.ticks).any λx=>x.1.on&&decide (x.1.now+x.2>1125899906842624))=true then 8 else 0
def Vj(l:List Int)(i:Nat):Int:=l.getD i 0
def Nt.d1(t:Nt)(c:Ch):List Nd:=t.ds.mapIdx λi d=>(d.go (Vj c.ticks i)).1
def Nt.d2(t:Nt)(c:Ch):List Nd:=(t.d1 c).mapIdx λi d=>(d.send t.steps (Vj c.send i)).1
def Nt.wds(t:Nt)(c:Ch):List (List Fr):=(t.d1 c).mapIdx λi d=>(d.send t.steps (Vj c.send i)).2.1
def Nt.fE(t:Nt)(c:Ch):Nat:=Lh (λi=>!((t.wds c).getD i []).isEmpty) t.ds.length
def dQ(ds:List Nd)(i:Nat):Bool:=match ds[i]? with|some d=>d.Vo|none=>false
def Nt.Vo(t:Nt)(c:Ch):Nat:=Lh (dQ (t.d2 c)) t.ds.length
def Nt.oN(t:Nt)(c:Ch):List (Int×Int):=(List.range t.ds.length).map λi=>vH (t.fE c) (t.Vo c) c.lost i (t.near.getD i 0&&&t.fE c)
def bW(d:Nd)(j:Int)(ws:List Fr):Nd:=ws.foldl (λd f=>(d.hear j f.by).1) d
def Ao9(ws:List (List Fr))(hs:List Int)(es:List (Int×Int))(i:Nat)(d:Nd):Nd:=
 if(es.getD i (0,0)).2=1 then bW d (Vj hs i) (ws.getD (es.getD i (0,0)).1.toNat []) else d
def Nt.d3(t:Nt)(c:Ch):List Nd:=(t.d2 c).mapIdx (Ao9 (t.wds c) c.hear (t.oN c))
def Nt.step(t:Nt)(c:Ch):Nt×Int:=
 if t.chk c≠0 then(t,t.chk c) else({t with ds:=t.d3 c,steps:=wrap .i64 (t.steps+1),sent:=t.fE c,ears:=t.oN c},0)
def nt0(S:zU)(lp:Option Addr):Nt:=⟨S,List.replicate S.nodes.toNat 0,(List.range S.nodes.toNat).map λi=>nd0 (ndS S i) lp,0,0,[]⟩
def Nt.at(t:Nt)(i:Int):Option Nd:=if i<0 then none else t.ds[i.toNat]?
def Nt.put(t:Nt)(i:Int)(d:Nd):Nt:={t with ds:=t.ds.set i.toNat d}
def Nt.link(t:Nt)(i k:Int)(on:Bool):Nt×Int:=
 if 0≤i∧i<t.s.nodes∧0≤k∧k<t.s.nodes∧i≠k then({t with near:=aZ t.near i.toNat k.toNat on},0) else(t,1)
end Go.Proofs.YtppeepkmnijdpaaGreatDoor
namespace Go.Proofs.YtppeepkmnijdpaaGreatDoor
open Go Go.Eng Tryz
set_option linter.unusedSimpArgs false
set_option linter.unusedVariables false
set_option maxRecDepth 100000
set_option maxHeartbeats 8000000
theorem Ao8{e:El}{root:Int}(h:vX e root=true):0≤root∧root<e.me:=by
 unfold vX at h
 split at h
 ·cases h
 ·omega
theorem Amo{e:El}{l:Tz}{root:Int}{m:Ky MK}(h:hrN e l root m≠0):vX e root=true∧frE l root m=true:=by
 unfold hrN at h
 split at h
 ·exact absurd rfl h
 rename_i c1
 split at h
 ·exact absurd rfl h
 rename_i c2
 exact⟨by simpa using c1,by simpa using c2⟩
theorem Aki{e:El}{l:Tz}{s:S6}{t:Int}(h:hrF e l s t≠0):okH s t=true∧vX e s.2.1=true∧frE l s.2.1 (mrk s)=true:=by
 unfold hrF at h
 split at h
 ·rename_i c;exact⟨c,Amo h⟩
 ·exact absurd rfl h
structure wM(d:Nd):Prop where
 g:Zf d
 s:aY d
 i:EI d.e d.l
theorem eiG{s:zG}(h:U1 s=true):elG s.tmo s.ign=true:=by
 obtain⟨_,_,f,_⟩:=Lj.1 h
 exact(Vg.1 f).1
theorem wM.nd0{s:zG}(h:U1 s=true)(lp:Option Addr):wM (nd0 s lp):=by
 obtain⟨m0,m1,_⟩:=Lj.1 h
 exact⟨Zf.nd0 h lp,aY.nd0 s lp,EI.new m0 m1 (eiG h) u0⟩
theorem qJ(d:Nd)(j:Jb):(d.push j).1.e=d.e∧(d.push j).1.l=d.l:=by unfold Nd.push;split<;>exact⟨rfl,rfl⟩
theorem Air(d:Nd):d.pass.1.e=d.e∧d.pass.1.l=d.l:=by unfold Nd.pass;split;exact⟨rfl,rfl⟩;exact qJ d _
theorem Arn(d:Nd)(st:Int):(d.word st).1.e=d.e∧(d.word st).1.l=d.l:=by unfold Nd.word;split<;>exact⟨rfl,rfl⟩
theorem Aog(d:Nd)(st:Int)(p:List Jb×List Fr):(d.Uy st p).1.e=d.e∧(d.Uy st p).1.l=d.l:=by
 unfold Nd.Uy
 dsimp only
 split
 ·exact Arn {d with jobs:=p.1} st
 ·exact⟨rfl,rfl⟩
theorem Aoa{d:Nd}(h:EI d.e d.l)(step j:Int):EI (d.send step j).1.e (d.send step j).1.l:=by
 unfold Nd.send
 split
 ·exact h
 split
 ·exact h
 ·have q:=Aog (d.Si (d.Ui j).1) (d.Ui j).1 ((d.Si (d.Ui j).1).pop (d.Ui j).1 d.jobs (dV [] (d.fZ (d.Ui j).1)))
  show EI ((d.Si (d.Ui j).1).Uy (d.Ui j).1 _).1.e ((d.Si (d.Ui j).1).Uy (d.Ui j).1 _).1.l
  rw[q.1,q.2]
  exact h.b2e _
theorem Ali{d:Nd}(h:EI d.e d.l){s:S6}(hu:Y8 s.2.2.1∧Y8 s.2.2.2.1)(t:Int):EI (d.Xp s t).e (d.Xp s t).l:=by
 unfold Nd.Xp
 dsimp only
 split
 ·exact h
 ·rename_i c
  obtain⟨_,hm,_⟩:=Aki c
  obtain⟨r0,r1⟩:=Ao8 hm
  exact h.hear r0 r1 hu
theorem An2{d:Nd}(h:EI d.e d.l){f:Fr}(hu:f.u)(t:Int):EI (d.take f t).1.e (d.take f t).1.l:=by
 cases f with
 |sync s=>exact Ali h hu t
 |find x=>unfold Nd.take;dsimp only;split<;>exact h
 |want m=>unfold Nd.take;dsimp only;split;rw[(qJ _ _).1,(qJ _ _).2];exact h;exact h
 |pulse x=>unfold Nd.take;dsimp only;split;rw[(qJ _ _).1,(qJ _ _).2];exact h;exact h
 |reply r=>unfold Nd.take;dsimp only;split<;>exact h
 |anchor a=>unfold Nd.take;dsimp only;split;rw[(Air _).1,(Air _).2];exact h;exact h
theorem Aol{d:Nd}(h:EI d.e d.l)(j:Int){b:List Nat}(hb:pG b):EI (d.hear j b).1.e (d.hear j b).1.l:=by
 unfold Nd.hear
 split
 ·exact h
 cases hd:jP b with
 |error e=>exact h
 |ok f=>
  show EI (d.heard f (d.Ui j).1).1.e (d.heard f (d.Ui j).1).1.l
  unfold Nd.heard
  split
  ·exact h
  ·exact An2 h (qA hb hd).2 _
theorem Avh(d:Nd)(t:Int):(d.go t).1.e=d.e∧(d.go t).1.l=d.l:=by unfold Nd.go;split<;>exact⟨rfl,rfl⟩
theorem wM.send{d:Nd}(h:wM d)(step j:Int):wM (d.send step j).1:=⟨h.g.send _ _,h.s.send _ _,Aoa h.i _ _⟩
theorem wM.hear{d:Nd}(h:wM d)(j:Int){b:List Nat}(hb:pG b):wM (d.hear j b).1:=⟨h.g.hear _ hb,h.s.hear _ hb,Aol h.i _ hb⟩
theorem wM.go{d:Nd}(h:wM d)(t:Int):wM (d.go t).1:=⟨h.g.go _,h.s.go _,by rw[(Avh d t).1,(Avh d t).2];exact h.i⟩
theorem wM.turn{d:Nd}(h:wM d){raw:Int}(h0:0≤raw)(h1:raw<4294967296):wM (d.turn raw):=⟨h.g.turn h0 h1,aY.turn d raw,h.i.Avi (Alt _)⟩
def Nd.so5(d:Nd):(zG×Option Addr×Int×Bool)×Int:=((d.s,d.lp,d.boot,d.on),d.now)
def Nd.so4(d:Nd):zG×Option Addr×Int×Bool:=(d.s,d.lp,d.boot,d.on)
theorem Aey(d:Nd)(j:Jb):(d.push j).1.so5=d.so5:=by unfold Nd.push;split<;>rfl
theorem Ar1(d:Nd):d.pass.1.so5=d.so5:=by unfold Nd.pass;split;rfl;exact Aey d _
theorem Asd(d:Nd)(st:Int):(d.word st).1.so5=d.so5:=by unfold Nd.word;split<;>rfl
theorem Anv(d:Nd)(st:Int)(p:List Jb×List Fr):(d.Uy st p).1.so5=d.so5:=by
 unfold Nd.Uy
 dsimp only
 split
 ·exact Asd {d with jobs:=p.1} st
 ·rfl
theorem Arq(d:Nd)(step j:Int):(d.send step j).1.so5=d.so5:=by
 unfold Nd.send
 split
 ·rfl
 split
 ·rfl
 ·exact Anv (d.Si _) _ _
theorem Aoi(d:Nd)(s:S6)(t:Int):(d.Xp s t).so5=d.so5:=by unfold Nd.Xp;dsimp only;split<;>rfl
theorem Arw(d:Nd)(f:Fr)(t:Int):(d.take f t).1.so5=d.so5:=by
 cases f with
 |sync s=>exact Aoi d s t
 |find x=>unfold Nd.take;dsimp only;split<;>rfl
 |want m=>unfold Nd.take;dsimp only;split;exact Aey d _;rfl
 |pulse x=>unfold Nd.take;dsimp only;split;exact Aey d _;rfl
 |reply r=>unfold Nd.take;dsimp only;split<;>rfl
 |anchor a=>unfold Nd.take;dsimp only;split;exact Ar1 {d with bh:=true,ba:=a};rfl
theorem Ar5(d:Nd)(j:Int)(b:List Nat):(d.hear j b).1.so5=d.so5:=by
 unfold Nd.hear
 split
 ·rfl
 split
 ·rfl
 ·unfold Nd.heard
  split
  ·rfl
  ·exact Arw d _ _
theorem Aj7(d:Nd)(step j:Int):(d.send step j).1.so4=d.so4:=congrArg (·.1) (Arq d step j)
theorem Atf(d:Nd)(j:Int)(b:List Nat):(d.hear j b).1.so4=d.so4:=congrArg (·.1) (Ar5 d j b)
theorem Auu(d:Nd)(t:Int):(d.go t).1.so4=d.so4:=by unfold Nd.go;split<;>rfl
theorem Akg{d d':Nd}(h:d'.so4=d.so4):d'.s=d.s:=congrArg (λx=>x.1) h
theorem Ase{d d':Nd}(h:d'.so4=d.so4):d'.on=d.on:=congrArg (λx=>x.2.2.2) h
theorem Aor{kd:Nat}(h:kd<256)(fs:List E3):pG (wB kd fs):=by
 intro x hx
 unfold wB wZ at hx
 have hc:=pY (s:=65535) (by decide) (kd::jY fs)
 rcases List.mem_append.1 hx with hx|hx
 ·rcases List.mem_cons.1 hx with rfl|hx
  ·exact h
  ·exact Ac4 fs x hx
 ·simp only[List.mem_cons,List.not_mem_nil,or_false] at hx
  rcases hx with rfl|rfl<;>omega
theorem Atp(f:Fr):pG f.by:=Aor (by cases f<;>(simp only[Fr.kd];decide)) _
theorem Aob{d:Nd}(h:d.on=false):d.Vo=false:=by unfold Nd.Vo;rw[if_pos h]
theorem Arc(d:Nd):(zL d).1=d.on:=by
 unfold zL
 split
 ·rename_i h;exact h.symm
 ·rename_i h
  have:d.on=false:=by simpa using h
  rw[this]
def No(w:World)(B:NP)(b:Nat)(d:Nd):Prop:=wM d∧ ∃O N bf be,N 0=b∧(∀z,B z↔NO N O z)∧NW w O N bf be d
theorem No.k{w:World}{B:NP}{b:Nat}{d:Nd}(h:No w B b d):wM d:=h.1
theorem No.upd{S B:NP}{w w':World}{b:Nat}{d:Nd}(h:No w B b d)(u:Ap S w w')(hS: ∀z,B z→ ¬S z):No w' B b d:=by
 obtain⟨k,O,N,bf,be,e,hB,nw⟩:=h
 exact⟨k,O,N,bf,be,e,hB,nw.upd u λz hz=>hS z ((hB z).2 hz)⟩
theorem No.lt{B:NP}{w:World}{b:Nat}{d:Nd}(h:No w B b d): ∀z,B z→z<w.heap.size:=by
 obtain⟨k,O,N,bf,be,e,hB,nw⟩:=h
 exact λz hz=>nw.lt z ((hB z).1 hz)
theorem nxB{A B A' B':NP}{w w':World}(h:Nx A w A' w')(e: ∀z,B z↔A z)(e': ∀z,B' z↔A' z):Nx B w B' w':=
 ⟨h.u.mono λz hz=>(e z).2 hz,λz hz=>(h.sub z ((e' z).1 hz)).elim (λq=>.inl ((e z).2 q)) .inr⟩
theorem Hm.o{w:World}{B:NP}{b:Nat}{d:Nd}{step j:Int}(h:No w B b d){k:TR RSd→WP}
  (hk: ∀y w' B',No w' B' b (d.send step j).1→vJ w' w.heap.size B' y ((d.send step j).2.1.map Fr.by)→Nx B w B' w'→k (((y.1,y.2.1,y.2.2),()),((d.send step j).2.2,()),()) w'):
  Ad prog F.Hm [pB b,iV step,iV j] w true RSd k:=by
 obtain⟨K,O,N,bf,be,e,hB,nw⟩:=h
 subst e
 exact Hm.n nw K.g λy w' O' nw' S X=>hk y w' (NO N O') ⟨K.send _ _,O',N,bf,be,rfl,λ_=>Iff.rfl,nw'⟩ S (nxB X hB λ_=>Iff.rfl)
theorem Hg.o{w:World}{B:NP}{b:Nat}{d:Nd}{j:Int}{s:Sl}{xs:List Nat}(h:No w B b d)(hx:pG xs)(hR:dC w s xs)(hcap:s.2.1≤s.2.2){k:TR Kt→WP}
  (hk: ∀w' B',No w' B' b (d.hear j xs).1→Nx B w B' w'→k (((d.hear j xs).2,()),()) w'):Ad prog F.Hg [pB b,iV j,.slice s.1 s.2.1 s.2.2] w false Kt k:=by
 obtain⟨K,O,N,bf,be,e,hB,nw⟩:=h
 subst e
 exact Hg.n nw K.g hx hR hcap λw' O' nw' X=>hk w' (NO N O') ⟨K.hear _ hx,O',N,bf,be,rfl,λ_=>Iff.rfl,nw'⟩ (nxB X hB λ_=>Iff.rfl)
theorem Kq.o{w:World}{B:NP}{b:Nat}{d:Nd}{raw:Int}(h:No w B b d)(h0:0≤raw)(h1:raw<4294967296){k:TR Kt→WP}
  (hk: ∀w' B',No w' B' b (d.turn raw)→Nx B w B' w'→k ((0,()),()) w'):Ad prog F.Kq [pB b,.int .u32 raw] w false Kt k:=by
 obtain⟨K,O,N,bf,be,e,hB,nw⟩:=h
 subst e
 exact Kq.cl nw h0 h1 λw' O' nw' X=>hk w' (NO N O') ⟨K.turn h0 h1,O',N,bf,be,rfl,λ_=>Iff.rfl,nw'⟩ (nxB X hB λ_=>Iff.rfl)
theorem Kz.o{w:World}{B:NP}{b:Nat}{d:Nd}{t:Int}(h:No w B b d){k:TR Kt→WP}
  (hk: ∀w',No w' B b (d.go t).1→Nx B w B w'→k (((d.go t).2,()),()) w'):Ad prog F.Kz [pB b,iV t] w false Kt k:=by
 obtain⟨K,O,N,bf,be,e,hB,nw⟩:=h
 subst e
 exact Kz.n nw K.g λw' nw' X=>hk w' ⟨K.go _,O,N,bf,be,rfl,hB,nw'⟩ (nxB X hB hB)
theorem Hl.o{w:World}{B:NP}{b:Nat}{d:Nd}{t:Int}(h:No w B b d){k:TR Vl→WP}(hk:k ((aQ d.s.drift t,()),()) w):Ad prog F.Hl [pB b,iV t] w false Vl k:=by
 obtain⟨K,O,N,bf,be,e,hB,nw⟩:=h
 subst e
 exact Hl.n nw K.g hk
theorem Eh.o{w:World}{B:NP}{b:Nat}{d:Nd}(h:No w B b d){k:TR [(true,K5),(false,[KI])]→WP}
  (hk: ∀w',Ah w w'→k (dM d.time.1,(d.time.2,()),()) w'):Ad prog F.Eh [pB b] w true [(true,K5),(false,[KI])] k:=by
 obtain⟨K,O,N,bf,be,e,hB,nw⟩:=h
 subst e
 exact Eh.n nw hk
theorem Dt.o{w:World}{B:NP}{b:Nat}{d:Nd}(h:No w B b d){k:TR [(true,KSs)]→WP}(hk: ∀w',Ah w w'→k (zL d,()) w'):Ad prog F.Dt [pB b] w false [(true,KSs)] k:=by
 obtain⟨K,O,N,bf,be,e,hB,nw⟩:=h
 subst e
 exact Dt.n nw hk
theorem Gu.o{w:World}{B:NP}{b:Nat}{d:Nd}(h:No w B b d){k:TR Vl→WP}(hk: ∀w',Ah w w'→k ((d.Vo,()),()) w'):Ad prog F.Gu [pB b] w false Vl k:=by
 obtain⟨K,O,N,bf,be,e,hB,nw⟩:=h
 subst e
 exact Gu.n nw K.g.s hk
theorem Ua.o{s:zG}{lp:Option Addr}{w:World}{k:TR RPI→WP}(h0:U1 s=false→ ∀w',Ah w w'→k ((none,()),(1,()),()) w')
  (h:U1 s=true→ ∀b B w',No w' B b (nd0 s lp)→(∀z,B z→w.heap.size≤z)→Ah w w'→k ((some ⟨b,0,none⟩,()),(0,()),()) w'):Ad prog F.Ua [.agg (stC s).toArray,.pointer lp] w true RPI k:=
 Ua.cl h0 λhg O N bf be w' nw hz u=>h hg (N 0) (NO N O) w' ⟨wM.nd0 hg lp,O,N,bf,be,rfl,λ_=>Iff.rfl,nw⟩ hz u
end Go.Proofs.YtppeepkmnijdpaaGreatDoor
namespace Go.Proofs.YtppeepkmnijdpaaGreatDoor
open Go Go.Eng
set_option linter.unusedSimpArgs false
set_option linter.unusedVariables false
set_option maxRecDepth 100000
set_option maxHeartbeats 8000000
theorem Row.Agz{S:NP}{w w':World}{s:Sl}{n:Nat}{xs:List Value}(h:Row w s n xs)(u:Ap S w w')(hS:xs≠[]→ ∀a,s.1=some a→ ¬S a.block):Row w' s n xs:=by
 by_cases c:xs=[]
 ·subst c
  exact⟨h.len,λq=>absurd rfl q⟩
 ·exact Row.upd h u (hS c)
structure dZ(t:Nt):Prop where
 s:uD t.s=true
 len:t.ds.length=t.s.nodes.toNat
 nd: ∀i d,t.ds[i]? =some d→wM d∧d.s=ndS t.s i
 nl:t.near.length=t.ds.length
 nb: ∀x∈t.near,x<18446744073709551616
 sb:t.sent<18446744073709551616
 el:t.ears.length≤64
theorem dZ.rng{t:Nt}(h:dZ t):1≤t.ds.length∧t.ds.length≤64∧(t.ds.length:Int)=t.s.nodes:=by
 obtain⟨⟨a,b⟩,_⟩:=aO.1 h.s
 have:=h.len
 omega
theorem dZ.at{t:Nt}(h:dZ t){i:Nat}(hi:i<t.ds.length): ∃d,t.ds[i]? =some d:=⟨_,List.getElem?_eq_getElem hi⟩
theorem dZ.put{t:Nt}(h:dZ t){i:Nat}{d d':Nd}(hi:t.ds[i]? =some d)(k:wM d')(e:d'.s=d.s):dZ {t with ds:=t.ds.set i d'}:=by
 refine⟨h.s,by show(t.ds.set i d').length=_;rw[List.length_set];exact h.len,λj x hx=>?_,by show t.near.length=(t.ds.set i d').length;rw[List.length_set];exact h.nl,h.nb,h.sb,h.el⟩
 change (t.ds.set i d')[j]? =some x at hx
 rw[List.getElem?_set] at hx
 split at hx
 ·rename_i c
  subst c
  split at hx
  ·injection hx with hx;subst hx
   exact⟨k,e.trans (h.nd _ _ hi).2⟩
  ·cases hx
 ·exact h.nd j x hx
theorem Avv{S:zU}(h:uD S=true)(lp:Option Addr):dZ (nt0 S lp):=by
 obtain⟨⟨a,b⟩,g⟩:=aO.1 h
 refine⟨h,by simp[nt0],λi d hd=>?_,by simp[nt0],λx hx=>?_,by show 0<_;decide,by show 0≤64;decide⟩
 ·have hd:((List.range S.nodes.toNat).map λi=>nd0 (ndS S i) lp)[i]? =some d:=hd
  rw[List.getElem?_map] at hd
  by_cases c:i<S.nodes.toNat
  ·rw[List.getElem?_range c] at hd
   injection hd with hd;subst hd
   exact⟨wM.nd0 (g i c) lp,rfl⟩
  ·rw[List.getElem?_eq_none (by simpa using (by omega:S.nodes.toNat≤i))] at hd
   cases hd
 ·have hx:x∈List.replicate S.nodes.toNat 0:=hx
  rw[List.eq_of_mem_replicate hx];decide
theorem qE{α β:Type}{l:List α}{r:List β}{x:α×β}:x∈l.zip r↔ ∃i:Nat,l[i]? =some x.1∧r[i]? =some x.2:=by
 constructor
 ·intro h
  obtain⟨i,hi,e⟩:=List.mem_iff_getElem.1 h
  rw[List.getElem_zip] at e
  have hl:i<l.length:=by rw[List.length_zip] at hi;omega
  have hr:i<r.length:=by rw[List.length_zip] at hi;omega
  exact⟨i,by rw[List.getElem?_eq_getElem hl,←e],by rw[List.getElem?_eq_getElem hr,←e]⟩
 ·rintro⟨i,h1,h2⟩
  obtain⟨hl,e1⟩:=List.getElem?_eq_some_iff.1 h1
  obtain⟨hr,e2⟩:=List.getElem?_eq_some_iff.1 h2
  have hz:i<(l.zip r).length:=by rw[List.length_zip];omega
  have:(l.zip r)[i]=x:=by rw[List.getElem_zip,e1,e2]
  rw[←this];exact List.getElem_mem hz
theorem dZ.dr{t:Nt}(h:dZ t):0≤t.s.drift∧t.s.drift≤10:=by
 obtain⟨_,g⟩:=aO.1 h.s
 have h1:=h.rng
 have h2:=g 0 (by rw[←h.len];omega)
 obtain⟨_,_,f,_⟩:=Lj.1 h2
 have f:=Vg.1 f
 have:(ndS t.s 0).drift=t.s.drift:=rfl
 rw[this] at f
 omega
theorem dZ.jt{t:Nt}(h:dZ t):0≤t.s.jit∧t.s.jit≤20:=by
 obtain⟨_,g⟩:=aO.1 h.s
 have h1:=h.rng
 have h2:=g 0 (by rw[←h.len];omega)
 obtain⟨_,_,_,_,_,_,j0,j1⟩:=Lj.1 h2
 exact⟨j0,j1⟩
def rO(S:zU)(so:Sl):List Value:=[iV S.nodes,iV S.tmo,iV S.ign,iV S.need,iV S.drift,iV S.rnd,iV S.opn,iV S.lim,iV S.jit,iV S.gate,Uz so]
def ntC(S:zU)(so sn se:Sl)(L:Nat)(steps:Int)(sent:Nat):List Value:=rO S so++[pB L,Uz sn,iV steps,.int .u64 (sent:Int),Uz se]
abbrev KE:List CK:=[KI,KI]
def eT(e:Int×Int):Ky KE:=(e.1,e.2,())
structure TX(w:World)(n L nb:Nat)(so sn se:Sl)(b:Nat→Nat)(B:Nat→NP)(t:Nt):Prop where
 nk:Ar w n (ntC t.s so sn se L t.steps t.sent)
 lk:Ar w L [iV t.s.nodes,Uz (some ⟨nb,0,none⟩,t.near.length,t.near.length)]
 rk:Ar w nb (Ry t.near)
 ns:Row w sn 1 ((List.range t.ds.length).map λi=>pB (b i))
 es:U0 w se KE (t.ears.map eT)
 ec:se.2.1≤se.2.2
 nd: ∀i d,t.ds[i]? =some d→No w (B i) (b i) d
 dj: ∀i j z,i<t.ds.length→j<t.ds.length→B i z→B j z→i=j
 st: ∀i z,i<t.ds.length→B i z→z≠n∧z≠L∧z≠nb∧(∀a,sn.1=some a→a.block≠z)∧(t.ears≠[]→ ∀a,se.1=some a→a.block≠z)
 d1:n≠L∧n≠nb∧L≠nb
 d2: ∀a,sn.1=some a→a.block≠n∧a.block≠L∧a.block≠nb
 d3:t.ears≠[]→ ∀a,se.1=some a→a.block≠n∧a.block≠L∧a.block≠nb
def TZ(n L nb:Nat)(sn se:Sl)(B:Nat→NP)(t:Nt)(z:Nat):Prop:=
 z=n∨z=L∨z=nb∨(∃a,sn.1=some a∧a.block=z)∨(t.ears≠[]∧ ∃a,se.1=some a∧a.block=z)∨ ∃i,i<t.ds.length∧B i z
theorem iD{es:List (Int×Int)}(h:(es.map eT).flatMap (encs KE)≠[]):es≠[]:=λe=>h (by rw[e];rfl)
theorem TX.upd{S:NP}{w w':World}{n L nb:Nat}{so sn se:Sl}{b:Nat→Nat}{B:Nat→NP}{t:Nt}(h:TX w n L nb so sn se b B t)(u:Ap S w w')(hS: ∀z,TZ n L nb sn se B t z→ ¬S z):TX w' n L nb so sn se b B t:=
 ⟨h.nk.upd u (hS _ (.inl rfl)),h.lk.upd u (hS _ (.inr (.inl rfl))),h.rk.upd u (hS _ (.inr (.inr (.inl rfl)))),
  Row.upd h.ns u λa ha=>hS _ (.inr (.inr (.inr (.inl ⟨a,ha,rfl⟩)))),
  Row.Agz h.es u λq a ha=>hS _ (.inr (.inr (.inr (.inr (.inl ⟨iD q,a,ha,rfl⟩))))),h.ec,
  λi d hd=>(h.nd i d hd).upd u λz hz=>hS _ (.inr (.inr (.inr (.inr (.inr ⟨i,(List.getElem?_eq_some_iff.1 hd).1,hz⟩))))),
  h.dj,h.st,h.d1,h.d2,h.d3⟩
theorem TX.Ai{w w':World}{n L nb:Nat}{so sn se:Sl}{b:Nat→Nat}{B:Nat→NP}{t:Nt}(h:TX w n L nb so sn se b B t)(u:Ah w w'):TX w' n L nb so sn se b B t:=h.upd u λ_ _ x=>x
theorem TX.lt{w:World}{n L nb:Nat}{so sn se:Sl}{b:Nat→Nat}{B:Nat→NP}{t:Nt}(h:TX w n L nb so sn se b B t)(h1:1≤t.ds.length): ∀z,TZ n L nb sn se B t z→z<w.heap.size:=by
 rintro z (rfl|rfl|rfl|⟨a,ha,rfl⟩|⟨he,a,ha,rfl⟩|⟨i,hi,hz⟩)
 ·exact h.nk.lt
 ·exact h.lk.lt
 ·exact h.rk.lt
 ·have:=cell_lt (h.ns.ld ha (k:=0) (v:=pB (b 0)) (by rw[List.getElem?_map,List.getElem?_range (by omega)];rfl))
  rwa [add_block] at this
 ·obtain⟨e,hh⟩: ∃e,t.ears[0]? =some e:=by
   cases hq:t.ears with
   |nil=>exact absurd hq he
   |cons e _=>exact⟨e,rfl⟩
  have q:(t.ears.map eT)[0]? =some (eT e):=by rw[List.getElem?_map,hh];rfl
  have:=cell_lt (Row.ld h.es ha (flat_get q 0 _ rfl))
  rwa [add_block] at this
 ·obtain⟨d,hd⟩: ∃d,t.ds[i]? =some d:=⟨_,List.getElem?_eq_getElem hi⟩
  exact(h.nd i d hd).lt z hz
theorem TX.turn{w w':World}{n L nb:Nat}{so sn se:Sl}{b:Nat→Nat}{B:Nat→NP}{t:Nt}(h:TX w n L nb so sn se b B t)(h1:1≤t.ds.length){i:Nat}{d d':Nd}(hi:t.ds[i]? =some d){B':NP}(k:No w' B' (b i) d')(x:Nx (B i) w B' w'):
  TX w' n L nb so sn se b (λj=>if j=i then B' else B j) {t with ds:=t.ds.set i d'}:=by
 have hil:=(List.getElem?_eq_some_iff.1 hi).1
 have lt:=h.lt h1
 have fr: ∀z,B' z→B i z∨w.heap.size≤z:=x.sub
 have ll:(t.ds.set i d').length=t.ds.length:=List.length_set
 have no: ∀z,TZ n L nb sn se B t z→(∀j,j<t.ds.length→B j z→j≠i)→ ¬B i z:=λz hz hj hb=>hj i hil hb rfl
 refine⟨h.nk.upd x.u λq=>(h.st i n hil q).1 rfl,h.lk.upd x.u λq=>(h.st i L hil q).2.1 rfl,h.rk.upd x.u λq=>(h.st i nb hil q).2.2.1 rfl,?_,?_,h.ec,?_,?_,?_,h.d1,h.d2,h.d3⟩
 ·show Row w' sn 1 ((List.range (t.ds.set i d').length).map λi=>pB (b i))
  rw[ll]
  exact Row.upd h.ns x.u λa ha q=>(h.st i _ hil q).2.2.2.1 a ha rfl
 ·exact Row.Agz h.es x.u λq a ha hb=>(h.st i _ hil hb).2.2.2.2 (iD q) a ha rfl
 ·intro j y hy
  change (t.ds.set i d')[j]? =some y at hy
  rw[List.getElem?_set] at hy
  split at hy
  ·rename_i c
   subst c
   first
    |(injection hy with hy;subst hy;rw[if_pos rfl];exact k)
    |(split at hy
      ·injection hy with hy;subst hy
       rw[if_pos rfl];exact k
      ·cases hy)
  ·rename_i c
   rw[if_neg λe=>c e.symm]
   exact(h.nd j y hy).upd x.u λz hz hb=>c (h.dj i j z hil (List.getElem?_eq_some_iff.1 hy).1 hb hz)
 ·intro j l z hj hl a c
  have hj:j<t.ds.length:=by rw[←ll];exact hj
  have hl:l<t.ds.length:=by rw[←ll];exact hl
  by_cases e1:j=i
  ·rw[if_pos e1] at a
   by_cases e2:l=i
   ·rw[e1,e2]
   ·rw[if_neg e2] at c
    rcases fr z a with q|q
    ·exact e1.trans (h.dj i l z hil hl q c)
    ·have:=lt z (.inr (.inr (.inr (.inr (.inr ⟨l,hl,c⟩)))));omega
  ·rw[if_neg e1] at a
   by_cases e2:l=i
   ·rw[if_pos e2] at c
    rcases fr z c with q|q
    ·exact(h.dj j i z hj hil a q).trans e2.symm
    ·have:=lt z (.inr (.inr (.inr (.inr (.inr ⟨j,hj,a⟩)))));omega
   ·rw[if_neg e2] at c
    exact h.dj j l z hj hl a c
 ·intro j z hj a
  have hj:j<t.ds.length:=by rw[←ll];exact hj
  by_cases e1:j=i
  ·rw[if_pos e1] at a
   rcases fr z a with q|q
   ·exact h.st i z hil q
   ·refine⟨λe=>?_,λe=>?_,λe=>?_,λa ha e=>?_,λhn a ha e=>?_⟩
    ·have:=lt n (.inl rfl);omega
    ·have:=lt L (.inr (.inl rfl));omega
    ·have:=lt nb (.inr (.inr (.inl rfl)));omega
    ·have:=lt z (.inr (.inr (.inr (.inl ⟨a,ha,e⟩))));omega
    ·have:=lt z (.inr (.inr (.inr (.inr (.inl ⟨hn,a,ha,e⟩)))));omega
  ·rw[if_neg e1] at a
   exact h.st j z hj a
theorem TX.Aqp{w w':World}{n L nb:Nat}{sn se:Sl}{B:Nat→NP}{t:Nt}{i:Nat}{d:Nd}(hi:t.ds[i]? =some d){d':Nd}{B':NP}(x:Nx (B i) w B' w'):
  Nx (TZ n L nb sn se B t) w (TZ n L nb sn se (λj=>if j=i then B' else B j) {t with ds:=t.ds.set i d'}) w':=by
 have hil:=(List.getElem?_eq_some_iff.1 hi).1
 refine⟨x.u.mono λz hz=>.inr (.inr (.inr (.inr (.inr ⟨i,hil,hz⟩)))),?_⟩
 rintro z (q|q|q|q|q|⟨j,hj,hz⟩)
 ·exact .inl (.inl q)
 ·exact .inl (.inr (.inl q))
 ·exact .inl (.inr (.inr (.inl q)))
 ·exact .inl (.inr (.inr (.inr (.inl q))))
 ·exact .inl (.inr (.inr (.inr (.inr (.inl q)))))
 ·have hj:j<t.ds.length:=by rw[←List.length_set (i:=i) (a:=d')];exact hj
  by_cases e:j=i
  ·rw[if_pos e] at hz
   rcases x.sub z hz with q|q
   ·exact .inl (.inr (.inr (.inr (.inr (.inr ⟨i,hil,q⟩)))))
   ·exact .inr q
  ·rw[if_neg e] at hz
   exact .inl (.inr (.inr (.inr (.inr (.inr ⟨j,hj,hz⟩)))))
def TW(w:World)(Z:NP)(n:Nat)(t:Nt):Prop:=dZ t∧ ∃L nb so sn se b B,(∀z,Z z↔TZ n L nb sn se B t z)∧TX w n L nb so sn se b B t
theorem TW.upd{S Z:NP}{w w':World}{n:Nat}{t:Nt}(h:TW w Z n t)(u:Ap S w w')(hS: ∀z,Z z→ ¬S z):TW w' Z n t:=by
 obtain⟨g,L,nb,so,sn,se,b,B,hZ,x⟩:=h
 exact⟨g,L,nb,so,sn,se,b,B,hZ,x.upd u λz hz=>hS z ((hZ z).2 hz)⟩
theorem TW.Ai{Z:NP}{w w':World}{n:Nat}{t:Nt}(h:TW w Z n t)(u:Ah w w'):TW w' Z n t:=h.upd u λ_ _ x=>x
theorem TW.lt{Z:NP}{w:World}{n:Nat}{t:Nt}(h:TW w Z n t): ∀z,Z z→z<w.heap.size:=by
 obtain⟨g,L,nb,so,sn,se,b,B,hZ,x⟩:=h
 exact λz hz=>x.lt g.rng.1 z ((hZ z).1 hz)
theorem TW.put{Z:NP}{w w':World}{n L nb:Nat}{so sn se:Sl}{b:Nat→Nat}{B:Nat→NP}{t:Nt}(g:dZ t)(hZ: ∀z,Z z↔TZ n L nb sn se B t z)(X:TX w n L nb so sn se b B t){i:Nat}{d d':Nd}(hi:t.ds[i]? =some d)(e:d'.s=d.s){B':NP}(k:No w' B' (b i) d')(x:Nx (B i) w B' w'):
  ∃Z',TW w' Z' n {t with ds:=t.ds.set i d'}∧Nx Z w Z' w':=
 ⟨_,⟨g.put hi k.k e,L,nb,so,sn,se,b,_,λ_=>Iff.rfl,X.turn g.rng.1 hi k x⟩,nxB (TX.Aqp hi x) hZ λ_=>Iff.rfl⟩
end Go.Proofs.YtppeepkmnijdpaaGreatDoor
namespace Go.Proofs.YtppeepkmnijdpaaGreatDoor
open Go Go.Eng
set_option linter.unusedSimpArgs false
set_option linter.unusedVariables false
set_option maxRecDepth 100000
set_option maxHeartbeats 8000000
theorem Nt.Aky{t:Nt}{c:Ch}{i:Nat}{d:Nd}(h:t.ds[i]? =some d):(t.d1 c)[i]? =some (d.go (Vj c.ticks i)).1:=by
 unfold Nt.d1;rw[List.getElem?_mapIdx,h];rfl
theorem Nt.Arf{t:Nt}{c:Ch}{i:Nat}{d:Nd}(h:t.ds[i]? =some d):(t.d2 c)[i]? =some ((d.go (Vj c.ticks i)).1.send t.steps (Vj c.send i)).1:=by
 unfold Nt.d2;rw[List.getElem?_mapIdx,Nt.Aky h];rfl
theorem Nt.yU{t:Nt}{c:Ch}{i:Nat}{d:Nd}(h:t.ds[i]? =some d):(t.wds c)[i]? =some ((d.go (Vj c.ticks i)).1.send t.steps (Vj c.send i)).2.1:=by
 unfold Nt.wds;rw[List.getElem?_mapIdx,Nt.Aky h];rfl
theorem Nt.Alp(t:Nt)(c:Ch):(t.d1 c).length=t.ds.length:=by unfold Nt.d1;exact List.length_mapIdx
theorem Nt.Ate(t:Nt)(c:Ch):(t.d2 c).length=t.ds.length:=by unfold Nt.d2;rw[List.length_mapIdx,Nt.Alp]
theorem Nt.Apr(t:Nt)(c:Ch):(t.oN c).length=t.ds.length:=by unfold Nt.oN;rw[List.length_map,List.length_range]
theorem Nt.Afm{t:Nt}{c:Ch}{i:Nat}(h:i<t.ds.length):(t.oN c)[i]? =some (vH (t.fE c) (t.Vo c) c.lost i (t.near.getD i 0&&&t.fE c)):=by
 unfold Nt.oN;rw[List.getElem?_map,List.getElem?_range h];rfl
theorem dZ.fE{t:Nt}(h:dZ t)(c:Ch):t.fE c<18446744073709551616:=nX _ _ h.rng.2.1
theorem dZ.Vo{t:Nt}(h:dZ t)(c:Ch):t.Vo c<18446744073709551616:=nX _ _ h.rng.2.1
theorem Nt.An3{t:Nt}{c:Ch}{i:Nat}(h:(t.fE c).testBit i=true): ∃d,t.ds[i]? =some d∧((d.go (Vj c.ticks i)).1.send t.steps (Vj c.send i)).2.1≠[]:=by
 unfold Nt.fE at h
 rw[zF] at h
 simp only[Bool.and_eq_true,decide_eq_true_eq,Bool.not_eq_true'] at h
 obtain⟨d,hd⟩: ∃d,t.ds[i]? =some d:=⟨_,List.getElem?_eq_getElem h.1⟩
 refine⟨d,hd,λe=>?_⟩
 rw[List.getD_eq_getElem?_getD,Nt.yU hd,e] at h
 exact absurd h.2 (by decide)
theorem Akd{send Vo:Nat}{lost:List Nat}{i:Nat}{f g:Int}(h:Apo send Vo lost i f=(g,1)):g=f∧0≤f∧send.testBit i=false∧Vo.testBit i=true:=by
 unfold Apo at h
 split at h
 ·injection h with _ h;cases h
 rename_i ns
 split at h
 ·injection h with _ h;cases h
 rename_i na
 split at h
 ·injection h with _ h;cases h
 rename_i nf
 split at h
 ·injection h with _ h;cases h
 injection h with h _
 exact⟨h.symm,by omega,by simpa using ns,by simpa using na⟩
theorem Alb{send Vo:Nat}{lost:List Nat}{i near:Nat}{f:Int}(hl:near<18446744073709551616)(h:vH send Vo lost i near=(f,1)): ∃k:Nat,f=(k:Int)∧k<64∧near.testBit k=true∧send.testBit i=false∧Vo.testBit i=true:=by
 unfold vH at h
 split at h
 ·injection h with _ h;cases h
 rename_i n0
 obtain⟨e,f0,hs,ha⟩:=Akd h
 unfold oZ at e f0
 by_cases c:near&&&(near-1)=0
 ·rw[if_pos c] at e
  obtain⟨b1,b2⟩:=Agd n0 hl
  exact⟨_,e,b2,b1,hs,ha⟩
 ·rw[if_neg c] at f0
  exact absurd f0 (by decide)
theorem Nt.heard{t:Nt}{c:Ch}(g:dZ t){i:Nat}{f:Int}(hi:i<t.ds.length)(h:(t.oN c)[i]? =some (f,1)):
  ∃k:Nat,f=(k:Int)∧k<t.ds.length∧(t.near.getD i 0).testBit k=true∧(t.fE c).testBit k=true∧(t.fE c).testBit i=false∧ ∃d,t.ds[i]? =some d∧d.on=true:=by
 rw[Nt.Afm hi] at h
 injection h with h
 obtain⟨k,ek,kl,kb,hs,ha⟩:=Alb (Nat.lt_of_le_of_lt Nat.and_le_right (g.fE c)) h
 rw[Nat.testBit_and,Bool.and_eq_true] at kb
 obtain⟨d,hd,hn⟩:=Nt.An3 kb.2
 refine⟨k,ek,(List.getElem?_eq_some_iff.1 hd).1,kb.1,kb.2,hs,?_⟩
 unfold Nt.Vo at ha
 rw[zF,Bool.and_eq_true] at ha
 obtain⟨x,hx⟩:=g.at hi
 refine⟨x,hx,?_⟩
 have ha:=ha.2
 unfold dQ at ha
 rw[Nt.Arf hx] at ha
 cases hon:x.on with
 |true=>rfl
 |false=>
  have e:((x.go (Vj c.ticks i)).1.send t.steps (Vj c.send i)).1.on=false:=by
   rw[Ase ((Aj7 _ _ _).trans (Auu _ _))];exact hon
  have ha:((x.go (Vj c.ticks i)).1.send t.steps (Vj c.send i)).1.Vo=true:=ha
  rw[Aob e] at ha
  cases ha
end Go.Proofs.YtppeepkmnijdpaaGreatDoor
