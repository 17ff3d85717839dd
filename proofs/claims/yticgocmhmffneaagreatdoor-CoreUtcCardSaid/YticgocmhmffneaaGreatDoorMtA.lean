import Derived.Test.YticgocmhmffneaaGreatDoorNdE
import Derived.Lib.TrailingZeros
namespace Go.Proofs.YticgocmhmffneaaGreatDoor
open Go Go.Eng
open Go.IntKind (wrap)
set_option linter.unusedSimpArgs false
set_option linter.unusedVariables false
set_option maxRecDepth 100000
set_option maxHeartbeats 8000000
theorem uN{a:Nat}(h:a<18446744073709551616):V6 (a:Int):=by unfold V6;omega
theorem wuN{a:Nat}(h:a<18446744073709551616):wrap .u64 (a:Int)=(a:Int):=Lp (uN h)
theorem bvN{a:Nat}(h:a<18446744073709551616):(BitVec.ofInt 64 (a:Int)).toNat=a:=by rw[Go.Eng.ofInt_u64 (uN h)];rfl
theorem Aql{a b:Nat}(ha:a<18446744073709551616)(hb:b<18446744073709551616):Lm .and .u64 (a:Int) (b:Int)=((a&&&b:Nat):Int):=by
 show wrap .u64 ((BitVec.ofInt 64 (a:Int)&&&BitVec.ofInt 64 (b:Int)).toNat:Int)=_
 rw[BitVec.toNat_and,bvN ha,bvN hb]
 exact wuN (Nat.lt_of_le_of_lt Nat.and_le_left ha)
theorem Atg{a b:Nat}(ha:a<18446744073709551616)(hb:b<18446744073709551616):a|||b<18446744073709551616:=
 Nat.or_lt_two_pow (n:=64) ha hb
theorem Akr{a b:Nat}(ha:a<18446744073709551616)(hb:b<18446744073709551616):Lm .or .u64 (a:Int) (b:Int)=((a|||b:Nat):Int):=by
 show wrap .u64 ((BitVec.ofInt 64 (a:Int)|||BitVec.ofInt 64 (b:Int)).toNat:Int)=_
 rw[BitVec.toNat_or,bvN ha,bvN hb]
 exact wuN (Atg ha hb)
def nN(i a:Nat):Nat:=a&&&(18446744073709551615-2^i)
def setB(i a:Nat):Nat:=a|||2^i
theorem Ab5{i:Nat}(h:i<64):2^i<18446744073709551616:=by
 have h2:=Nat.pow_lt_pow_right (a:=2) (by decide) h
 rwa [p64] at h2
theorem Ao3{a i:Nat}(ha:a<18446744073709551616)(hi:i<64):Lm .andNot .u64 (a:Int) ((2^i:Nat):Int)=((nN i a:Nat):Int):=by
 show wrap .u64 ((BitVec.ofInt 64 (a:Int)&&& ~~~BitVec.ofInt 64 ((2^i:Nat):Int)).toNat:Int)=_
 rw[BitVec.toNat_and,BitVec.toNat_not,bvN ha,bvN (Ab5 hi)]
 exact wuN (Nat.lt_of_le_of_lt Nat.and_le_left ha)
theorem Afk{a i:Nat}(ha:a<18446744073709551616):nN i a<18446744073709551616:=Nat.lt_of_le_of_lt Nat.and_le_left ha
theorem Aet{a i:Nat}(ha:a<18446744073709551616)(hi:i<64):setB i a<18446744073709551616:=Atg ha (Ab5 hi)
theorem At5(i a j:Nat):(setB i a).testBit j=(a.testBit j||decide (i=j)):=by
 unfold setB;rw[Nat.testBit_or,Nat.testBit_two_pow]
theorem sh1{i:Nat}(h:i<64):Sz .u64 1 (i:Int)=((2^i:Nat):Int):=by
 unfold Sz
 have e:min (i:Int).toNat IntKind.u64.bits=i:=by show min i 64=i;omega
 rw[e,Int.one_mul]
 have e2:((2:Int)^i)=((2^i:Nat):Int):=by rw[Int.natCast_pow];rfl
 rw[e2]
 exact wuN (Ab5 h)
theorem Axz{a i:Nat}(ha:a<18446744073709551616)(h:i<64):(Lm .and .u64 (Qv .u64 (a:Int) (i:Int)) 1==1)=a.testBit i:=by
 have e:Qv .u64 (a:Int) (i:Int)=((a/2^i:Nat):Int):=by
  rw[bJ (k:=.u64) i (by show i≤64;omega),←Int.natCast_ediv]
 have hl:a/2^i<18446744073709551616:=Nat.lt_of_le_of_lt (Nat.div_le_self _ _) ha
 rw[e,Avs (uN hl),Nat.testBit_eq_decide_div_mod_eq]
 generalize a/2^i=q
 by_cases c:q%2=1
 ·have:(q:Int)%2=1:=by omega
  rw[this,c];rfl
 ·have:(q:Int)%2=0:=by omega
  rw[this,decide_eq_false c];rfl
def Lt(p:Nat→Bool):Nat→Nat
 |0=>0
 |n+1=>if p n=true then setB n (Lt p n) else Lt p n
theorem Ws(p:Nat→Bool): ∀n j,(Lt p n).testBit j=(decide (j<n)&&p j)
 |0,j=>by simp[Lt]
 |n+1,j=>by
  have ih:=Ws p n j
  unfold Lt
  split
  ·rename_i h
   rw[At5,ih]
   by_cases e:n=j
   ·subst e
    rw[decide_eq_true rfl,Bool.or_true,decide_eq_true (Nat.lt_succ_self _),h];rfl
   ·rw[decide_eq_false e,Bool.or_false]
    have:decide (j<n)=decide (j<n+1):=by congr 1;exact propext ⟨λh=>by omega,λh=>by omega⟩
    rw[this]
  ·rename_i h
   rw[ih]
   by_cases e:n=j
   ·subst e
    have h:p n=false:=by simpa using h
    rw[h,Bool.and_false,Bool.and_false]
   ·have:decide (j<n)=decide (j<n+1):=by congr 1;exact propext ⟨λh=>by omega,λh=>by omega⟩
    rw[this]
theorem xG(p:Nat→Bool): ∀n,n≤64→Lt p n<18446744073709551616
 |0,_=>by simp[Lt]
 |n+1,h=>by
  have ih:=xG p n (by omega)
  unfold Lt
  split
  ·exact Aet ih (by omega)
  ·exact ih
theorem Ahy{p:Nat→Bool}: ∀n,(∀j,j<n→p j=false)→Lt p n=0
 |0,_=>rfl
 |n+1,h=>by
  unfold Lt
  rw[h n (by omega),if_neg (by decide)]
  exact Ahy n λj hj=>h j (by omega)
theorem Akd{x:Nat}(h0:x≠0)(h:x<18446744073709551616):x.testBit (Lib.ctz 64 x)=true∧Lib.ctz 64 x<64:=by
 unfold Lib.ctz
 rw[if_neg h0]
 obtain⟨m,hm,hl⟩:=Lib.ctzFrom_spec 64 x (by omega) h
 refine⟨?_,hl⟩
 generalize Lib.ctzFrom 64 x=k at*
 rw[hm,Nat.mul_comm,Nat.testBit_mul_two_pow]
 simp[Nat.testBit_zero]
def opB(near:List Nat)(i:Nat)(f:Nat→Nat):List Nat:=near.set i (f (near.getD i 0))
def Zu(near:List Nat)(i k:Nat)(on:Bool):List Nat:=
 let b:=opB (opB near i (nN k)) k (nN i)
 if on=true then opB (opB b i (setB k)) k (setB i) else b
def Anz(send S9:Nat)(lost:List Nat)(i:Nat)(f:Int):Int×Int:=
 if send.testBit i=true then(f,2) else if S9.testBit i=false then(f,3) else if f<0 then(f,4)
 else if i<lost.length∧(lost.getD i 0).testBit f.toNat=true then(f,5) else(f,1)
def Aau(near:Nat):Int:=if near&&&(near-1)=0 then(Lib.ctz 64 near:Int) else-1
def xH(send S9:Nat)(lost:List Nat)(i near:Nat):Int×Int:=if near=0 then(-1,0) else Anz send S9 lost i (Aau near)
structure dI where
 nodes:Int
 tmo:Int
 ign:Int
 need:Int
 Aw:Int
 rnd:Int
 opn:Int
 lim:Int
 jit:Int
 gate:Int
 own:List Int
def Ai6(S:dI)(i:Nat):Int:=match S.own[i]? with|some o=>o|none=>Int.tmod (i:Int) (if 1>S.rnd then 1 else S.rnd)
def ndS(S:dI)(i:Nat):nS:=⟨i,S.tmo,S.ign,S.need,S.Aw,S.rnd,S.opn,Ai6 S i,S.lim,S.jit,(i:Int)==S.gate⟩
def Wq(S:dI):Bool:=decide (1≤S.nodes)&&decide (S.nodes≤64)&&(List.range S.nodes.toNat).all λi=>Yj (ndS S i)
theorem Tm{S:dI}:Wq S=true↔(1≤S.nodes∧S.nodes≤64)∧ ∀i,(i:Nat)<S.nodes.toNat→Yj (ndS S i)=true:=by
 unfold Wq
 simp[List.all_eq_true]
structure Ch where
 ticks:List Int
 send:List Int
 hear:List Int
 lost:List Nat
structure Nt where
 s:dI
 near:List Nat
 ds:List Nd
 steps:Int
 sent:Nat
 ears:List (Int×Int)
def Rk(jit:Int)(n:Nat)(l:List Int):Bool:=decide (l.length=n)&&l.all λx=>decide (-jit≤x)&&decide (x≤jit)
def Nt.chk(t:Nt)(c:Ch):Int:=
 if c.ticks.length≠t.ds.length∨c.lost.length>t.ds.length∨Rk t.s.jit t.ds.length c.send=false∨Rk t.s.jit t.ds.length c.hear=false then 1
 else if((t.ds.zip c.ticks).all λx=>oM x.1.s.Aw x.2)=false then 1
 else if((t.ds.zip c.ticks).any λx=>x.1.on&&decide (x.1.now+x.2>1125899906842624))=true then 8 else 0
def Nz(l:List Int)(i:Nat):Int:=l.getD i 0
def Nt.d1(t:Nt)(c:Ch):List Nd:=t.ds.mapIdx λi d=>(d.go (Nz c.ticks i)).1
def Nt.d2(t:Nt)(c:Ch):List Nd:=(t.d1 c).mapIdx λi d=>(d.send t.steps (Nz c.send i)).1
def Nt.wds(t:Nt)(c:Ch):List (List Fr):=(t.d1 c).mapIdx λi d=>(d.send t.steps (Nz c.send i)).2.1
def Nt.Ue(t:Nt)(c:Ch):Nat:=Lt (λi=>!((t.wds c).getD i []).isEmpty) t.ds.length
def bW(ds:List Nd)(i:Nat):Bool:=match ds[i]? with|some d=>d.S9|none=>false
def Nt.S9(t:Nt)(c:Ch):Nat:=Lt (bW (t.d2 c)) t.ds.length
def Nt.We(t:Nt)(c:Ch):List (Int×Int):=(List.range t.ds.length).map λi=>xH (t.Ue c) (t.S9 c) c.lost i (t.near.getD i 0&&&t.Ue c)
def Jw(d:Nd)(j:Int)(ws:List Fr):Nd:=ws.foldl (λd f=>(d.hear j f.by).1) d
def X9(ws:List (List Fr))(hs:List Int)(es:List (Int×Int))(i:Nat)(d:Nd):Nd:=
 if(es.getD i (0,0)).2=1 then Jw d (Nz hs i) (ws.getD (es.getD i (0,0)).1.toNat []) else d
def Nt.d3(t:Nt)(c:Ch):List Nd:=(t.d2 c).mapIdx (X9 (t.wds c) c.hear (t.We c))
def Nt.step(t:Nt)(c:Ch):Nt×Int:=
 if t.chk c≠0 then(t,t.chk c) else({t with ds:=t.d3 c,steps:=wrap .i64 (t.steps+1),sent:=t.Ue c,ears:=t.We c},0)
def wB(S:dI)(lp:Option Addr):Nt:=⟨S,List.replicate S.nodes.toNat 0,(List.range S.nodes.toNat).map λi=>nd0 (ndS S i) lp,0,0,[]⟩
def Nt.at(t:Nt)(i:Int):Option Nd:=if i<0 then none else t.ds[i.toNat]?
def Nt.put(t:Nt)(i:Int)(d:Nd):Nt:={t with ds:=t.ds.set i.toNat d}
def Nt.link(t:Nt)(i k:Int)(on:Bool):Nt×Int:=
 if 0≤i∧i<t.s.nodes∧0≤k∧k<t.s.nodes∧i≠k then({t with near:=Zu t.near i.toNat k.toNat on},0) else(t,1)
end Go.Proofs.YticgocmhmffneaaGreatDoor
namespace Go.Proofs.YticgocmhmffneaaGreatDoor
open Go Go.Eng Tryz
set_option linter.unusedSimpArgs false
set_option linter.unusedVariables false
set_option maxRecDepth 100000
set_option maxHeartbeats 8000000
theorem mkU{e:El}{l:Um}(h:EI e l):Xe (oN e l).1:=by
 unfold oN
 split
 ·exact u0
 split
 ·exact h.boot
 ·cases hm:Vu l e.root with
  |none=>exact u0
  |some m=>exact(h.marks _ m hm).1
theorem tmU{d:Nd}(h:EI d.e d.l)(hS:Yu d)(t:Int):Xe (d.tm t).1.2.2.2.1:=by
 unfold Nd.tm qL
 split
 ·unfold Ab3
  split
  ·exact u0
  ·exact mkU h
 ·unfold uD
  split
  ·exact u0
  split
  ·exact u0
  split
  ·exact u0
  ·exact hS
theorem Awj{d:Nd}(h:EI d.e d.l)(hS:Yu d):Xe d.time.1.2.2.2.1:=by
 unfold Nd.time
 split
 ·exact u0
 ·exact tmU h hS _
theorem Aaz{e:El}{root:Int}(h:jA e root=true):0≤root∧root<e.me:=by
 unfold jA at h
 split at h
 ·cases h
 ·omega
theorem Aoi{e:El}{l:Um}{root:Int}{m:Jf MK}(h:tX e l root m≠0):jA e root=true∧frE l root m=true:=by
 unfold tX at h
 split at h
 ·exact absurd rfl h
 rename_i c1
 split at h
 ·exact absurd rfl h
 rename_i c2
 exact⟨by simpa using c1,by simpa using c2⟩
theorem uB{e:El}{l:Um}{s:S6}{t:Int}(h:hrF e l s t≠0):okH s t=true∧jA e s.2.1=true∧frE l s.2.1 (yH s)=true:=by
 unfold hrF at h
 split at h
 ·rename_i c;exact⟨c,Aoi h⟩
 ·exact absurd rfl h
structure U7(d:Nd):Prop where
 g:Xn d
 s:Yu d
 i:EI d.e d.l
theorem eiG{s:nS}(h:Yj s=true):elG s.tmo s.ign=true:=by
 obtain⟨_,_,f,_⟩:=Uj.1 h
 exact(Ya.1 f).1
theorem U7.nd0{s:nS}(h:Yj s=true)(lp:Option Addr):U7 (nd0 s lp):=by
 obtain⟨m0,m1,_⟩:=Uj.1 h
 exact⟨Xn.nd0 h lp,Yu.nd0 s lp,EI.new m0 m1 (eiG h) u0⟩
theorem Su(d:Nd)(j:Jb):(d.push j).1.e=d.e∧(d.push j).1.l=d.l:=by unfold Nd.push;split<;>exact⟨rfl,rfl⟩
theorem jT(d:Nd):d.pass.1.e=d.e∧d.pass.1.l=d.l:=by unfold Nd.pass;split;exact⟨rfl,rfl⟩;exact Su d _
theorem Aty(d:Nd)(st:Int):(d.word st).1.e=d.e∧(d.word st).1.l=d.l:=by unfold Nd.word;split<;>exact⟨rfl,rfl⟩
theorem lY(d:Nd)(st:Int)(p:List Jb×List Fr):(d.Yi st p).1.e=d.e∧(d.Yi st p).1.l=d.l:=by
 unfold Nd.Yi
 dsimp only
 split
 ·exact Aty {d with jobs:=p.1} st
 ·exact⟨rfl,rfl⟩
theorem Asx{d:Nd}(h:EI d.e d.l)(step j:Int):EI (d.send step j).1.e (d.send step j).1.l:=by
 unfold Nd.send
 split
 ·exact h
 split
 ·exact h
 ·have q:=lY (d.Ri (d.Yf j).1) (d.Yf j).1 ((d.Ri (d.Yf j).1).pop (d.Yf j).1 d.jobs (Y4 [] (d.Yg (d.Yf j).1)))
  show EI ((d.Ri (d.Yf j).1).Yi (d.Yf j).1 _).1.e ((d.Ri (d.Yf j).1).Yi (d.Yf j).1 _).1.l
  rw[q.1,q.2]
  exact h.yL _
theorem Aqg{d:Nd}(h:EI d.e d.l){s:S6}(hu:Xe s.2.2.1∧Xe s.2.2.2.1)(t:Int):EI (d.aH s t).e (d.aH s t).l:=by
 unfold Nd.aH
 dsimp only
 split
 ·exact h
 ·rename_i c
  obtain⟨_,hm,_⟩:=uB c
  obtain⟨r0,r1⟩:=Aaz hm
  exact h.hear r0 r1 hu
theorem Art{d:Nd}(h:EI d.e d.l){f:Fr}(hu:f.u)(t:Int):EI (d.take f t).1.e (d.take f t).1.l:=by
 cases f with
 |sync s=>exact Aqg h hu t
 |find x=>unfold Nd.take;dsimp only;split<;>exact h
 |want m=>unfold Nd.take;dsimp only;split;rw[(Su _ _).1,(Su _ _).2];exact h;exact h
 |pulse x=>unfold Nd.take;dsimp only;split;rw[(Su _ _).1,(Su _ _).2];exact h;exact h
 |reply r=>unfold Nd.take;dsimp only;split<;>exact h
 |anchor a=>unfold Nd.take;dsimp only;split;rw[(jT _).1,(jT _).2];exact h;exact h
theorem Ar5{d:Nd}(h:EI d.e d.l)(j:Int){b:List Nat}(hb:eH b):EI (d.hear j b).1.e (d.hear j b).1.l:=by
 unfold Nd.hear
 split
 ·exact h
 cases hd:Xg b with
 |error e=>exact h
 |ok f=>
  show EI (d.heard f (d.Yf j).1).1.e (d.heard f (d.Yf j).1).1.l
  unfold Nd.heard
  split
  ·exact h
  ·exact Art h (oU hb hd).2 _
theorem Atd(d:Nd)(s:ByteArray):(d.tag s).1.e=d.e∧(d.tag s).1.l=d.l:=by
 unfold Nd.tag
 split
 ·exact⟨rfl,rfl⟩
 split
 ·exact⟨rfl,rfl⟩
 split<;>exact⟨rfl,rfl⟩
theorem Alt(d:Nd):d.Ua.1.e=d.e∧d.Ua.1.l=d.l:=by unfold Nd.Ua;split<;>exact⟨rfl,rfl⟩
theorem As9(d:Nd)(t:Int):(d.fix t).1.e=d.e∧(d.fix t).1.l=d.l:=by
 unfold Nd.fix
 split
 ·exact⟨rfl,rfl⟩
 split
 ·exact⟨rfl,rfl⟩
 split
 ·exact⟨rfl,rfl⟩
 split
 ·exact⟨rfl,rfl⟩
 ·exact jT {d with bh:=true,ba:=d.Tc d.time.1 t}
theorem vX(d:Nd)(t:Int):(d.go t).1.e=d.e∧(d.go t).1.l=d.l:=by unfold Nd.go;split<;>exact⟨rfl,rfl⟩
theorem Ata(d:Nd):d.off.1.e=d.e∧d.off.1.l=d.l:=by unfold Nd.off;split<;>exact⟨rfl,rfl⟩
theorem U7.send{d:Nd}(h:U7 d)(step j:Int):U7 (d.send step j).1:=⟨h.g.send _ _,h.s.send _ _,Asx h.i _ _⟩
theorem U7.hear{d:Nd}(h:U7 d)(j:Int){b:List Nat}(hb:eH b):U7 (d.hear j b).1:=⟨h.g.hear _ hb,h.s.hear _ hb,Ar5 h.i _ hb⟩
theorem U7.tag{d:Nd}(h:U7 d)(s:ByteArray):U7 (d.tag s).1:=⟨h.g.tag _,h.s.tag _,by rw[(Atd d s).1,(Atd d s).2];exact h.i⟩
theorem U7.Ua{d:Nd}(h:U7 d):U7 d.Ua.1:=⟨h.g.Ua,h.s.Ua,by rw[(Alt d).1,(Alt d).2];exact h.i⟩
theorem U7.fix{d:Nd}(h:U7 d)(t:Int):U7 (d.fix t).1:=⟨h.g.fix _ (Awj h.i h.s),h.s.fix _,by rw[(As9 d t).1,(As9 d t).2];exact h.i⟩
theorem U7.go{d:Nd}(h:U7 d)(t:Int):U7 (d.go t).1:=⟨h.g.go _,h.s.go _,by rw[(vX d t).1,(vX d t).2];exact h.i⟩
theorem U7.off{d:Nd}(h:U7 d):U7 d.off.1:=⟨h.g.off,h.s.off,by rw[(Ata d).1,(Ata d).2];exact h.i⟩
theorem U7.turn{d:Nd}(h:U7 d){raw:Int}(h0:0≤raw)(h1:raw<4294967296):U7 (d.turn raw):=⟨h.g.turn h0 h1,Yu.turn d raw,h.i.Avf (Aaf _)⟩
def Nd.zN(d:Nd):(nS×Option Addr×Int×Bool)×Int:=((d.s,d.lp,d.boot,d.on),d.now)
def Nd.yG(d:Nd):nS×Option Addr×Int×Bool:=(d.s,d.lp,d.boot,d.on)
theorem Acd(d:Nd)(j:Jb):(d.push j).1.zN=d.zN:=by unfold Nd.push;split<;>rfl
theorem Ai4(d:Nd):d.pass.1.zN=d.zN:=by unfold Nd.pass;split;rfl;exact Acd d _
theorem At3(d:Nd)(st:Int):(d.word st).1.zN=d.zN:=by unfold Nd.word;split<;>rfl
theorem Alc(d:Nd)(st:Int)(p:List Jb×List Fr):(d.Yi st p).1.zN=d.zN:=by
 unfold Nd.Yi
 dsimp only
 split
 ·exact At3 {d with jobs:=p.1} st
 ·rfl
theorem Ao6(d:Nd)(step j:Int):(d.send step j).1.zN=d.zN:=by
 unfold Nd.send
 split
 ·rfl
 split
 ·rfl
 ·exact Alc (d.Ri _) _ _
theorem Ari(d:Nd)(s:S6)(t:Int):(d.aH s t).zN=d.zN:=by unfold Nd.aH;dsimp only;split<;>rfl
theorem Atw(d:Nd)(f:Fr)(t:Int):(d.take f t).1.zN=d.zN:=by
 cases f with
 |sync s=>exact Ari d s t
 |find x=>unfold Nd.take;dsimp only;split<;>rfl
 |want m=>unfold Nd.take;dsimp only;split;exact Acd d _;rfl
 |pulse x=>unfold Nd.take;dsimp only;split;exact Acd d _;rfl
 |reply r=>unfold Nd.take;dsimp only;split<;>rfl
 |anchor a=>unfold Nd.take;dsimp only;split;exact Ai4 {d with bh:=true,ba:=a};rfl
theorem Ap0(d:Nd)(j:Int)(b:List Nat):(d.hear j b).1.zN=d.zN:=by
 unfold Nd.hear
 split
 ·rfl
 split
 ·rfl
 ·unfold Nd.heard
  split
  ·rfl
  ·exact Atw d _ _
theorem Awc(d:Nd)(s:ByteArray):(d.tag s).1.zN=d.zN:=by
 unfold Nd.tag
 split
 ·rfl
 split
 ·rfl
 split<;>rfl
theorem Asu(d:Nd):d.Ua.1.zN=d.zN:=by unfold Nd.Ua;split<;>rfl
theorem Awb(d:Nd)(t:Int):(d.fix t).1.zN=d.zN:=by
 unfold Nd.fix
 split
 ·rfl
 split
 ·rfl
 split
 ·rfl
 split
 ·rfl
 ·exact Ai4 {d with bh:=true,ba:=d.Tc d.time.1 t}
theorem Abh(d:Nd)(step j:Int):(d.send step j).1.yG=d.yG:=congrArg (·.1) (Ao6 d step j)
theorem Aow(d:Nd)(j:Int)(b:List Nat):(d.hear j b).1.yG=d.yG:=congrArg (·.1) (Ap0 d j b)
theorem Au8(d:Nd)(s:ByteArray):(d.tag s).1.yG=d.yG:=congrArg (·.1) (Awc d s)
theorem Asw(d:Nd):d.Ua.1.yG=d.yG:=congrArg (·.1) (Asu d)
theorem Av1(d:Nd)(t:Int):(d.fix t).1.yG=d.yG:=congrArg (·.1) (Awb d t)
theorem Aj9(d:Nd)(t:Int):(d.go t).1.yG=d.yG:=by unfold Nd.go;split<;>rfl
theorem nM{d d':Nd}(h:d'.yG=d.yG):d'.s=d.s:=congrArg (λx=>x.1) h
theorem Aci{d d':Nd}(h:d'.yG=d.yG):d'.boot=d.boot:=congrArg (λx=>x.2.2.1) h
theorem Ajl{d d':Nd}(h:d'.yG=d.yG):d'.on=d.on:=congrArg (λx=>x.2.2.2) h
theorem Asq{kd:Nat}(h:kd<256)(fs:List E3):eH (aK kd fs):=by
 intro x hx
 unfold aK kT at hx
 have hc:=dR (s:=65535) (by decide) (kd::Vb fs)
 rcases List.mem_append.1 hx with hx|hx
 ·rcases List.mem_cons.1 hx with rfl|hx
  ·exact h
  ·exact pK fs x hx
 ·simp only[List.mem_cons,List.not_mem_nil,or_false] at hx
  rcases hx with rfl|rfl<;>omega
theorem Aqh(f:Fr):eH f.by:=Asq (by cases f<;>(simp only[Fr.kd];decide)) _
theorem xR(j:Int): ∀(ws:List Fr) (d:Nd),(Jw d j ws).zN=d.zN
 |[],d=>rfl
 |f::ws,d=>(xR j ws _).trans (Ap0 d j f.by)
theorem Am1(j:Int)(ws:List Fr)(d:Nd):(Jw d j ws).yG=d.yG:=congrArg (·.1) (xR j ws d)
theorem Akv{d d':Nd}(h:d'.zN=d.zN):d'.now=d.now:=congrArg (·.2) h
theorem U7.Jw(j:Int): ∀(ws:List Fr) {d:Nd},U7 d→U7 (Jw d j ws)
 |[],d,h=>h
 |f::ws,d,h=>U7.Jw j ws (h.hear j (Aqh f))
theorem Aga{d:Nd}(h:d.on=false)(s j:Int):d.send s j=(d,[],10):=by
 unfold Nd.send Nd.Yf;rw[if_pos h,if_pos (by decide)]
theorem Amz{d:Nd}(h:d.on=false)(t:Int):d.go t=(d,10):=by unfold Nd.go;rw[if_pos h]
theorem Ajv{d:Nd}(h:d.on=false):d.S9=false:=by unfold Nd.S9;rw[if_pos h]
theorem Am7(d:Nd):(wE d).1=d.on:=by
 unfold wE
 split
 ·rename_i h;exact h.symm
 ·rename_i h
  have:d.on=false:=by simpa using h
  rw[this]
def No(w:World)(B:NP)(b:Nat)(d:Nd):Prop:=U7 d∧ ∃O N bf be,N 0=b∧(∀z,B z↔NO N O z)∧NW w O N bf be d
theorem No.k{w:World}{B:NP}{b:Nat}{d:Nd}(h:No w B b d):U7 d:=h.1
theorem No.upd{S B:NP}{w w':World}{b:Nat}{d:Nd}(h:No w B b d)(u:Am S w w')(hS: ∀z,B z→ ¬S z):No w' B b d:=by
 obtain⟨k,O,N,bf,be,e,hB,nw⟩:=h
 exact⟨k,O,N,bf,be,e,hB,nw.upd u λz hz=>hS z ((hB z).2 hz)⟩
theorem No.Ai{B:NP}{w w':World}{b:Nat}{d:Nd}(h:No w B b d)(u:Af w w'):No w' B b d:=h.upd u λ_ _ x=>x
theorem No.lt{B:NP}{w:World}{b:Nat}{d:Nd}(h:No w B b d): ∀z,B z→z<w.heap.size:=by
 obtain⟨k,O,N,bf,be,e,hB,nw⟩:=h
 exact λz hz=>nw.lt z ((hB z).1 hz)
theorem No.self{B:NP}{w:World}{b:Nat}{d:Nd}(h:No w B b d):B b:=by
 obtain⟨k,O,N,bf,be,e,hB,nw⟩:=h
 exact(hB b).2 (.inl ⟨0,by decide,e⟩)
theorem nxB{A B A' B':NP}{w w':World}(h:Nx A w A' w')(e: ∀z,B z↔A z)(e': ∀z,B' z↔A' z):Nx B w B' w':=
 ⟨h.u.mono λz hz=>(e z).2 hz,λz hz=>(h.sub z ((e' z).1 hz)).elim (λq=>.inl ((e z).2 q)) .inr⟩
theorem Hy.o{w:World}{B:NP}{b:Nat}{d:Nd}{step j:Int}(h:No w B b d){k:TR RSd→WP}
  (hk: ∀y w' B',No w' B' b (d.send step j).1→oK w' w.heap.size B' y ((d.send step j).2.1.map Fr.by)→Nx B w B' w'→k (((y.1,y.2.1,y.2.2),()),((d.send step j).2.2,()),()) w'):
  Ae prog F.Hy [pB b,iV step,iV j] w true RSd k:=by
 obtain⟨K,O,N,bf,be,e,hB,nw⟩:=h
 subst e
 exact Hy.n nw K.g λy w' O' nw' S X=>hk y w' (NO N O') ⟨K.send _ _,O',N,bf,be,rfl,λ_=>Iff.rfl,nw'⟩ S (nxB X hB λ_=>Iff.rfl)
theorem Ia.o{w:World}{B:NP}{b:Nat}{d:Nd}{j:Int}{s:Sl}{xs:List Nat}(h:No w B b d)(hx:eH xs)(hR:Ur w s xs)(hcap:s.2.1≤s.2.2){k:TR Si→WP}
  (hk: ∀w' B',No w' B' b (d.hear j xs).1→Nx B w B' w'→k (((d.hear j xs).2,()),()) w'):Ae prog F.Ia [pB b,iV j,.slice s.1 s.2.1 s.2.2] w false Si k:=by
 obtain⟨K,O,N,bf,be,e,hB,nw⟩:=h
 subst e
 exact Ia.n nw K.g hx hR hcap λw' O' nw' X=>hk w' (NO N O') ⟨K.hear _ hx,O',N,bf,be,rfl,λ_=>Iff.rfl,nw'⟩ (nxB X hB λ_=>Iff.rfl)
theorem Ji.o{w:World}{B:NP}{b:Nat}{d:Nd}{raw:Int}(h:No w B b d)(h0:0≤raw)(h1:raw<4294967296){k:TR Si→WP}
  (hk: ∀w' B',No w' B' b (d.turn raw)→Nx B w B' w'→k ((0,()),()) w'):Ae prog F.Ji [pB b,.int .u32 raw] w false Si k:=by
 obtain⟨K,O,N,bf,be,e,hB,nw⟩:=h
 subst e
 exact Ji.cl nw h0 h1 λw' O' nw' X=>hk w' (NO N O') ⟨K.turn h0 h1,O',N,bf,be,rfl,λ_=>Iff.rfl,nw'⟩ (nxB X hB λ_=>Iff.rfl)
theorem Qg.o{w:World}{B:NP}{b:Nat}{d:Nd}(h:No w B b d){k:TR Si→WP}
  (hk: ∀w',No w' B b d.off.1→Nx B w B w'→k ((d.off.2,()),()) w'):Ae prog F.Qg [pB b] w false Si k:=by
 obtain⟨K,O,N,bf,be,e,hB,nw⟩:=h
 subst e
 exact Qg.n nw λw' nw' X=>hk w' ⟨K.off,O,N,bf,be,rfl,hB,nw'⟩ (nxB X hB hB)
theorem Lr.o{w:World}{B:NP}{b:Nat}{d:Nd}{t:Int}(h:No w B b d){k:TR Si→WP}
  (hk: ∀w',No w' B b (d.go t).1→Nx B w B w'→k (((d.go t).2,()),()) w'):Ae prog F.Lr [pB b,iV t] w false Si k:=by
 obtain⟨K,O,N,bf,be,e,hB,nw⟩:=h
 subst e
 exact Lr.n nw K.g λw' nw' X=>hk w' ⟨K.go _,O,N,bf,be,rfl,hB,nw'⟩ (nxB X hB hB)
theorem Sm.o{w:World}{B:NP}{b:Nat}{d:Nd}{t:Int}(h:No w B b d){k:TR Wh→WP}(hk:k ((oM d.s.Aw t,()),()) w):Ae prog F.Sm [pB b,iV t] w false Wh k:=by
 obtain⟨K,O,N,bf,be,e,hB,nw⟩:=h
 subst e
 exact Sm.n nw K.g hk
theorem D6.o{w:World}{B:NP}{b:Nat}{d:Nd}(h:No w B b d){k:TR [(true,K5),(false,[KI])]→WP}
  (hk: ∀w',Af w w'→k (Yc d.time.1,(d.time.2,()),()) w'):Ae prog F.D6 [pB b] w true [(true,K5),(false,[KI])] k:=by
 obtain⟨K,O,N,bf,be,e,hB,nw⟩:=h
 subst e
 exact D6.n nw hk
theorem Cb.o{w:World}{B:NP}{b:Nat}{d:Nd}(h:No w B b d){k:TR [(true,dL)]→WP}(hk: ∀w',Af w w'→k (wE d,()) w'):Ae prog F.Cb [pB b] w false [(true,dL)] k:=by
 obtain⟨K,O,N,bf,be,e,hB,nw⟩:=h
 subst e
 exact Cb.n nw hk
theorem Iy.o{w:World}{B:NP}{b:Nat}{d:Nd}(h:No w B b d){k:TR Wh→WP}(hk: ∀w',Af w w'→k ((d.S9,()),()) w'):Ae prog F.Iy [pB b] w false Wh k:=by
 obtain⟨K,O,N,bf,be,e,hB,nw⟩:=h
 subst e
 exact Iy.n nw K.g.s hk
theorem Qj.o{w:World}{B:NP}{b:Nat}{d:Nd}{s:ByteArray}(h:No w B b d)(hs:s.size≤1000000){k:TR Aji→WP}
  (hk: ∀w',No w' B b (d.tag s).1→Nx B w B w'→k (((d.tag s).2.1,()),((d.tag s).2.2,()),()) w'):Ae prog F.Qj [pB b,.string s] w true Aji k:=by
 obtain⟨K,O,N,bf,be,e,hB,nw⟩:=h
 subst e
 exact Qj.n nw hs λw' nw' X=>hk w' ⟨K.tag _,O,N,bf,be,rfl,hB,nw'⟩ (nxB X hB hB)
theorem Oq.o{w:World}{B:NP}{b:Nat}{d:Nd}(h:No w B b d){k:TR REB→WP}
  (hk: ∀w',No w' B b d.Ua.1→Nx B w B w'→k (fK (d.Ua.2.getD ev0),(d.Ua.2.isSome,()),()) w'):Ae prog F.Oq [pB b] w true REB k:=by
 obtain⟨K,O,N,bf,be,e,hB,nw⟩:=h
 subst e
 exact Oq.n nw λw' nw' X=>hk w' ⟨K.Ua,O,N,bf,be,rfl,hB,nw'⟩ (nxB X hB hB)
theorem Qc.o{w:World}{B:NP}{b:Nat}{d:Nd}{tai:Int}(h:No w B b d){k:TR Si→WP}
  (hk: ∀w',No w' B b (d.fix tai).1→Nx B w B w'→k (((d.fix tai).2,()),()) w'):Ae prog F.Qc [pB b,iV tai] w false Si k:=by
 obtain⟨K,O,N,bf,be,e,hB,nw⟩:=h
 subst e
 exact Qc.n nw λw' nw' X=>hk w' ⟨K.fix _,O,N,bf,be,rfl,hB,nw'⟩ (nxB X hB hB)
theorem Uz.o{s:nS}{lp:Option Addr}{w:World}{k:TR RPI→WP}(h0:Yj s=false→ ∀w',Af w w'→k ((none,()),(1,()),()) w')
  (h:Yj s=true→ ∀b B w',No w' B b (nd0 s lp)→(∀z,B z→w.heap.size≤z)→Af w w'→k ((some ⟨b,0,none⟩,()),(0,()),()) w'):Ae prog F.Uz [.agg (kD s).toArray,.pointer lp] w true RPI k:=
 Uz.cl h0 λhg O N bf be w' nw hz u=>h hg (N 0) (NO N O) w' ⟨U7.nd0 hg lp,O,N,bf,be,rfl,λ_=>Iff.rfl,nw⟩ hz u
end Go.Proofs.YticgocmhmffneaaGreatDoor
namespace Go.Proofs.YticgocmhmffneaaGreatDoor
open Go Go.Eng
set_option linter.unusedSimpArgs false
set_option linter.unusedVariables false
set_option maxRecDepth 100000
set_option maxHeartbeats 8000000
theorem Row.Adm{S:NP}{w w':World}{s:Sl}{n:Nat}{xs:List Value}(h:Row w s n xs)(u:Am S w w')(hS:xs≠[]→ ∀a,s.1=some a→ ¬S a.block):Row w' s n xs:=by
 by_cases c:xs=[]
 ·subst c
  exact⟨h.len,λq=>absurd rfl q⟩
 ·exact Row.upd h u (hS c)
structure Ql(t:Nt):Prop where
 s:Wq t.s=true
 len:t.ds.length=t.s.nodes.toNat
 nd: ∀i d,t.ds[i]? =some d→U7 d∧d.s=ndS t.s i
 nl:t.near.length=t.ds.length
 nb: ∀x∈t.near,x<18446744073709551616
 sb:t.sent<18446744073709551616
 el:t.ears.length≤64
theorem Ql.rng{t:Nt}(h:Ql t):1≤t.ds.length∧t.ds.length≤64∧(t.ds.length:Int)=t.s.nodes:=by
 obtain⟨⟨a,b⟩,_⟩:=Tm.1 h.s
 have:=h.len
 omega
theorem Ql.at{t:Nt}(h:Ql t){i:Nat}(hi:i<t.ds.length): ∃d,t.ds[i]? =some d:=⟨_,List.getElem?_eq_getElem hi⟩
theorem Ql.put{t:Nt}(h:Ql t){i:Nat}{d d':Nd}(hi:t.ds[i]? =some d)(k:U7 d')(e:d'.s=d.s):Ql {t with ds:=t.ds.set i d'}:=by
 refine⟨h.s,by show(t.ds.set i d').length=_;rw[List.length_set];exact h.len,λj x hx=>?_,by show t.near.length=(t.ds.set i d').length;rw[List.length_set];exact h.nl,h.nb,h.sb,h.el⟩
 change (t.ds.set i d')[j]? =some x at hx
 rw[List.getElem?_set] at hx
 split at hx
 ·rename_i c
  subst c
  split at hx
  ·injection hx with hx;subst hx
   exact⟨k,e.trans (h.nd _ _ hi).2⟩
  ·cases hx
 ·exact h.nd j x hx
theorem Avi{S:dI}(h:Wq S=true)(lp:Option Addr):Ql (wB S lp):=by
 obtain⟨⟨a,b⟩,g⟩:=Tm.1 h
 refine⟨h,by simp[wB],λi d hd=>?_,by simp[wB],λx hx=>?_,by show 0<_;decide,by show 0≤64;decide⟩
 ·have hd:((List.range S.nodes.toNat).map λi=>nd0 (ndS S i) lp)[i]? =some d:=hd
  rw[List.getElem?_map] at hd
  by_cases c:i<S.nodes.toNat
  ·rw[List.getElem?_range c] at hd
   injection hd with hd;subst hd
   exact⟨U7.nd0 (g i c) lp,rfl⟩
  ·rw[List.getElem?_eq_none (by simpa using (by omega:S.nodes.toNat≤i))] at hd
   cases hd
 ·have hx:x∈List.replicate S.nodes.toNat 0:=hx
  rw[List.eq_of_mem_replicate hx];decide
theorem dC{α β:Type}{l:List α}{r:List β}{x:α×β}:x∈l.zip r↔ ∃i:Nat,l[i]? =some x.1∧r[i]? =some x.2:=by
 constructor
 ·intro h
  obtain⟨i,hi,e⟩:=List.mem_iff_getElem.1 h
  rw[List.getElem_zip] at e
  have hl:i<l.length:=by rw[List.length_zip] at hi;omega
  have hr:i<r.length:=by rw[List.length_zip] at hi;omega
  exact⟨i,by rw[List.getElem?_eq_getElem hl,←e],by rw[List.getElem?_eq_getElem hr,←e]⟩
 ·rintro⟨i,h1,h2⟩
  obtain⟨hl,e1⟩:=List.getElem?_eq_some_iff.1 h1
  obtain⟨hr,e2⟩:=List.getElem?_eq_some_iff.1 h2
  have hz:i<(l.zip r).length:=by rw[List.length_zip];omega
  have:(l.zip r)[i]=x:=by rw[List.getElem_zip,e1,e2]
  rw[←this];exact List.getElem_mem hz
theorem Ql.dr{t:Nt}(h:Ql t):0≤t.s.Aw∧t.s.Aw≤10:=by
 obtain⟨_,g⟩:=Tm.1 h.s
 have h1:=h.rng
 have h2:=g 0 (by rw[←h.len];omega)
 obtain⟨_,_,f,_⟩:=Uj.1 h2
 have f:=Ya.1 f
 have:(ndS t.s 0).Aw=t.s.Aw:=rfl
 rw[this] at f
 omega
theorem Ql.jt{t:Nt}(h:Ql t):0≤t.s.jit∧t.s.jit≤20:=by
 obtain⟨_,g⟩:=Tm.1 h.s
 have h1:=h.rng
 have h2:=g 0 (by rw[←h.len];omega)
 obtain⟨_,_,_,_,_,_,j0,j1⟩:=Uj.1 h2
 exact⟨j0,j1⟩
def Q4(S:dI)(so:Sl):List Value:=[iV S.nodes,iV S.tmo,iV S.ign,iV S.need,iV S.Aw,iV S.rnd,iV S.opn,iV S.lim,iV S.jit,iV S.gate,bP so]
def ntC(S:dI)(so sn se:Sl)(L:Nat)(steps:Int)(sent:Nat):List Value:=Q4 S so++[pB L,bP sn,iV steps,.int .u64 (sent:Int),bP se]
abbrev KE:List CK:=[KI,KI]
def eT(e:Int×Int):Jf KE:=(e.1,e.2,())
structure TX(w:World)(n L nb:Nat)(so sn se:Sl)(b:Nat→Nat)(B:Nat→NP)(t:Nt):Prop where
 nk:Az w n (ntC t.s so sn se L t.steps t.sent)
 lk:Az w L [iV t.s.nodes,bP (some ⟨nb,0,none⟩,t.near.length,t.near.length)]
 rk:Az w nb (iY t.near)
 ns:Row w sn 1 ((List.range t.ds.length).map λi=>pB (b i))
 es:aP w se KE (t.ears.map eT)
 ec:se.2.1≤se.2.2
 nd: ∀i d,t.ds[i]? =some d→No w (B i) (b i) d
 dj: ∀i j z,i<t.ds.length→j<t.ds.length→B i z→B j z→i=j
 st: ∀i z,i<t.ds.length→B i z→z≠n∧z≠L∧z≠nb∧(∀a,sn.1=some a→a.block≠z)∧(t.ears≠[]→ ∀a,se.1=some a→a.block≠z)
 d1:n≠L∧n≠nb∧L≠nb
 d2: ∀a,sn.1=some a→a.block≠n∧a.block≠L∧a.block≠nb
 d3:t.ears≠[]→ ∀a,se.1=some a→a.block≠n∧a.block≠L∧a.block≠nb
def TZ(n L nb:Nat)(sn se:Sl)(B:Nat→NP)(t:Nt)(z:Nat):Prop:=
 z=n∨z=L∨z=nb∨(∃a,sn.1=some a∧a.block=z)∨(t.ears≠[]∧ ∃a,se.1=some a∧a.block=z)∨ ∃i,i<t.ds.length∧B i z
theorem kP{es:List (Int×Int)}(h:(es.map eT).flatMap (encs KE)≠[]):es≠[]:=λe=>h (by rw[e];rfl)
theorem TX.upd{S:NP}{w w':World}{n L nb:Nat}{so sn se:Sl}{b:Nat→Nat}{B:Nat→NP}{t:Nt}(h:TX w n L nb so sn se b B t)(u:Am S w w')(hS: ∀z,TZ n L nb sn se B t z→ ¬S z):TX w' n L nb so sn se b B t:=
 ⟨h.nk.upd u (hS _ (.inl rfl)),h.lk.upd u (hS _ (.inr (.inl rfl))),h.rk.upd u (hS _ (.inr (.inr (.inl rfl)))),
  Row.upd h.ns u λa ha=>hS _ (.inr (.inr (.inr (.inl ⟨a,ha,rfl⟩)))),
  Row.Adm h.es u λq a ha=>hS _ (.inr (.inr (.inr (.inr (.inl ⟨kP q,a,ha,rfl⟩))))),h.ec,
  λi d hd=>(h.nd i d hd).upd u λz hz=>hS _ (.inr (.inr (.inr (.inr (.inr ⟨i,(List.getElem?_eq_some_iff.1 hd).1,hz⟩))))),
  h.dj,h.st,h.d1,h.d2,h.d3⟩
theorem TX.Ai{w w':World}{n L nb:Nat}{so sn se:Sl}{b:Nat→Nat}{B:Nat→NP}{t:Nt}(h:TX w n L nb so sn se b B t)(u:Af w w'):TX w' n L nb so sn se b B t:=h.upd u λ_ _ x=>x
theorem TX.lt{w:World}{n L nb:Nat}{so sn se:Sl}{b:Nat→Nat}{B:Nat→NP}{t:Nt}(h:TX w n L nb so sn se b B t)(h1:1≤t.ds.length): ∀z,TZ n L nb sn se B t z→z<w.heap.size:=by
 rintro z (rfl|rfl|rfl|⟨a,ha,rfl⟩|⟨he,a,ha,rfl⟩|⟨i,hi,hz⟩)
 ·exact h.nk.lt
 ·exact h.lk.lt
 ·exact h.rk.lt
 ·have:=cell_lt (h.ns.ld ha (k:=0) (v:=pB (b 0)) (by rw[List.getElem?_map,List.getElem?_range (by omega)];rfl))
  rwa [add_block] at this
 ·obtain⟨e,hh⟩: ∃e,t.ears[0]? =some e:=by
   cases hq:t.ears with
   |nil=>exact absurd hq he
   |cons e _=>exact⟨e,rfl⟩
  have q:(t.ears.map eT)[0]? =some (eT e):=by rw[List.getElem?_map,hh];rfl
  have:=cell_lt (Row.ld h.es ha (flat_get q 0 _ rfl))
  rwa [add_block] at this
 ·obtain⟨d,hd⟩: ∃d,t.ds[i]? =some d:=⟨_,List.getElem?_eq_getElem hi⟩
  exact(h.nd i d hd).lt z hz
theorem TX.turn{w w':World}{n L nb:Nat}{so sn se:Sl}{b:Nat→Nat}{B:Nat→NP}{t:Nt}(h:TX w n L nb so sn se b B t)(h1:1≤t.ds.length){i:Nat}{d d':Nd}(hi:t.ds[i]? =some d){B':NP}(k:No w' B' (b i) d')(x:Nx (B i) w B' w'):
  TX w' n L nb so sn se b (λj=>if j=i then B' else B j) {t with ds:=t.ds.set i d'}:=by
 have hil:=(List.getElem?_eq_some_iff.1 hi).1
 have lt:=h.lt h1
 have fr: ∀z,B' z→B i z∨w.heap.size≤z:=x.sub
 have ll:(t.ds.set i d').length=t.ds.length:=List.length_set
 have no: ∀z,TZ n L nb sn se B t z→(∀j,j<t.ds.length→B j z→j≠i)→ ¬B i z:=λz hz hj hb=>hj i hil hb rfl
 refine⟨h.nk.upd x.u λq=>(h.st i n hil q).1 rfl,h.lk.upd x.u λq=>(h.st i L hil q).2.1 rfl,h.rk.upd x.u λq=>(h.st i nb hil q).2.2.1 rfl,?_,?_,h.ec,?_,?_,?_,h.d1,h.d2,h.d3⟩
 ·show Row w' sn 1 ((List.range (t.ds.set i d').length).map λi=>pB (b i))
  rw[ll]
  exact Row.upd h.ns x.u λa ha q=>(h.st i _ hil q).2.2.2.1 a ha rfl
 ·exact Row.Adm h.es x.u λq a ha hb=>(h.st i _ hil hb).2.2.2.2 (kP q) a ha rfl
 ·intro j y hy
  change (t.ds.set i d')[j]? =some y at hy
  rw[List.getElem?_set] at hy
  split at hy
  ·rename_i c
   subst c
   first
    |(injection hy with hy;subst hy;rw[if_pos rfl];exact k)
    |(split at hy
      ·injection hy with hy;subst hy
       rw[if_pos rfl];exact k
      ·cases hy)
  ·rename_i c
   rw[if_neg λe=>c e.symm]
   exact(h.nd j y hy).upd x.u λz hz hb=>c (h.dj i j z hil (List.getElem?_eq_some_iff.1 hy).1 hb hz)
 ·intro j l z hj hl a c
  have hj:j<t.ds.length:=by rw[←ll];exact hj
  have hl:l<t.ds.length:=by rw[←ll];exact hl
  by_cases e1:j=i
  ·rw[if_pos e1] at a
   by_cases e2:l=i
   ·rw[e1,e2]
   ·rw[if_neg e2] at c
    rcases fr z a with q|q
    ·exact e1.trans (h.dj i l z hil hl q c)
    ·have:=lt z (.inr (.inr (.inr (.inr (.inr ⟨l,hl,c⟩)))));omega
  ·rw[if_neg e1] at a
   by_cases e2:l=i
   ·rw[if_pos e2] at c
    rcases fr z c with q|q
    ·exact(h.dj j i z hj hil a q).trans e2.symm
    ·have:=lt z (.inr (.inr (.inr (.inr (.inr ⟨j,hj,a⟩)))));omega
   ·rw[if_neg e2] at c
    exact h.dj j l z hj hl a c
 ·intro j z hj a
  have hj:j<t.ds.length:=by rw[←ll];exact hj
  by_cases e1:j=i
  ·rw[if_pos e1] at a
   rcases fr z a with q|q
   ·exact h.st i z hil q
   ·refine⟨λe=>?_,λe=>?_,λe=>?_,λa ha e=>?_,λhn a ha e=>?_⟩
    ·have:=lt n (.inl rfl);omega
    ·have:=lt L (.inr (.inl rfl));omega
    ·have:=lt nb (.inr (.inr (.inl rfl)));omega
    ·have:=lt z (.inr (.inr (.inr (.inl ⟨a,ha,e⟩))));omega
    ·have:=lt z (.inr (.inr (.inr (.inr (.inl ⟨hn,a,ha,e⟩)))));omega
  ·rw[if_neg e1] at a
   exact h.st j z hj a
theorem TX.Ath{w w':World}{n L nb:Nat}{sn se:Sl}{B:Nat→NP}{t:Nt}{i:Nat}{d:Nd}(hi:t.ds[i]? =some d){d':Nd}{B':NP}(x:Nx (B i) w B' w'):
  Nx (TZ n L nb sn se B t) w (TZ n L nb sn se (λj=>if j=i then B' else B j) {t with ds:=t.ds.set i d'}) w':=by
 have hil:=(List.getElem?_eq_some_iff.1 hi).1
 refine⟨x.u.mono λz hz=>.inr (.inr (.inr (.inr (.inr ⟨i,hil,hz⟩)))),?_⟩
 rintro z (q|q|q|q|q|⟨j,hj,hz⟩)
 ·exact .inl (.inl q)
 ·exact .inl (.inr (.inl q))
 ·exact .inl (.inr (.inr (.inl q)))
 ·exact .inl (.inr (.inr (.inr (.inl q))))
 ·exact .inl (.inr (.inr (.inr (.inr (.inl q)))))
 ·have hj:j<t.ds.length:=by rw[←List.length_set (i:=i) (a:=d')];exact hj
  by_cases e:j=i
  ·rw[if_pos e] at hz
   rcases x.sub z hz with q|q
   ·exact .inl (.inr (.inr (.inr (.inr (.inr ⟨i,hil,q⟩)))))
   ·exact .inr q
  ·rw[if_neg e] at hz
   exact .inl (.inr (.inr (.inr (.inr (.inr ⟨j,hj,hz⟩)))))
def TW(w:World)(Z:NP)(n:Nat)(t:Nt):Prop:=Ql t∧ ∃L nb so sn se b B,(∀z,Z z↔TZ n L nb sn se B t z)∧TX w n L nb so sn se b B t
theorem TW.upd{S Z:NP}{w w':World}{n:Nat}{t:Nt}(h:TW w Z n t)(u:Am S w w')(hS: ∀z,Z z→ ¬S z):TW w' Z n t:=by
 obtain⟨g,L,nb,so,sn,se,b,B,hZ,x⟩:=h
 exact⟨g,L,nb,so,sn,se,b,B,hZ,x.upd u λz hz=>hS z ((hZ z).2 hz)⟩
theorem TW.Ai{Z:NP}{w w':World}{n:Nat}{t:Nt}(h:TW w Z n t)(u:Af w w'):TW w' Z n t:=h.upd u λ_ _ x=>x
theorem TW.lt{Z:NP}{w:World}{n:Nat}{t:Nt}(h:TW w Z n t): ∀z,Z z→z<w.heap.size:=by
 obtain⟨g,L,nb,so,sn,se,b,B,hZ,x⟩:=h
 exact λz hz=>x.lt g.rng.1 z ((hZ z).1 hz)
theorem TW.put{Z:NP}{w w':World}{n L nb:Nat}{so sn se:Sl}{b:Nat→Nat}{B:Nat→NP}{t:Nt}(g:Ql t)(hZ: ∀z,Z z↔TZ n L nb sn se B t z)(X:TX w n L nb so sn se b B t){i:Nat}{d d':Nd}(hi:t.ds[i]? =some d)(e:d'.s=d.s){B':NP}(k:No w' B' (b i) d')(x:Nx (B i) w B' w'):
  ∃Z',TW w' Z' n {t with ds:=t.ds.set i d'}∧Nx Z w Z' w':=
 ⟨_,⟨g.put hi k.k e,L,nb,so,sn,se,b,_,λ_=>Iff.rfl,X.turn g.rng.1 hi k x⟩,nxB (TX.Ath hi x) hZ λ_=>Iff.rfl⟩
end Go.Proofs.YticgocmhmffneaaGreatDoor
