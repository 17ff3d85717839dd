import Derived.Test.YticgocmhmffneaaGreatDoorNdE
import Derived.Lib.TrailingZeros
namespace Go.Proofs.YticgocmhmffneaaGreatDoor
open Go Go.Eng
open Go.IntKind (wrap)
set_option linter.unusedSimpArgs false
set_option linter.unusedVariables false
set_option maxRecDepth 100000
set_option maxHeartbeats 8000000
theorem uN{a:Nat}(h:a<18446744073709551616):V6 (a:Int):=by unfold V6;omega
theorem wuN{a:Nat}(h:a<18446744073709551616):wrap .u64 (a:Int)=(a:Int):=Lp (uN h)
theorem bvN{a:Nat}(h:a<18446744073709551616):(BitVec.ofInt 64 (a:Int)).toNat=a:=by rw[Go.Eng.ofInt_u64 (uN h)];rfl
theorem Aql{a b:Nat}(ha:a<18446744073709551616)(hb:b<18446744073709551616):Lm .and .u64 (a:Int) (b:Int)=((a&&&b:Nat):Int):=by
  show wrap .u64 ((BitVec.ofInt 64 (a:Int)&&&BitVec.ofInt 64 (b:Int)).toNat:Int)=_
  rw[BitVec.toNat_and,bvN ha,bvN hb]
  exact wuN (Nat.lt_of_le_of_lt Nat.and_le_left ha)
theorem Atg{a b:Nat}(ha:a<18446744073709551616)(hb:b<18446744073709551616):a|||b<18446744073709551616:=
  Nat.or_lt_two_pow (n:=64) ha hb
theorem Akr{a b:Nat}(ha:a<18446744073709551616)(hb:b<18446744073709551616):Lm .or .u64 (a:Int) (b:Int)=((a|||b:Nat):Int):=by
  show wrap .u64 ((BitVec.ofInt 64 (a:Int)|||BitVec.ofInt 64 (b:Int)).toNat:Int)=_
  rw[BitVec.toNat_or,bvN ha,bvN hb]
  exact wuN (Atg ha hb)
def nN(i a:Nat):Nat:=a&&&(18446744073709551615-2^i)
def setB(i a:Nat):Nat:=a|||2^i
theorem Ab5{i:Nat}(h:i<64):2^i<18446744073709551616:=by
  have h2:=Nat.pow_lt_pow_right (a:=2) (by decide) h
  rwa [p64] at h2
theorem Ao3{a i:Nat}(ha:a<18446744073709551616)(hi:i<64):Lm .andNot .u64 (a:Int) ((2^i:Nat):Int)=((nN i a:Nat):Int):=by
  show wrap .u64 ((BitVec.ofInt 64 (a:Int)&&& ~~~BitVec.ofInt 64 ((2^i:Nat):Int)).toNat:Int)=_
  rw[BitVec.toNat_and,BitVec.toNat_not,bvN ha,bvN (Ab5 hi)]
  exact wuN (Nat.lt_of_le_of_lt Nat.and_le_left ha)
theorem Afk{a i:Nat}(ha:a<18446744073709551616):nN i a<18446744073709551616:=Nat.lt_of_le_of_lt Nat.and_le_left ha
theorem Aet{a i:Nat}(ha:a<18446744073709551616)(hi:i<64):setB i a<18446744073709551616:=Atg ha (Ab5 hi)
theorem At5(i a j:Nat):(setB i a).testBit j=(a.testBit j||decide (i=j)):=by
  unfold setB;rw[Nat.testBit_or,Nat.testBit_two_pow]
theorem sh1{i:Nat}(h:i<64):Sz .u64 1 (i:Int)=((2^i:Nat):Int):=by
  unfold Sz
  have e:min (i:Int).toNat IntKind.u64.bits=i:=by show min i 64=i;omega
  rw[e,Int.one_mul]
  have e2:((2:Int)^i)=((2^i:Nat):Int):=by rw[Int.natCast_pow];rfl
  rw[e2]
  exact wuN (Ab5 h)
theorem Axz{a i:Nat}(ha:a<18446744073709551616)(h:i<64):(Lm .and .u64 (Qv .u64 (a:Int) (i:Int)) 1==1)=a.testBit i:=by
  have e:Qv .u64 (a:Int) (i:Int)=((a/2^i:Nat):Int):=by
    rw[bJ (k:=.u64) i (by show i≤64;omega),←Int.natCast_ediv]
  have hl:a/2^i<18446744073709551616:=Nat.lt_of_le_of_lt (Nat.div_le_self _ _) ha
  rw[e,Avs (uN hl),Nat.testBit_eq_decide_div_mod_eq]
  generalize a/2^i=q
  by_cases c:q%2=1
  · have:(q:Int)%2=1:=by omega
    rw[this,c];rfl
  · have:(q:Int)%2=0:=by omega
    rw[this,decide_eq_false c];rfl
def Lt(p:Nat→Bool):Nat→Nat
  |0=>0
  |n+1=>if p n=true then setB n (Lt p n) else Lt p n
theorem Ws(p:Nat→Bool): ∀n j,(Lt p n).testBit j=(decide (j<n)&&p j)
  |0,j=>by simp[Lt]
  |n+1,j=>by
    have ih:=Ws p n j
    unfold Lt
    split
    · rename_i h
      rw[At5,ih]
      by_cases e:n=j
      · subst e
        rw[decide_eq_true rfl,Bool.or_true,decide_eq_true (Nat.lt_succ_self _),h];rfl
      · rw[decide_eq_false e,Bool.or_false]
        have:decide (j<n)=decide (j<n+1):=by congr 1;exact propext ⟨fun h=>by omega,fun h=>by omega⟩
        rw[this]
    · rename_i h
      rw[ih]
      by_cases e:n=j
      · subst e
        have h:p n=false:=by simpa using h
        rw[h,Bool.and_false,Bool.and_false]
      · have:decide (j<n)=decide (j<n+1):=by congr 1;exact propext ⟨fun h=>by omega,fun h=>by omega⟩
        rw[this]
theorem xG(p:Nat→Bool): ∀n,n≤64→Lt p n<18446744073709551616
  |0,_=>by simp[Lt]
  |n+1,h=>by
    have ih:=xG p n (by omega)
    unfold Lt
    split
    · exact Aet ih (by omega)
    · exact ih
theorem Ahy{p:Nat→Bool}: ∀n,(∀j,j<n→p j=false)→Lt p n=0
  |0,_=>rfl
  |n+1,h=>by
    unfold Lt
    rw[h n (by omega),if_neg (by decide)]
    exact Ahy n fun j hj=>h j (by omega)
theorem Akd{x:Nat}(h0:x≠0)(h:x<18446744073709551616):x.testBit (Lib.ctz 64 x)=true∧Lib.ctz 64 x<64:=by
  unfold Lib.ctz
  rw[if_neg h0]
  obtain⟨m,hm,hl⟩:=Lib.ctzFrom_spec 64 x (by omega) h
  refine⟨?_,hl⟩
  generalize Lib.ctzFrom 64 x=k at*
  rw[hm,Nat.mul_comm,Nat.testBit_mul_two_pow]
  simp[Nat.testBit_zero]
def opB(near:List Nat)(i:Nat)(f:Nat→Nat):List Nat:=near.set i (f (near.getD i 0))
def Zu(near:List Nat)(i k:Nat)(on:Bool):List Nat:=
  let b:=opB (opB near i (nN k)) k (nN i)
  if on=true then opB (opB b i (setB k)) k (setB i) else b
def Anz(send S9:Nat)(lost:List Nat)(i:Nat)(f:Int):Int×Int:=
  if send.testBit i=true then(f,2) else if S9.testBit i=false then(f,3) else if f<0 then(f,4)
  else if i<lost.length∧(lost.getD i 0).testBit f.toNat=true then(f,5) else(f,1)
def Aau(near:Nat):Int:=if near&&&(near-1)=0 then(Lib.ctz 64 near:Int) else-1
def xH(send S9:Nat)(lost:List Nat)(i near:Nat):Int×Int:=if near=0 then(-1,0) else Anz send S9 lost i (Aau near)
structure dI where
  nodes:Int
  tmo:Int
  ign:Int
  need:Int
  Aw:Int
  rnd:Int
  opn:Int
  lim:Int
  jit:Int
  gate:Int
  own:List Int
def Ai6(S:dI)(i:Nat):Int:=match S.own[i]? with|some o=>o|none=>Int.tmod (i:Int) (if 1>S.rnd then 1 else S.rnd)
def Nl(S:dI)(i:Nat):nS:=⟨i,S.tmo,S.ign,S.need,S.Aw,S.rnd,S.opn,Ai6 S i,S.lim,S.jit,(i:Int)==S.gate⟩
def Wq(S:dI):Bool:=decide (1≤S.nodes)&&decide (S.nodes≤64)&&(List.range S.nodes.toNat).all fun i=>Yj (Nl S i)
theorem Tm{S:dI}:Wq S=true↔(1≤S.nodes∧S.nodes≤64)∧ ∀i,(i:Nat)<S.nodes.toNat→Yj (Nl S i)=true:=by
  unfold Wq
  simp[List.all_eq_true]
structure Ch where
  ticks:List Int
  send:List Int
  hear:List Int
  lost:List Nat
structure Nt where
  s:dI
  near:List Nat
  ds:List Nd
  steps:Int
  sent:Nat
  ears:List (Int×Int)
def Rk(jit:Int)(n:Nat)(l:List Int):Bool:=decide (l.length=n)&&l.all fun x=>decide (-jit≤x)&&decide (x≤jit)
def Nt.chk(t:Nt)(c:Ch):Int:=
  if c.ticks.length≠t.ds.length∨c.lost.length>t.ds.length∨Rk t.s.jit t.ds.length c.send=false∨Rk t.s.jit t.ds.length c.hear=false then 1
  else if((t.ds.zip c.ticks).all fun x=>oM x.1.s.Aw x.2)=false then 1
  else if((t.ds.zip c.ticks).any fun x=>x.1.on&&decide (x.1.now+x.2>1125899906842624))=true then 8 else 0
def Nz(l:List Int)(i:Nat):Int:=l.getD i 0
def Nt.d1(t:Nt)(c:Ch):List Nd:=t.ds.mapIdx fun i d=>(d.go (Nz c.ticks i)).1
def Nt.d2(t:Nt)(c:Ch):List Nd:=(t.d1 c).mapIdx fun i d=>(d.send t.steps (Nz c.send i)).1
def Nt.Oc(t:Nt)(c:Ch):List (List Fr):=(t.d1 c).mapIdx fun i d=>(d.send t.steps (Nz c.send i)).2.1
def Nt.Ue(t:Nt)(c:Ch):Nat:=Lt (fun i=>!((t.Oc c).getD i []).isEmpty) t.ds.length
def bW(ds:List Nd)(i:Nat):Bool:=match ds[i]? with|some d=>d.S9|none=>false
def Nt.S9(t:Nt)(c:Ch):Nat:=Lt (bW (t.d2 c)) t.ds.length
def Nt.We(t:Nt)(c:Ch):List (Int×Int):=(List.range t.ds.length).map fun i=>xH (t.Ue c) (t.S9 c) c.lost i (t.near.getD i 0&&&t.Ue c)
def Jw(d:Nd)(j:Int)(ws:List Fr):Nd:=ws.foldl (fun d f=>(d.hear j f.by).1) d
def X9(ws:List (List Fr))(hs:List Int)(es:List (Int×Int))(i:Nat)(d:Nd):Nd:=
  if(es.getD i (0,0)).2=1 then Jw d (Nz hs i) (ws.getD (es.getD i (0,0)).1.toNat []) else d
def Nt.d3(t:Nt)(c:Ch):List Nd:=(t.d2 c).mapIdx (X9 (t.Oc c) c.hear (t.We c))
def Nt.step(t:Nt)(c:Ch):Nt×Int:=
  if t.chk c≠0 then(t,t.chk c) else({t with ds:=t.d3 c,steps:=wrap .i64 (t.steps+1),sent:=t.Ue c,ears:=t.We c},0)
def Ha(S:dI)(lp:Option Addr):Nt:=⟨S,List.replicate S.nodes.toNat 0,(List.range S.nodes.toNat).map fun i=>nd0 (Nl S i) lp,0,0,[]⟩
def Nt.at(t:Nt)(i:Int):Option Nd:=if i<0 then none else t.ds[i.toNat]?
def Nt.put(t:Nt)(i:Int)(d:Nd):Nt:={t with ds:=t.ds.set i.toNat d}
def Nt.link(t:Nt)(i k:Int)(on:Bool):Nt×Int:=
  if 0≤i∧i<t.s.nodes∧0≤k∧k<t.s.nodes∧i≠k then({t with near:=Zu t.near i.toNat k.toNat on},0) else(t,1)
end Go.Proofs.YticgocmhmffneaaGreatDoor
