import Derived.Test.YticgocmhmffneaaGreatDoorMtU
namespace Go.Proofs.YticgocmhmffneaaGreatDoor
open Go Go.Eng
set_option linter.unusedSimpArgs false
set_option linter.unusedVariables false
set_option maxRecDepth 100000
set_option maxHeartbeats 8000000
abbrev KL:List CK:=[.sl]
def tSl(s:Sl):Jf KL:=(s,())
structure Tk(W:World)(B:Nat)(Z:NP)(pa pb:Nat)(ts:List Sl)(ls:List Wd)(tk:Nat→List Wd):Prop where
  a:Az W pa ((ts.map tSl).flatMap (encs KL))
  b:Az W pb ((ls.map tW).flatMap (encs KW))
  la:ts.length=6
  lb:ls.length=6
  o: ∀(i:Nat) (s:Sl),ts[i]? =some s→Anx W B s (tk i)
  d: ∀(i j:Nat) (s r:Sl) (a b:Addr),i≠j→ts[i]? =some s→ts[j]? =some r→s.1=some a→r.1=some b→a.block≠b.block
  z: ∀(i:Nat) (s:Sl) (a:Addr),ts[i]? =some s→s.1=some a→ ¬Z a.block∧a.block≠pa∧a.block≠pb
  za: ¬Z pa
  zb: ¬Z pb
  ab:pa≠pb
  ba:B≤pa
  bb:B≤pb
variable {W W' W'':World} {B pa pb:Nat} {Z Z':NP} {ts:List Sl} {ls:List Wd} {tk:Nat→List Wd}
theorem Tk.upd{S:NP}(t:Tk W B Z pa pb ts ls tk)(u:Am S W W')(h1: ¬S pa)(h2: ¬S pb)(h3: ∀(i:Nat) (s:Sl) (a:Addr),ts[i]? =some s→s.1=some a→ ¬S a.block):Tk W' B Z pa pb ts ls tk:=
  ⟨t.a.upd u h1,t.b.upd u h2,t.la,t.lb,fun i s hs=>(t.o i s hs).upd u fun a ha=>h3 i s a hs ha,t.d,t.z,t.za,t.zb,t.ab,t.ba,t.bb⟩
theorem Tk.Ai(t:Tk W B Z pa pb ts ls tk)(u:Af W W'):Tk W' B Z pa pb ts ls tk:=t.upd u (fun x=>x) (fun x=>x) fun _ _ _ _ _ x=>x
theorem Tk.Aq0(t:Tk W B Z pa pb ts ls tk):Tk W.drew B Z pa pb ts ls tk:=t.Ai (Af.drew W)
theorem Tk.nx(t:Tk W B Z pa pb ts ls tk)(x:Nx Z W Z' W'):Tk W' B Z' pa pb ts ls tk:=by
  have u:=t.upd x.u t.za t.zb fun i s a hs ha=>(t.z i s a hs ha).1
  refine⟨u.a,u.b,u.la,u.lb,u.o,u.d,fun i s a hs ha=>⟨fun q=>?_,(t.z i s a hs ha).2⟩,fun q=>?_,fun q=>?_,u.ab,u.ba,u.bb⟩
  · rcases x.sub _ q with h|h
    · exact(t.z i s a hs ha).1 h
    · have:=((t.o i s hs).blk ha).2.1;omega
  · rcases x.sub _ q with h|h
    · exact t.za h
    · have:=t.a.lt;omega
  · rcases x.sub _ q with h|h
    · exact t.zb h
    · have:=t.b.lt;omega
theorem Tk.put(t:Tk W B Z pa pb ts ls tk){i:Nat}{y:Wd}(k:Az W' pb (((ls.map tW).set i (tW y)).flatMap (encs KW)))(u:Am (fun z=>z=pb) W W'):Tk W' B Z pa pb ts (ls.set i y) tk:=
  ⟨t.a.upd u t.ab,by rw[List.map_set];exact k,t.la,by rw[List.length_set];exact t.lb,fun i s hs=>(t.o i s hs).upd u fun a ha=>(t.z i s a hs ha).2.2,t.d,t.z,t.za,t.zb,t.ab,t.ba,t.bb⟩
def Au1(tk:Nat→List Wd)(i:Nat)(l:List Wd):Nat→List Wd:=fun j=>if j=i then l else tk j
theorem Aac(tk:Nat→List Wd)(i:Nat)(l:List Wd):Au1 tk i l i=l:=if_pos rfl
theorem Ai1(tk:Nat→List Wd){i j:Nat}(l:List Wd)(h:j≠i):Au1 tk i l j=tk j:=if_neg h
theorem Tk.row(t:Tk W B Z pa pb ts ls tk){i:Nat}{s y:Sl}{l:List Wd}(hs:ts[i]? =some s)(o:Anx W' B y l)(u:Am (fun b=> ∃a,s.1=some a∧a.block=b) W W')(h: ∀a,y.1=some a→(∃a0,s.1=some a0∧a.block=a0.block)∨W.heap.size≤a.block)(hZ: ∀z,Z z→z<W.heap.size)
    (k:Az W'' pa (((ts.map tSl).set i (tSl y)).flatMap (encs KL))) (v:Am (fun z=>z=pa) W' W''):Tk W'' B Z pa pb (ts.set i y) ls (Au1 tk i l):=by
  have hil:=(List.getElem?_eq_some_iff.1 hs).1
  have lt:=t.a.lt
  have ltb:=t.b.lt
  have yz: ∀a,y.1=some a→ ¬Z a.block∧a.block≠pa∧a.block≠pb:=fun a ha=>by
    rcases h a ha with ⟨a0,h0,e⟩|q
    · rw[e];exact t.z i s a0 hs h0
    · exact⟨fun x=>by have:=hZ _ x;omega,by omega,by omega⟩
  have yo: ∀(j:Nat) (r:Sl) (a b:Addr),j≠i→ts[j]? =some r→y.1=some a→r.1=some b→a.block≠b.block:=fun j r a b hj hr ha hb=>by
    rcases h a ha with ⟨a0,h0,e⟩|q
    · rw[e];exact t.d i j s r a0 b (fun x=>hj x.symm) hs hr h0 hb
    · have:=((t.o j r hr).blk hb).2.1;omega
  have get: ∀(j:Nat) (r:Sl),(ts.set i y)[j]? =some r→(j=i∧r=y)∨(j≠i∧ts[j]? =some r):=fun j r hr=>by
    rw[List.getElem?_set] at hr
    by_cases e:i=j
    · subst e
      rw[if_pos rfl,if_pos hil] at hr
      injection hr with hr
      exact .inl ⟨rfl,hr.symm⟩
    · rw[if_neg e] at hr
      exact .inr ⟨fun q=>e q.symm,hr⟩
  refine⟨by rw[List.map_set];exact k,((t.b.upd u fun⟨a,ha,e⟩=>(t.z i s a hs ha).2.2 e).upd v fun e=>t.ab e.symm),by rw[List.length_set];exact t.la,t.lb,fun j r hr=>?_,fun j q r r2 a b hjq hr hr2 ha hb=>?_,fun j r a hr ha=>?_,t.za,t.zb,t.ab,t.ba,t.bb⟩
  · rcases get j r hr with ⟨rfl,rfl⟩|⟨ne,hr'⟩
    · rw[Aac]
      exact o.upd v fun a ha=>(yz a ha).2.1
    · rw[Ai1 tk l ne]
      exact((t.o j r hr').upd u fun a ha ⟨b,hb,e⟩=>t.d i j s r b a (fun x=>ne x.symm) hs hr' hb ha e).upd v fun a ha=>(t.z j r a hr' ha).2.1
  · rcases get j r hr with ⟨e1,e2⟩|⟨ne,hr'⟩
    · rcases get q r2 hr2 with ⟨e3,_⟩|⟨n2,hr2'⟩
      · exact absurd (e1.trans e3.symm) hjq
      · exact yo q r2 a b n2 hr2' (e2▸ha) hb
    · rcases get q r2 hr2 with ⟨e3,e4⟩|⟨n2,hr2'⟩
      · exact fun e=>yo j r b a ne hr' (e4▸hb) ha e.symm
      · exact t.d j q r r2 a b hjq hr' hr2' ha hb
  · rcases get j r hr with ⟨e1,e2⟩|⟨ne,hr'⟩
    · exact yz a (e2▸ha)
    · exact t.z j r a hr' ha
theorem Tk.s(t:Tk W B Z pa pb ts ls tk){i:Nat}(hi:i<6): ∃s,ts[i]? =some s∧(ts.map tSl)[i]? =some (tSl s):=by
  have h:ts[i]? =some (ts[i]'(by rw[t.la];exact hi)):=List.getElem?_eq_getElem _
  exact⟨_,h,by rw[List.getElem?_map,h];rfl⟩
theorem Tk.w(t:Tk W B Z pa pb ts ls tk){i:Nat}(hi:i<6): ∃y,ls[i]? =some y∧(ls.map tW)[i]? =some (tW y):=by
  have h:ls[i]? =some (ls[i]'(by rw[t.lb];exact hi)):=List.getElem?_eq_getElem _
  exact⟨_,h,by rw[List.getElem?_map,h];rfl⟩
theorem dW.far{S:NP}{w W W':World}{Z:NP}{n:Nat}{t:Nt}(l:dW w W Z n t)(u:Am S W W')(h1: ∀z,Z z→ ¬S z)(h2: ∀z,S z→w.heap.size≤z):dW w W' Z n t:=
  ⟨l.h.upd u h1,Am.trans l.g u fun j hj h=>by have:=h2 j h;omega,l.z⟩
end Go.Proofs.YticgocmhmffneaaGreatDoor
