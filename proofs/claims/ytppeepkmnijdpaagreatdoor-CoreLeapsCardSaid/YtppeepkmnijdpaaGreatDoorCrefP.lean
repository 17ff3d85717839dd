import Derived.Test.YtppeepkmnijdpaaGreatDoorMcA
namespace Go.Proofs.YtppeepkmnijdpaaGreatDoor
open Go.Eng Go
open Go.IntKind (wrap)
set_option linter.unusedSimpArgs false
set_option linter.unusedVariables false
set_option maxRecDepth 100000
set_option maxHeartbeats 8000000
structure EI(e:El)(l:Tz):Prop where
 me0:0≤e.me
 me1:e.me<64
 tmo:1≤e.tmo∧e.tmo≤1000
 ign:0≤e.ign∧e.ign≤1000
 beats:0≤e.beats∧e.beats≤1000
 quiet:0≤e.quiet∧e.quiet≤1000
 root: -1≤e.root∧e.root≤e.me
 known:0≤e.root→e.root≠e.me→(U5 l e.root).isSome=true
 boot:Y8 e.boot
 seq:Y8 e.seq
 marks: ∀(k:Int) (m:Ky MK),U5 l k=some m→Y8 m.1∧Y8 m.2.1
def kn(l:Tz)(i:Nat):Bool:=(U5 l (i:Int)).isSome
def mk(l:Tz)(i:Nat):Ky MK:=(U5 l (i:Int)).getD (0,0,())
def rc(e:El)(l:Tz):Nat→Value
 |0=>iV e.me
 |1=>iV e.tmo
 |2=>iV e.ign
 |3=>uV e.boot
 |4=>uV e.seq
 |5=>iV e.root
 |6=>iV e.beats
 |7=>iV e.quiet
 |j+8=>if j<64 then .bool (kn l j) else if j<128 then uV (mk l (j-64)).1 else uV (mk l (j-128)).2.1
def Y7(e:El)(l:Tz):List Value:=(List.range 200).map (rc e l)
theorem EI.new{me r0 r1 boot:Int}(h0:0≤me)(h1:me<64)(h2:elG r0 r1=true)(hb:Y8 boot):EI ⟨me,r0,r1,boot,0,-1,0,0⟩ []:=by
 have h2:=pV.1 h2
 exact⟨h0,h1,by dsimp only;omega,by dsimp only;omega,by dsimp only;omega,by dsimp only;omega,by dsimp only;omega,λh=>by dsimp only at h;omega,hb,by show Y8 0;unfold Y8;omega,λk m h=>by cases h⟩
theorem EI.Si{e:El}{l:Tz}(h:EI e l):EI (lU e) l:=by
 obtain⟨a0,a1,a2,a3,a4,a5,a6,a7,a8,a9,a10⟩:=h
 unfold lU
 by_cases c:mine e=true
 ·rw[if_pos c]
  have wq:wrap .i64 (e.quiet-1)=e.quiet-1:=Af (by unfold I64;omega)
  refine⟨a0,a1,a2,a3,a4,?_,a6,a7,a8,a9,a10⟩
  show 0≤(if 0>wrap .i64 (e.quiet-1) then 0 else wrap .i64 (e.quiet-1))∧(if 0>wrap .i64 (e.quiet-1) then 0 else wrap .i64 (e.quiet-1))≤1000
  rw[wq]
  by_cases d:0>e.quiet-1
  ·rw[if_pos d];omega
  ·rw[if_neg d];omega
 ·rw[if_neg c]
  have wb:wrap .i64 (e.beats+1)=e.beats+1:=Af (by unfold I64;omega)
  rw[wb]
  by_cases d:e.beats+1<e.tmo
  ·rw[if_pos d]
   exact⟨a0,a1,a2,a3,by show 0≤e.beats+1∧e.beats+1≤1000;omega,a5,a6,a7,a8,a9,a10⟩
  ·rw[if_neg d]
   exact⟨a0,a1,a2,a3,by show(0:Int)≤0∧(0:Int)≤1000;omega,a3,by show-1≤e.me∧e.me≤e.me;omega,λ_ h=>absurd rfl h,a8,a9,a10⟩
theorem EI.isE{e:El}{l:Tz}(h:EI e l):EI (isE e) l:=by
 unfold Go.Proofs.YtppeepkmnijdpaaGreatDoor.isE
 split
 ·exact⟨h.me0,h.me1,h.tmo,h.ign,h.beats,h.quiet,h.root,h.known,h.boot,by show Y8 (wrap .u16 _);rw[Ad0];unfold Y8;omega,h.marks⟩
 ·exact h
theorem EI.b2e{e:El}{l:Tz}(h:EI e l)(loc:Int):EI (b2e e loc) l:=by
 unfold Go.Proofs.YtppeepkmnijdpaaGreatDoor.b2e
 split
 ·exact h.Si.isE
 ·exact h.Si
theorem EI.hear{e:El}{l:Tz}(h:EI e l){root:Int}{m:Ky MK}(h0:0≤root)(h1:root<e.me)(hm:Y8 m.1∧Y8 m.2.1):EI (hrE e root) (bM l root m):=by
 refine⟨h.me0,h.me1,h.tmo,h.ign,by show(0:Int)≤0∧(0:Int)≤1000;omega,by show(0:Int)≤0∧(0:Int)≤1000;omega,by show-1≤root∧root≤e.me;omega,λ_ _=>?_,h.boot,h.seq,λk x hx=>?_⟩
 ·rw[xI];show(if root=root then some m else U5 l root).isSome=true;rw[if_pos rfl];rfl
 ·rw[xI] at hx
  by_cases c:k=root
  ·rw[if_pos c] at hx;injection hx with hx;rw[←hx];exact hm
  ·rw[if_neg c] at hx;exact h.marks k x hx
theorem EI.Avi{e:El}{l:Tz}(h:EI e l){boot:Int}(hb:Y8 boot):EI (Agh e boot) []:=
 ⟨h.me0,h.me1,h.tmo,h.ign,by show(0:Int)≤0∧(0:Int)≤1000;omega,by show(0:Int)≤0∧(0:Int)≤1000;omega,by show(-1:Int)≤ -1∧ -1≤e.me;have:=h.me0;omega,λh=>by have h:(0:Int)≤ -1:=h;omega,hb,by show Y8 0;unfold Y8;omega,λk m h=>by cases h⟩
def rfC(bE:Nat)(f:Fl)(s:Sl):List Value:=[.pointer (some ⟨bE,0,none⟩),iV f.need,iV f.drift,.slice s.1 s.2.1 s.2.2,iV f.ll,iV f.lg,iV f.lh]
structure RW(w:World)(O:NP)(br bE:Nat)(f:Fl)(e:El)(l:Tz)(es:List E3):Prop where
 ex: ∃s,Ar w br (rfC bE f s)∧Nu w s es∧(∀a,s.1=some a→a.block≠br∧a.block≠bE∧O a.block)
 elb:Ar w bE (Y7 e l)
 ne:br≠bE
 obr:O br
 obE:O bE
 lt: ∀z,O z→z<w.heap.size
 inv:EI e l
 len:es.length≤8
 good: ∀x∈es,J8 x=true
 need:1≤f.need
 me:f.me=e.me
end Go.Proofs.YtppeepkmnijdpaaGreatDoor
