import Derived.Test.YticgocmhmffneaaGreatDoorMcA
namespace Go.Proofs.YticgocmhmffneaaGreatDoor
open Go.Eng Go Tryz
open Go.IntKind (wrap)
set_option linter.unusedSimpArgs false
set_option linter.unusedVariables false
set_option maxRecDepth 100000
set_option maxHeartbeats 8000000
structure EI(e:El)(l:Um):Prop where
 me0:0≤e.me
 me1:e.me<64
 tmo:1≤e.tmo∧e.tmo≤1000
 ign:0≤e.ign∧e.ign≤1000
 beats:0≤e.beats∧e.beats≤1000
 quiet:0≤e.quiet∧e.quiet≤1000
 root: -1≤e.root∧e.root≤e.me
 known:0≤e.root→e.root≠e.me→(Vu l e.root).isSome=true
 boot:Xe e.boot
 seq:Xe e.seq
 marks: ∀(k:Int) (m:Jf MK),Vu l k=some m→Xe m.1∧Xe m.2.1
def kn(l:Um)(i:Nat):Bool:=(Vu l (i:Int)).isSome
def mk(l:Um)(i:Nat):Jf MK:=(Vu l (i:Int)).getD (0,0,())
def rc(e:El)(l:Um):Nat→Value
 |0=>iV e.me
 |1=>iV e.tmo
 |2=>iV e.ign
 |3=>uV e.boot
 |4=>uV e.seq
 |5=>iV e.root
 |6=>iV e.beats
 |7=>iV e.quiet
 |j+8=>if j<64 then .bool (kn l j) else if j<128 then uV (mk l (j-64)).1 else uV (mk l (j-128)).2.1
def Zb(e:El)(l:Um):List Value:=(List.range 200).map (rc e l)
theorem EI.new{me r0 r1 boot:Int}(h0:0≤me)(h1:me<64)(h2:elG r0 r1=true)(hb:Xe boot):EI ⟨me,r0,r1,boot,0,-1,0,0⟩ []:=by
 have h2:=lF.1 h2
 exact⟨h0,h1,by dsimp only;omega,by dsimp only;omega,by dsimp only;omega,by dsimp only;omega,by dsimp only;omega,λh=>by dsimp only at h;omega,hb,by show Xe 0;unfold Xe;omega,λk m h=>by cases h⟩
theorem EI.Ri{e:El}{l:Um}(h:EI e l):EI (eG e) l:=by
 obtain⟨a0,a1,a2,a3,a4,a5,a6,a7,a8,a9,a10⟩:=h
 unfold eG
 by_cases c:mine e=true
 ·rw[if_pos c]
  have wq:wrap .i64 (e.quiet-1)=e.quiet-1:=Ah (by unfold I64;omega)
  refine⟨a0,a1,a2,a3,a4,?_,a6,a7,a8,a9,a10⟩
  show 0≤(if 0>wrap .i64 (e.quiet-1) then 0 else wrap .i64 (e.quiet-1))∧(if 0>wrap .i64 (e.quiet-1) then 0 else wrap .i64 (e.quiet-1))≤1000
  rw[wq]
  by_cases d:0>e.quiet-1
  ·rw[if_pos d];omega
  ·rw[if_neg d];omega
 ·rw[if_neg c]
  have wb:wrap .i64 (e.beats+1)=e.beats+1:=Ah (by unfold I64;omega)
  rw[wb]
  by_cases d:e.beats+1<e.tmo
  ·rw[if_pos d]
   exact⟨a0,a1,a2,a3,by show 0≤e.beats+1∧e.beats+1≤1000;omega,a5,a6,a7,a8,a9,a10⟩
  ·rw[if_neg d]
   exact⟨a0,a1,a2,a3,by show(0:Int)≤0∧(0:Int)≤1000;omega,a3,by show-1≤e.me∧e.me≤e.me;omega,λ_ h=>absurd rfl h,a8,a9,a10⟩
theorem EI.isE{e:El}{l:Um}(h:EI e l):EI (isE e) l:=by
 unfold Go.Proofs.YticgocmhmffneaaGreatDoor.isE
 split
 ·exact⟨h.me0,h.me1,h.tmo,h.ign,h.beats,h.quiet,h.root,h.known,h.boot,by show Xe (wrap .u16 _);rw[oL];unfold Xe;omega,h.marks⟩
 ·exact h
theorem EI.yL{e:El}{l:Um}(h:EI e l)(loc:Int):EI (yL e loc) l:=by
 unfold Go.Proofs.YticgocmhmffneaaGreatDoor.yL
 split
 ·exact h.Ri.isE
 ·exact h.Ri
theorem EI.hear{e:El}{l:Um}(h:EI e l){root:Int}{m:Jf MK}(h0:0≤root)(h1:root<e.me)(hm:Xe m.1∧Xe m.2.1):EI (xU e root) (Xd l root m):=by
 refine⟨h.me0,h.me1,h.tmo,h.ign,by show(0:Int)≤0∧(0:Int)≤1000;omega,by show(0:Int)≤0∧(0:Int)≤1000;omega,by show-1≤root∧root≤e.me;omega,λ_ _=>?_,h.boot,h.seq,λk x hx=>?_⟩
 ·rw[bY];show(if root=root then some m else Vu l root).isSome=true;rw[if_pos rfl];rfl
 ·rw[bY] at hx
  by_cases c:k=root
  ·rw[if_pos c] at hx;injection hx with hx;rw[←hx];exact hm
  ·rw[if_neg c] at hx;exact h.marks k x hx
theorem EI.Avf{e:El}{l:Um}(h:EI e l){boot:Int}(hb:Xe boot):EI (zX e boot) []:=
 ⟨h.me0,h.me1,h.tmo,h.ign,by show(0:Int)≤0∧(0:Int)≤1000;omega,by show(0:Int)≤0∧(0:Int)≤1000;omega,by show(-1:Int)≤ -1∧ -1≤e.me;have:=h.me0;omega,λh=>by have h:(0:Int)≤ -1:=h;omega,hb,by show Xe 0;unfold Xe;omega,λk m h=>by cases h⟩
theorem Ve.cl{me r0 r1:Int}{w:World}{k:TR [(false,[.b])]→WP}(h:k ((decide (0≤me)&&decide (me<64)&&elG r0 r1,()),()) w):Ae prog F.Ve [iV me,iV r0,iV r1] w false [(false,[.b])] k:=by
 refine Ve.ok ?_
 unfold Ve.wp
 have key: ∀b:Bool,(b=true↔0≤me∧me<64∧1≤r0∧r0≤1000∧0≤r1∧r1≤1000)→k ((b,()),()) w:=λb hb=>by
  have:b=(decide (0≤me)&&decide (me<64)&&elG r0 r1):=by rw[Bool.eq_iff_iff,hb];simp[lF,and_assoc]
  rw[this];exact h
 refine Dx (λc1=>Dx (λc2=>Dx (λc3=>Dx (λc4=>Dx (λc5=>key _ ?_) λc5=>key _ ?_) λc4=>key _ ?_) λc3=>key _ ?_) λc2=>key _ ?_) λc1=>key _ ?_<;>simp<;>omega
def yK(bE:Nat)(f:Fl)(s:Sl):List Value:=[.pointer (some ⟨bE,0,none⟩),iV f.need,iV f.Aw,.slice s.1 s.2.1 s.2.2,iV f.ll,iV f.lg,iV f.lh]
structure RW(w:World)(O:NP)(br bE:Nat)(f:Fl)(e:El)(l:Um)(es:List E3):Prop where
 ex: ∃s,Az w br (yK bE f s)∧Ku w s es∧(∀a,s.1=some a→a.block≠br∧a.block≠bE∧O a.block)
 elb:Az w bE (Zb e l)
 ne:br≠bE
 obr:O br
 obE:O bE
 lt: ∀z,O z→z<w.heap.size
 inv:EI e l
 len:es.length≤8
 good: ∀x∈es,Jm x=true
 need:1≤f.need
 me:f.me=e.me
theorem RW.upd{S O:NP}{w w':World}{br bE:Nat}{f:Fl}{e:El}{l:Um}{es:List E3}(h:RW w O br bE f e l es)(u:Am S w w')(hS: ∀z,O z→ ¬S z):RW w' O br bE f e l es:=by
 obtain⟨⟨s,h1,h2,h3⟩,elb,ne,obr,obE,lt,inv,len,good,need,me⟩:=h
 exact⟨⟨s,h1.upd u (hS _ obr),Row.upd h2 u λa ha=>hS _ (h3 a ha).2.2,h3⟩,elb.upd u (hS _ obE),ne,obr,obE,λz hz=>Nat.lt_of_lt_of_le (lt z hz) u.size,inv,len,good,need,me⟩
theorem RW.Ai{O:NP}{w w':World}{br bE:Nat}{f:Fl}{e:El}{l:Um}{es:List E3}(h:RW w O br bE f e l es)(u:Af w w'):RW w' O br bE f e l es:=h.upd u λ_ _ x=>x
theorem Vq.cl{me r0 r1 r2 r3:Int}{w:World}{k:TR [(false,[.b])]→WP}(h:k ((decide (0≤me)&&decide (me<64)&&tV r0 r1 r2 r3,()),()) w):Ae prog F.Vq [iV me,iV r0,iV r1,iV r2,iV r3] w false [(false,[.b])] k:=by
 refine Vq.ok ?_
 unfold Vq.wp
 refine Ve.cl ?_
 have key: ∀b:Bool,(b=true↔(decide (0≤me)&&decide (me<64)&&elG r0 r1)=true∧1≤r2∧r2≤8∧0≤r3∧r3≤10)→k ((b,()),()) w:=λb hb=>by
  have:b=(decide (0≤me)&&decide (me<64)&&tV r0 r1 r2 r3):=by rw[Bool.eq_iff_iff,hb];simp[Ya,and_assoc]
  rw[this];exact h
 refine bM (λc0=>Dx (λc1=>Dx (λc2=>Dx (λc3=>key _ ?_) λc3=>key _ ?_) λc2=>key _ ?_) λc1=>key _ ?_) λc0=>key _ ?_
 all_goals (have c0:(decide (0≤me)&&decide (me<64)&&elG r0 r1)=_:=c0;rw[c0];simp)
 all_goals omega
theorem RW.Ac8{O:NP}{br bE:Nat}{f:Fl}{e:El}{l:Um}{es:List E3}{w:World}(hF:RW w O br bE f e l es){w':World}{e':El}(hE:Az w' bE (Zb e' l))(u:Am (λz=>z=bE) w w')(hI:EI e' l)(hm:e'.me=e.me):
  RW w' O br bE f e' l es∧Nx O w O w':=by
 obtain⟨⟨s,h1,h2,h3⟩,elb,ne,obr,obE,lt,inv,len,good,need,me⟩:=hF
 exact⟨⟨⟨s,h1.upd u ne,Row.upd h2 u λa ha=>(h3 a ha).2.1,h3⟩,hE,ne,obr,obE,λz hz=>Nat.lt_of_lt_of_le (lt z hz) u.size,hI,len,good,need,me.trans hm.symm⟩,u.mono λz h=>by rw[h];exact obE,λz hz=>.inl hz⟩
end Go.Proofs.YticgocmhmffneaaGreatDoor
