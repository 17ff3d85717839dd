import Derived.Test.YticgocmhmffneaaGreatDoorCfloP
namespace Go.Proofs.YticgocmhmffneaaGreatDoor
open Go.Eng Go
open Go.IntKind (wrap)
set_option linter.unusedSimpArgs false
set_option linter.unusedVariables false
set_option maxRecDepth 100000
set_option maxHeartbeats 8000000
abbrev K16:List CK:=[KI,KI,KI,KI,KI,KI,KU,KU,KI,KI,KI,KI,KI,KI,KI,KI]
def Lnk(f:Fl)(e:El)(l:Um)(p:kC)(t:Int):Prop:=
 0≤e.root∧e.root=p.2.2.2.1∧Vu l e.root=some (p.2.2.2.2.1,p.2.2.2.2.2.1,())∧f.lh=wrap .i64 (p.2.2.2.2.2.2.1+1)∧f.lg=p.2.2.2.2.2.2.2.1∧f.ll=t
theorem Lnk.hear{f:Fl}{e:El}{l:Um}{p:kC}{loc:Int}(h:0≤(kH p).2.1):Lnk (hfF f (kH p) loc) (xU e (kH p).2.1) (Xd l (kH p).2.1 (yH (kH p))) p loc:=by
 refine⟨h,rfl,?_,rfl,rfl,rfl⟩
 rw[bY]
 show(if(xU e (kH p).2.1).root=(kH p).2.1 then _ else _)=_
 exact if_pos rfl
theorem Adu{e:El}(h:mine e=true):e.root=e.me:=by unfold mine at h;rwa [beq_iff_eq] at h
theorem aX{e:El}(h:e.root=e.me):mine e=true:=by unfold mine;rwa [beq_iff_eq]
theorem rM(e:El):(eG e).me=e.me∧(eG e).tmo=e.tmo∧(eG e).ign=e.ign∧(eG e).boot=e.boot∧(eG e).seq=e.seq:=by
 unfold eG;split
 ·exact⟨rfl,rfl,rfl,rfl,rfl⟩
 ·split<;>exact⟨rfl,rfl,rfl,rfl,rfl⟩
theorem Agt(e:El)(loc:Int):(yL e loc).me=e.me∧(yL e loc).root=(eG e).root:=by
 have h:=rM e
 unfold yL;split
 ·unfold isE;split<;>exact⟨h.1,rfl⟩
 ·exact⟨h.1,rfl⟩
theorem zS(e:El):(eG e).root=if btB e=true then e.me else e.root:=by
 unfold eG btB
 by_cases c:mine e=true
 ·rw[if_pos c,if_pos c];rfl
 ·rw[if_neg c,if_neg c]
  by_cases d:wrap .i64 (e.beats+1)<e.tmo
  ·rw[if_pos d,if_pos d];rfl
  ·rw[if_neg d,if_neg d];rfl
theorem says{f:Fl}{e:El}{l:Um}{es:List E3}{p:kC}{t loc:Int}(hm:f.me=e.me)(hme:0≤e.me)(hn:1≤f.need)
  (hI:mine e=true∨(e.root<0∧es=[])∨Lnk f e l p t) (h2:(sH f e l es loc).2=true):
  ((sH f e l es loc).1.2.1≠e.me→(sH f e l es loc).1=(e.me,e.root,p.2.2.2.2.1,p.2.2.2.2.2.1,wrap .i64 (p.2.2.2.2.2.2.1+1),wrap .i64 (wrap .i64 (p.2.2.2.2.2.2.2.1+loc)-t))∧e.root=p.2.2.2.1)
  ∧((sH f e l es loc).1.2.1=e.me→(sH f e l es loc).1.2.2.2.2.1=0∧(sH f e l es loc).1.2.2.2.2.2=loc∧mine (yL e loc)=true):=by
 have hk:=rM e
 unfold sH at h2⊢
 have hin:inT loc=true:=by
  cases c:inT loc
  ·rw[if_neg (by rw[c];simp)] at h2;cases h2
  ·rfl
 rw[if_pos hin] at h2⊢
 have hw:(btW f e l es loc).2=true:=by
  cases c:(btW f e l es loc).2
  ·rw[if_neg (by rw[c];simp)] at h2;cases h2
  ·rfl
 rw[if_pos hw]
 dsimp only
 have f1:(nD f e).me=f.me∧(nD f e).need=f.need:=by unfold nD;split<;>exact⟨rfl,rfl⟩
 unfold btW wdF at hw⊢
 by_cases cm:mine (eG e)=true
 ·rw[if_pos cm]
  refine⟨λh=>absurd (f1.1.trans hm) h,λ_=>⟨rfl,rfl,aX ?_⟩⟩
  have:=Agt e loc
  rw[this.1,this.2,Adu cm,hk.1]
 ·rw[if_neg cm] at hw⊢
  by_cases cs:Xb (nD f e) (eG e) (b1l e es).length=false
  ·rw[if_pos cs] at hw;cases hw
  rw[if_neg cs] at hw⊢
  have bno: ¬btB e=true:=λh=>cm (aX (by rw[zS,if_pos h,hk.1]))
  have hr:(eG e).root=e.root:=by rw[zS,if_neg bno]
  have nm: ¬mine e=true:=λh=>cm (aX (by rw[hr,hk.1];exact Adu h))
  have rne:e.root≠e.me:=λh=>nm (aX h)
  have hb1:nD f e=f:=by unfold nD;rw[if_neg bno]
  have hb2:b1l e es=es:=by unfold b1l;rw[if_neg bno]
  rw[hb1,hb2] at cs
  rw[hb1]
  have hL:Lnk f e l p t:=by
   rcases hI with h|⟨h1,h2⟩|h
   ·exact absurd h nm
   ·refine absurd ?_ cs
    unfold Xb
    rw[show((eG e).root==(eG e).me)=false from beq_eq_false_iff_ne.2 (by rw[hr,hk.1];exact rne),h2]
    simp;omega
   ·exact h
  obtain⟨q1,q2,q3,q4,q5,q6⟩:=hL
  have hmk:oN (eG e) l=(p.2.2.2.2.1,p.2.2.2.2.2.1,()):=by
   unfold oN;rw[if_neg (by rw[hr];omega),if_neg cm,hr,q3];rfl
  refine⟨λ_=>⟨?_,q2⟩,λh=>absurd (hr.symm.trans h) rne⟩
  unfold fwS
  rw[hmk,hr,q4,q5,q6,hm]
end Go.Proofs.YticgocmhmffneaaGreatDoor
namespace Go.Proofs.YticgocmhmffneaaGreatDoor
open Go.Eng Go
set_option linter.unusedSimpArgs false
set_option linter.unusedVariables false
set_option maxRecDepth 100000
set_option maxHeartbeats 8000000
theorem FW.Als{O S:NP}{w w':World}{bf be:Nat}{f:Fl}{e:El}{l:Um}{es:List E3}(h:FW w O bf be f e l es)(u:Am S w w')(hS: ¬S bf):w'.cell? ⟨bf,0,none⟩=some ((w.cell? ⟨bf,0,none⟩).getD undef):=by
 obtain⟨r,s,h1,_⟩:=h.ex
 exact h1.hold u hS 0 (by simp[flC])
end Go.Proofs.YticgocmhmffneaaGreatDoor
