import Derived.Test.YtppeepkmnijdpaaGreatDoorCfloP
namespace Go.Proofs.YtppeepkmnijdpaaGreatDoor
open Go.Eng Go
open Go.IntKind (wrap)
set_option linter.unusedSimpArgs false
set_option linter.unusedVariables false
set_option maxRecDepth 100000
set_option maxHeartbeats 8000000
abbrev K16:List CK:=[KI,KI,KI,KI,KI,KI,KU,KU,KI,KI,KI,KI,KI,KI,KI,KI]
def Lnk(f:Fl)(e:El)(l:Tz)(p:P14)(t:Int):Prop:=
 0≤e.root∧e.root=p.2.2.2.1∧U5 l e.root=some (p.2.2.2.2.1,p.2.2.2.2.2.1,())∧f.lh=wrap .i64 (p.2.2.2.2.2.2.1+1)∧f.lg=p.2.2.2.2.2.2.2.1∧f.ll=t
theorem wV{e:El}(h:mine e=true):e.root=e.me:=by unfold mine at h;rwa [beq_iff_eq] at h
theorem qC{e:El}(h:e.root=e.me):mine e=true:=by unfold mine;rwa [beq_iff_eq]
theorem Ac7(e:El):(lU e).me=e.me∧(lU e).tmo=e.tmo∧(lU e).ign=e.ign∧(lU e).boot=e.boot∧(lU e).seq=e.seq:=by
 unfold lU;split
 ·exact⟨rfl,rfl,rfl,rfl,rfl⟩
 ·split<;>exact⟨rfl,rfl,rfl,rfl,rfl⟩
theorem Aju(e:El)(loc:Int):(b2e e loc).me=e.me∧(b2e e loc).root=(lU e).root:=by
 have h:=Ac7 e
 unfold b2e;split
 ·unfold isE;split<;>exact⟨h.1,rfl⟩
 ·exact⟨h.1,rfl⟩
theorem Aa7(e:El):(lU e).root=if btB e=true then e.me else e.root:=by
 unfold lU btB
 by_cases c:mine e=true
 ·rw[if_pos c,if_pos c];rfl
 ·rw[if_neg c,if_neg c]
  by_cases d:wrap .i64 (e.beats+1)<e.tmo
  ·rw[if_pos d,if_pos d];rfl
  ·rw[if_neg d,if_neg d];rfl
theorem says{f:Fl}{e:El}{l:Tz}{es:List E3}{p:P14}{t loc:Int}(hm:f.me=e.me)(hme:0≤e.me)(hn:1≤f.need)
  (hI:mine e=true∨(e.root<0∧es=[])∨Lnk f e l p t) (h2:(btF f e l es loc).2=true):
  ((btF f e l es loc).1.2.1≠e.me→(btF f e l es loc).1=(e.me,e.root,p.2.2.2.2.1,p.2.2.2.2.2.1,wrap .i64 (p.2.2.2.2.2.2.1+1),wrap .i64 (wrap .i64 (p.2.2.2.2.2.2.2.1+loc)-t))∧e.root=p.2.2.2.1)
  ∧((btF f e l es loc).1.2.1=e.me→(btF f e l es loc).1.2.2.2.2.1=0∧(btF f e l es loc).1.2.2.2.2.2=loc∧mine (b2e e loc)=true):=by
 have hk:=Ac7 e
 unfold btF at h2⊢
 have hin:inT loc=true:=by
  cases c:inT loc
  ·rw[if_neg (by rw[c];simp)] at h2;cases h2
  ·rfl
 rw[if_pos hin] at h2⊢
 have hw:(btW f e l es loc).2=true:=by
  cases c:(btW f e l es loc).2
  ·rw[if_neg (by rw[c];simp)] at h2;cases h2
  ·rfl
 rw[if_pos hw]
 dsimp only
 have f1:(b1f f e).me=f.me∧(b1f f e).need=f.need:=by unfold b1f;split<;>exact⟨rfl,rfl⟩
 unfold btW wdF at hw⊢
 by_cases cm:mine (lU e)=true
 ·rw[if_pos cm]
  refine⟨λh=>absurd (f1.1.trans hm) h,λ_=>⟨rfl,rfl,qC ?_⟩⟩
  have:=Aju e loc
  rw[this.1,this.2,wV cm,hk.1]
 ·rw[if_neg cm] at hw⊢
  by_cases cs:Xm (b1f f e) (lU e) (b1l e es).length=false
  ·rw[if_pos cs] at hw;cases hw
  rw[if_neg cs] at hw⊢
  have bno: ¬btB e=true:=λh=>cm (qC (by rw[Aa7,if_pos h,hk.1]))
  have hr:(lU e).root=e.root:=by rw[Aa7,if_neg bno]
  have nm: ¬mine e=true:=λh=>cm (qC (by rw[hr,hk.1];exact wV h))
  have rne:e.root≠e.me:=λh=>nm (qC h)
  have hb1:b1f f e=f:=by unfold b1f;rw[if_neg bno]
  have hb2:b1l e es=es:=by unfold b1l;rw[if_neg bno]
  rw[hb1,hb2] at cs
  rw[hb1]
  have hL:Lnk f e l p t:=by
   rcases hI with h|⟨h1,h2⟩|h
   ·exact absurd h nm
   ·refine absurd ?_ cs
    unfold Xm
    rw[show((lU e).root==(lU e).me)=false from beq_eq_false_iff_ne.2 (by rw[hr,hk.1];exact rne),h2]
    simp;omega
   ·exact h
  obtain⟨q1,q2,q3,q4,q5,q6⟩:=hL
  have hmk:mkM (lU e) l=(p.2.2.2.2.1,p.2.2.2.2.2.1,()):=by
   unfold mkM;rw[if_neg (by rw[hr];omega),if_neg cm,hr,q3];rfl
  refine⟨λ_=>⟨?_,q2⟩,λh=>absurd (hr.symm.trans h) rne⟩
  unfold fwS
  rw[hmk,hr,q4,q5,q6,hm]
end Go.Proofs.YtppeepkmnijdpaaGreatDoor
namespace Go.Proofs.YtppeepkmnijdpaaGreatDoor
open Go.Eng Go
set_option linter.unusedSimpArgs false
set_option linter.unusedVariables false
set_option maxRecDepth 100000
set_option maxHeartbeats 8000000
theorem FW.Aqi{O S:NP}{w w':World}{bf be:Nat}{f:Fl}{e:El}{l:Tz}{es:List E3}(h:FW w O bf be f e l es)(u:Ap S w w')(hS: ¬S bf):w'.cell? ⟨bf,0,none⟩=some ((w.cell? ⟨bf,0,none⟩).getD undef):=by
 obtain⟨r,s,h1,_⟩:=h.ex
 exact h1.hold u hS 0 (by simp[flC])
end Go.Proofs.YtppeepkmnijdpaaGreatDoor
