import Derived.Test.YtppeepkmnijdpaaGreatDoorMtD
import Derived.Test.YtppeepkmnijdpaaGreatDoorMcI
import Derived.Test.YtppeepkmnijdpaaGreatDoorMcJ
import Derived.Test.YtppeepkmnijdpaaGreatDoorEngR
namespace Go.Proofs.YtppeepkmnijdpaaGreatDoor
open Go.Eng Go Tryz
set_option linter.unusedSimpArgs false
set_option linter.unusedVariables false
set_option maxRecDepth 100000
set_option maxHeartbeats 8000000
theorem eqU(a:U6):(((a.1==a.1)&&((a.2.1==a.2.1)&&((a.2.2.1==a.2.2.1)&&true)))&&((a.2.2.2.1==a.2.2.2.1)&&((a.2.2.2.2.1==a.2.2.2.2.1)&&((a.2.2.2.2.2==a.2.2.2.2.2)&&true))))=true:=by simp
theorem Asw{m:V9}(hg:Tq m){tai x:Int}{d:D3}(hx:lG m tai x)(hd:F8 d)(hn:Ja d=x):
  Aac m (uOf d (tai-Iw m x))=(tai,0)∧dU (uOf d (tai-Iw m x))=d∧
  ((uOf d (tai-Iw m x)).2.2.2.2.2=60→Sj m.ls x=1)∧((uOf d (tai-Iw m x)).2.2.2.1=23→(uOf d (tai-Iw m x)).2.2.2.2.1=59→(uOf d (tai-Iw m x)).2.2.2.2.2=59→Sj m.ls x≠ -1):=by
 obtain⟨hr,h1,h2⟩:=hx
 have hb:=aV hg x
 have hs:=jI hg x
 obtain⟨a1,a2,a3⟩:=Alh hd (s:=tai-Iw m x) (by omega) (by omega)
 refine⟨?_,a2,λh=>?_,λh3 h4 h5=>?_⟩
 ·unfold Aac
  rw[if_neg (λc=>c a1),a2,hn,if_neg (λc=>c hr),if_neg (by rw[a3];omega),a3]
  exact congrArg (·,(0:Int)) (by omega)
 ·unfold uOf at h
  split at h
  ·omega
  ·dsimp only at h;omega
 ·unfold uOf at h3 h4 h5
  split at h3
  ·rename_i c;rw[if_pos c] at h5;dsimp only at h5;omega
  ·rename_i c;rw[if_neg c] at h4 h5;dsimp only at h3 h4 h5;omega
theorem Kr.cl{l:Bs}{tai:Int}{w:World}(hT:Tb w)(ht:I64 tai):Ad prog F.Kr [.string (Fb l),iV tai] w false RB1 (Holds w):=by
 refine Kr.ok ?_
 rw[Pq]
 refine V7.g hT λw2 u2=>Le rfl (Cf (λc=>holds u2 rfl) λc=>?_)
 have c: ¬(l.length:Int)>16384:=c
 refine Iz.cl (λat_ e hp w4 u4=>?_) λm hp b w4 hb hT u4=>?_
 ·refine Ql.cl (by omega) (λat2 e2 hp2 w6 u6=>?_) λm hp2=>by rw[hp] at hp2;cases hp2
  have hee:=Aix (s:=l) (by rw[hp])
  rw[hp] at hee
  rw[hp] at hp2
  injection hp2 with _ hp2
  injection hp2 with ha he
  subst ha he
  refine Ae λp7 w8 e8 k8 u8=>k8.E5 (cT t0 (none,0,0)) rfl rfl λw9 k9 u9=>?_
  have g9:Ah w w9:=Ah.fresh ((u2.trans u4).trans u6) u8 u9 e8
  refine dS (λ_=>We rfl (holds g9 (beq_self_eq_true _))) λc2=>absurd (show e=0 from c2) hee
 refine Ql.cl (by omega) (λat2 e2 hp2=>by rw[hp] at hp2;cases hp2) λm2 hp2 sl w6 hR u6=>?_
 have hg:=(Ahv hp).2
 rw[hp] at hp2
 injection hp2 with hp2 _
 injection hp2 with hp2
 subst hp2
 have n64:=hg.2.2.1
 refine Ae λp7 w8 e8 k8 u8=>k8.E5 (cT m sl) rfl rfl λw9 k9 u9=>?_
 have g9':Ah w6 w9:=Ah.fresh (Ah.refl _) u8 u9 e8
 have g9:Ah w w9:=((u2.trans u4).trans u6).trans g9'
 refine dS (λc2=>absurd rfl c2) λ_=>?_
 rw[Aq]
 have k10:=k9.drew
 have g10:=g9.trans (Ah.drew w9)
 have T10:=((hT.Ai u6).Ai g9').Ai (Ah.drew w9)
 have R10:=(hR.Ai g9').Ai (Ah.drew w9)
 generalize w9.drew=w10 at k10 g10 T10 R10
 have HH: ∀{wa wb:World},Ah w10 wa→Ah w10 wb→ ∀i,i<4→wb.cell? (Addr.add ⟨p7,0,none⟩ i)=some ((wa.cell? (Addr.add ⟨p7,0,none⟩ i)).getD undef):=λ{wa wb} ga gb i hi=>by
  have h1:=k10.Ai ga
  have h2:=k10.Ai gb
  rw[Lr,Nat.zero_add,h1.cell,h2.cell]
  match i,hi with
  |0,_=>rfl
  |1,_=>rfl
  |2,_=>rfl
  |3,_=>rfl
 have r10:=Ah.refl w10
 refine dS (λc2=>absurd rfl c2) λ_=>Ab0 k10 (Sv.cl (m:=m) (s:=sl) R10 (by omega) λw13 u13=>⟨?_,dS (λc2=>absurd (Ag9 hg) c2) λ_=>?_⟩)
 ·repeat' (first|exact trivial|refine⟨HH ?_ ?_ _ (by decide),?_⟩|fail)
  all_goals assumption
 refine Ab0 (k10.Ai u13) (Ll.cl (T10.Ai u13) hg λw16 u16=>⟨?_,?_⟩)
 ·have r16:=u13.trans u16
  repeat' (first|exact trivial|refine⟨HH ?_ ?_ _ (by decide),?_⟩|fail)
  all_goals assumption
 refine Uf.cl (m:=m) (s:=sl) (R10.Ai (u13.trans u16)) hg λw18 u18=>⟨?_,?_⟩
 ·have r18:=(u13.trans u16).trans u18
  repeat' (first|exact trivial|refine⟨HH ?_ ?_ _ (by decide),?_⟩|fail)
  all_goals assumption
 have u18:=(u13.trans u16).trans u18
 have k18:=k10.Ai u18
 have T18:=T10.Ai u18
 have R18:=R10.Ai u18
 have g18:=g10.trans u18
 clear HH
 refine Le (by show(!(Fb (txtT m)==Fb (txtT m)))=false;rw[(Vx _ _).2 rfl];rfl) ?_
 refine kE.cl T18 hg ht (λhno w20 u20=>?_) λx hx d hd hn w20 u20=>?_
 ·refine Ae λp21 w22 e22 k22 u22=>k22.E5 _ rfl rfl λw23 k23 u23=>?_
  have g23:Ah w18 w23:=Ah.fresh u20 u22 u23 e22
  refine Ab0 (k18.Ai g23) (Xc.cl (R18.Ai g23) hg ht (λ_ w26 u26=>?_) λx hx=>absurd hx (hno x))
  refine Ae λp27 w28 e28 k28 u28=>k28.E5 _ rfl rfl λw29 k29 u29=>?_
  exact We rfl (holds (g18.trans (g23.trans (Ah.fresh u26 u28 u29 e28))) rfl)
 obtain⟨b1,b2,b3,b4⟩:=Asw hg hx hd hn
 obtain⟨U,hU⟩: ∃U:U6,U=uOf d (tai-Iw m x):=⟨_,rfl⟩
 rw[←hU] at b1 b2 b3 b4⊢
 refine Ae λp21 w22 e22 k22 u22=>k22.E5 (cU U) rfl rfl λw23 k23 u23=>?_
 have g23:Ah w18 w23:=Ah.fresh u20 u22 u23 e22
 refine Ab0 (k18.Ai g23) (Xc.cl (R18.Ai g23) hg ht (λhno=>absurd hx (hno x)) λx' hx' d' hd' hn' w26 u26=>?_)
 have:x'=x:=hx'.uniq hg hx
 subst this
 have:d'=d:=Aay hd' hd (hn'.trans hn.symm)
 subst this
 rw[←hU]
 refine Ae λp27 w28 e28 k28 u28=>k28.E5 (cU U) rfl rfl λw29 k29 u29=>?_
 have g29:Ah w23 w29:=Ah.fresh u26 u28 u29 e28
 refine Le rfl (Ar.ldU (u:=U) (k23.Ai g29) (dG.cl (u:=U) (T18.Ai (g23.trans g29)) hg λw32 u32=>?_))
 rw[b1,Aq]
 have K21:=((k23.Ai g29).Ai u32).drew
 have K27:=(k29.Ai u32).drew
 have g33:=((g23.trans g29).trans u32).trans (Ah.drew w32)
 have K7:=k18.Ai g33
 have R33:=R18.Ai g33
 generalize w32.drew=w33 at K21 K27 K7 R33 g33
 have H7: ∀{wa wb:World},Ah w33 wa→Ah w33 wb→ ∀i,i<4→wb.cell? (Addr.add ⟨p7,0,none⟩ i)=some ((wa.cell? (Addr.add ⟨p7,0,none⟩ i)).getD undef):=λ{wa wb} ga gb i hi=>by
  have h1:=K7.Ai ga
  have h2:=K7.Ai gb
  rw[Lr,Nat.zero_add,h1.cell,h2.cell]
  match i,hi with
  |0,_=>rfl
  |1,_=>rfl
  |2,_=>rfl
  |3,_=>rfl
 have H27: ∀{wa wb:World},Ah w33 wa→Ah w33 wb→ ∀i,i<3→wb.cell? (Addr.add ⟨p27,0,none⟩ i)=some ((wa.cell? (Addr.add ⟨p27,0,none⟩ i)).getD undef):=λ{wa wb} ga gb i hi=>by
  have h1:=K27.Ai ga
  have h2:=K27.Ai gb
  rw[Lr,Nat.zero_add,h1.cell,h2.cell]
  match i,hi with
  |0,_=>rfl
  |1,_=>rfl
  |2,_=>rfl
 have r33:=Ah.refl w33
 refine Ab0 K7 (Ar.Aox (u:=U) K27 ?_)
 rw[b2]
 refine Nr.cl hd λw37 u37=>⟨?_,?_⟩
 ·repeat' (first|exact trivial|refine⟨H27 ?_ ?_ _ (by decide),?_⟩|refine⟨H7 ?_ ?_ _ (by decide),?_⟩|fail)
  all_goals assumption
 rw[hn]
 refine Qr.cl (m:=m) (s:=sl) (R33.Ai u37) (by omega) λw39 u39=>⟨?_,?_⟩
 ·have r39:=u37.trans u39
  repeat' (first|exact trivial|refine⟨H27 ?_ ?_ _ (by decide),?_⟩|fail)
  all_goals assumption
 have u39:=u37.trans u39
 have K21:=K21.Ai u39
 have K27:=K27.Ai u39
 have g39:=g18.trans (g33.trans u39)
 refine Bh.by (λ_ W=>w39=W) (K27.i1 5 rfl ?_) ?_
 ·have rest:U.2.2.2.2.2=60∨ ¬U.2.2.2.2.2=60:=Decidable.em _
  refine Vh (λc5=>?_) λc5=>?_
  ·have c5:U.2.2.2.2.2=60:=c5
   refine dS (λc6=>absurd (b3 c5) c6) λ_=>K27.i1 3 rfl (Vh (λ_=>K27.i1 4 rfl (Vh (λ_=>K27.i1 5 rfl (Vh (λc7=>?_) λ_=>rfl)) λ_=>rfl)) λ_=>rfl)
   have c7:U.2.2.2.2.2=59:=c7
   omega
  ·refine K27.i1 3 rfl (Vh (λc6=>K27.i1 4 rfl (Vh (λc7=>K27.i1 5 rfl (Vh (λc8=>Vh (λc9=>absurd c9 (b4 c6 c7 c8)) λ_=>rfl) λ_=>rfl)) λ_=>rfl)) λ_=>rfl)
 rintro⟨⟩ _ rfl _
 refine We rfl (Ar.Aox (u:=U) K21 (K21.i1 3 rfl (K21.i1 4 rfl (K21.i1 5 rfl (Ar.ldU (u:=U) K27 (We (eqU U) (We rfl (holds g39 (beq_self_eq_true _)))))))))
theorem Kr.fin{a:ByteArray}{tai:Int}{w:World}(hT:Tb w)(ht:I64 tai):Ad prog F.Kr [.string a,iV tai] w false RB1 (Holds w):=by
 rw[←Ae8 a]
 exact Kr.cl hT ht
end Go.Proofs.YtppeepkmnijdpaaGreatDoor
