/- The laws LeapSteps and LeapReads. Conditions: what an argument is. -/
import Derived.Test.YtfbegkddkdenbaaDoorLcF
import Derived.Test.YtfbegkddkdenbaaDoorLcH
import Derived.Test.YtfbegkddkdenbaaDoorLpB
namespace Go.Proofs.YtfbegkddkdenbaaDoor
open Go.Eng Go
set_option linter.unusedVariables false
set_option linter.unusedSimpArgs false

set_option maxRecDepth 20000 in
set_option maxHeartbeats 1000000 in
theorem law21_LeapSteps.cl {w : World} {m : Tb} {s : Sl} {day : Int} (hR : RowsP w s m.ls) (hI : ∀ l ∈ m.ls, I64 l.1 ∧ I64 l.2) (hm : I64 m.st ∧ I64 m.ah ∧ I64 m.en) (hd : I64 day) :
    clS Tryd.prog F.law21_LeapSteps [vT m s, .int .i64 day] w false RB1 (Holds w) := by
  refine law21_LeapSteps.ok ?_
  unfold law21_LeapSteps.wp
  have hl := hR.len
  refine alK_by fun p1 w2 e1 k1 u1 => law21_alive.cl fun w4 u4 => brF rfl ?_
  have k4 := k1.gro u4
  have g4 := u1.trans u4
  refine k4.c1 3 (c := .sl) (x := s) rfl (brD (fun c => holds g4 rfl) fun c => ?_)
  have c : ¬ (s.2.1 : Int) > 64 := c
  refine ldTb k4 (law21_made.cl (m := m) (hR.gro g4) (by omega) hI (fun hne w8 u8 => ?_) fun he b w8 hb hT u8 => ?_)
  · refine brN (fun _ => holds (g4.trans u8) rfl) fun c2 => absurd (show errT m = 0 from c2) hne
  · have hg := errT_good he
    have hr := hg.1
    unfold Rngd at hr
    have g8 := g4.trans u8
    have k8 := k4.gro u8
    refine brN (fun c2 => absurd rfl c2) fun _ => k8.i0 rfl (brD (fun _ => holds g8 rfl) fun c3 => k8.i1 2 rfl (brD (fun _ => holds g8 rfl) fun c4 => ?_))
    have c3 : ¬ day < m.st := c3
    have c4 : ¬ day ≥ IntKind.wrap .i64 (m.en - 1) := c4
    rw [w64_in (n := m.en - 1) (by unfold I64; omega)] at c4
    have in1 : inR m day := by unfold inR; omega
    have in2 : inR m (day + 1) := by unfold inR; omega
    rw [w64_in (n := day + 1) (by unfold I64; omega)]
    refine leap_Table_Ahead.cl hT hg (fun c => absurd in1 c) fun _ w12 u12 => leap_Table_Ahead.cl (hT.gro u12) hg (fun c => absurd in2 c) fun _ w14 u14 => leap_Table_Step.cl ((hT.gro u12).gro u14) hg fun w16 u16 => ?_
    have g16 := ((g8.trans u12).trans u14).trans u16
    have k16 := ((k8.gro u12).gro u14).gro u16
    have sr := stS_rng hg.2.1 day
    have su := ahS_succ hg.2.2.2 day m.ah
    have ar := ahS_rng hg.2.1 day m.ah
    have ar2 := ahS_rng hg.2.1 (day + 1) m.ah
    have n64 := hg.2.2.1
    refine brT rfl (brT rfl (brT ?_ (brT ?_ (brT ?_ (ldTb k16 (ref21_Step.cl (hR.gro g16) (by omega) fun w19 u19 => holds (g16.trans u19) ?_))))))
    · show (IntKind.wrap .i64 (ahS m.ah m.ls (day + 1) - ahS m.ah m.ls day) == stS m.ls day) = true
      rw [w64_in (by unfold I64; omega), beq_iff_eq]; omega
    · exact decide_eq_true (show stS m.ls day ≥ Int.negSucc 0 by omega)
    · exact decide_eq_true (show stS m.ls day ≤ 1 by omega)
    · exact beq_self_eq_true _
set_option maxRecDepth 20000 in
set_option maxHeartbeats 1000000 in
theorem law21_LeapReads.cl {l : Bs} {w : World} : clS Tryd.prog F.law21_LeapReads [.string (ofL l)] w false RB1 (Holds w) := by
  refine law21_LeapReads.ok ?_
  unfold law21_LeapReads.wp
  rw [ofL_size]
  refine law21_alive.cl fun w2 u2 => brF rfl (brD (fun c => holds u2 rfl) fun c => ?_)
  have c : ¬ (l.length : Int) > 32768 := c
  refine leap_Parse.cl (fun at_ e hp w4 u4 => ?_) fun m hp b w4 hb hT u4 => ?_
  · refine ref21_Parse.cl (by omega) (fun at2 e2 hp2 w6 u6 => ?_) fun m hp2 => by rw [hp] at hp2; cases hp2
    have hee := prsL_err (s := l) (by rw [hp])
    rw [hp] at hee
    rw [hp] at hp2
    injection hp2 with _ hp2
    injection hp2 with ha he
    subst ha he
    refine alK_by fun p7 w8 e8 k8 u8 => k8.sta (cT t0 (none, 0, 0)) rfl rfl fun w9 k9 u9 => ?_
    have g9 : Gro w w9 := Gro.fresh ((u2.trans u4).trans u6) u8 u9 e8
    refine brN (fun _ => brT rfl (brE (fun _ => holds g9 (beq_self_eq_true _)) fun c2 => absurd rfl c2)) fun c2 => absurd (show e = 0 from c2) hee
  · refine ref21_Parse.cl (by omega) (fun at2 e2 hp2 => by rw [hp] at hp2; cases hp2) fun m2 hp2 sl w6 hR u6 => ?_
    have hg := (prsL_some hp).2
    rw [hp] at hp2
    injection hp2 with hp2 _
    injection hp2 with hp2
    subst hp2
    have n64 := hg.2.2.1
    refine alK_by fun p7 w8 e8 k8 u8 => k8.sta (cT m sl) rfl rfl fun w9 k9 u9 => ?_
    have g9' : Gro w6 w9 := Gro.fresh (Gro.refl _) u8 u9 e8
    have g9 : Gro w w9 := ((u2.trans u4).trans u6).trans g9'
    refine brN (fun c2 => absurd rfl c2) fun _ => ?_
    rw [drK_eq]
    have k10 := k9.drew
    have g10 := g9.trans (Gro.drew w9)
    have T10 := ((hT.gro u6).gro g9').gro (Gro.drew w9)
    have R10 := (hR.gro g9').gro (Gro.drew w9)
    generalize w9.drew = w10 at k10 g10 T10 R10
    have hh : ∀ {w' : World}, Gro w10 w' → ∀ i, i < 4 → w'.cell? (Addr.add ⟨p7, 0, none⟩ i) = some ((w10.cell? (Addr.add ⟨p7, 0, none⟩ i)).getD undef) := fun u i hi => k10.hold u (fun x => x) i (by simpa using hi)
    refine brT rfl (brT rfl (ldTb k10 (law21_same.cl T10 R10 (by omega) fun w13 u13 => ⟨⟨hh u13 0 (by decide), hh u13 1 (by decide), hh u13 2 (by decide), hh u13 3 (by decide), trivial⟩, brT rfl ?_⟩)))
    have k13 := k10.gro u13
    have h3 : ∀ {w' : World}, Gro w13 w' → ∀ i, i < 4 → w'.cell? (Addr.add ⟨p7, 0, none⟩ i) = some ((w13.cell? (Addr.add ⟨p7, 0, none⟩ i)).getD undef) := fun u i hi => k13.hold u (fun x => x) i (by simpa using hi)
    refine ldTb k13 (leap_Table_Text.cl (T10.gro u13) hg fun w16 u16 => ⟨⟨h3 u16 0 (by decide), h3 u16 1 (by decide), h3 u16 2 (by decide), h3 u16 3 (by decide), hh (u13.trans u16) 0 (by decide), hh (u13.trans u16) 1 (by decide), hh (u13.trans u16) 2 (by decide), hh (u13.trans u16) 3 (by decide), trivial⟩, ?_⟩)
    have u18' := u13.trans u16
    refine ref21_Text.cl (m := m) (s := sl) (R10.gro u18') hg fun w18 u18 => ⟨⟨h3 (u16.trans u18) 0 (by decide), h3 (u16.trans u18) 1 (by decide), h3 (u16.trans u18) 2 (by decide), h3 (u16.trans u18) 3 (by decide), hh (u18'.trans u18) 0 (by decide), hh (u18'.trans u18) 1 (by decide), hh (u18'.trans u18) 2 (by decide), hh (u18'.trans u18) 3 (by decide), trivial⟩, ?_⟩
    refine brS (fun _ => ?_) fun c2 => absurd rfl c2
    have k18 := k10.gro (u18'.trans u18)
    refine ldTb k18 (ref21_Fault.cl (m := m) (s := sl) (R10.gro (u18'.trans u18)) (by omega) fun w21 u21 => ⟨⟨h3 ((u16.trans u18).trans u21) 0 (by decide), h3 ((u16.trans u18).trans u21) 1 (by decide), h3 ((u16.trans u18).trans u21) 2 (by decide), h3 ((u16.trans u18).trans u21) 3 (by decide), hh ((u18'.trans u18).trans u21) 0 (by decide), hh ((u18'.trans u18).trans u21) 1 (by decide), hh ((u18'.trans u18).trans u21) 2 (by decide), hh ((u18'.trans u18).trans u21) 3 (by decide), trivial⟩, ?_⟩)
    refine holds (((g10.trans u18').trans u18).trans u21) ?_
    show (errT m == 0) = true
    rw [good_errT hg]; rfl
end Go.Proofs.YtfbegkddkdenbaaDoor
