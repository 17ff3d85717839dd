/- The law FloodSays. Conditions: none. -/
import Derived.Test.YtnjmfbjgcfnanaaGreatCfloC
namespace Go.Proofs.YtnjmfbjgcfnanaaGreat
open Go.Eng Go
set_option linter.unusedVariables false
set_option linter.unusedSimpArgs false

abbrev K16 : List CK := [.i .i64, .i .i64, .i .i64, .i .i64, .i .i64, .i .i64, .i .u16, .i .u16, .i .i64, .i .i64, .i .i64, .i .i64, .i .i64, .i .i64, .i .i64, .i .i64]
/-- what an election holds of the last accepted word -/
def Lnk (f : Fl) (e : El) (l : MkL) (p : P14) (t : Int) : Prop :=
  0 ≤ e.root ∧ e.root = p.2.2.2.1 ∧ mget l e.root = some (p.2.2.2.2.1, p.2.2.2.2.2.1, ()) ∧ f.lh = IntKind.wrap .i64 (p.2.2.2.2.2.2.1 + 1) ∧ f.lg = p.2.2.2.2.2.2.2.1 ∧ f.ll = t
theorem hrN_may {e : El} {l : MkL} {root : Int} {m : Tvs MK} (h : hrN e l root m ≠ 0) : 0 ≤ root ∧ root < e.me := by
  unfold hrN at h
  by_cases c : mayE e root = false
  · rw [if_pos c] at h; exact absurd rfl h
  · unfold mayE at c
    by_cases d : root < 0 ∨ root ≥ e.me
    · rw [if_pos d] at c; exact absurd rfl c
    · omega
theorem hrF_may {e : El} {l : MkL} {s : S6} {loc : Int} (h : hrF e l s loc ≠ 0) : 0 ≤ s.2.1 ∧ s.2.1 < e.me := by
  unfold hrF at h
  split at h
  · exact hrN_may h
  · exact absurd rfl h
theorem Lnk.hear {f : Fl} {e : El} {l : MkL} {p : P14} {loc : Int} (h : 0 ≤ (syP p).2.1) : Lnk (hfF f (syP p) loc) (hrE e (syP p).2.1) (mset l (syP p).2.1 (mrk (syP p))) p loc := by
  refine ⟨h, rfl, ?_, rfl, rfl, rfl⟩
  rw [mget_mset]
  show (if (hrE e (syP p).2.1).root = (syP p).2.1 then _ else _) = _
  exact if_pos rfl
theorem mine_root {e : El} (h : mine e = true) : e.root = e.me := by unfold mine at h; rwa [beq_iff_eq] at h
theorem mine_of {e : El} (h : e.root = e.me) : mine e = true := by unfold mine; rwa [beq_iff_eq]
theorem btE_keep (e : El) : (btE e).me = e.me ∧ (btE e).tmo = e.tmo ∧ (btE e).ign = e.ign ∧ (btE e).boot = e.boot ∧ (btE e).seq = e.seq := by
  unfold btE; split
  · exact ⟨rfl, rfl, rfl, rfl, rfl⟩
  · split <;> exact ⟨rfl, rfl, rfl, rfl, rfl⟩
theorem b2e_keep (e : El) (loc : Int) : (b2e e loc).me = e.me ∧ (b2e e loc).root = (btE e).root := by
  have h := btE_keep e
  unfold b2e; split
  · unfold isE; split <;> exact ⟨h.1, rfl⟩
  · exact ⟨h.1, rfl⟩
theorem btE_root (e : El) : (btE e).root = if btB e = true then e.me else e.root := by
  unfold btE btB
  by_cases c : mine e = true
  · rw [if_pos c, if_pos c]; rfl
  · rw [if_neg c, if_neg c]
    by_cases d : IntKind.wrap .i64 (e.beats + 1) < e.tmo
    · rw [if_pos d, if_pos d]; rfl
    · rw [if_neg d, if_neg d]; rfl
theorem btB_no {e : El} (h : mine e = true) : btB e = false := by unfold btB; rw [if_pos h]

/-- what a beat says -/
theorem says {f : Fl} {e : El} {l : MkL} {es : List E3} {p : P14} {t loc : Int} (hm : f.me = e.me) (hme : 0 ≤ e.me) (hn : 1 ≤ f.need)
    (hI : mine e = true ∨ (e.root < 0 ∧ es = []) ∨ Lnk f e l p t) (h2 : (btF f e l es loc).2 = true) :
    ((btF f e l es loc).1.2.1 ≠ e.me → (btF f e l es loc).1 = (e.me, e.root, p.2.2.2.2.1, p.2.2.2.2.2.1, IntKind.wrap .i64 (p.2.2.2.2.2.2.1 + 1), IntKind.wrap .i64 (IntKind.wrap .i64 (p.2.2.2.2.2.2.2.1 + loc) - t)) ∧ e.root = p.2.2.2.1)
    ∧ ((btF f e l es loc).1.2.1 = e.me → (btF f e l es loc).1.2.2.2.2.1 = 0 ∧ (btF f e l es loc).1.2.2.2.2.2 = loc ∧ mine (b2e e loc) = true) := by
  have hk := btE_keep e
  unfold btF at h2 ⊢
  have hin : inT loc = true := by
    cases c : inT loc
    · rw [if_neg (by rw [c]; simp)] at h2; cases h2
    · rfl
  rw [if_pos hin] at h2 ⊢
  have hw : (btW f e l es loc).2 = true := by
    cases c : (btW f e l es loc).2
    · rw [if_neg (by rw [c]; simp)] at h2; cases h2
    · rfl
  rw [if_pos hw]
  dsimp only
  have f1 : (b1f f e).me = f.me ∧ (b1f f e).need = f.need := by unfold b1f; split <;> exact ⟨rfl, rfl⟩
  unfold btW wdF at hw ⊢
  by_cases cm : mine (btE e) = true
  · rw [if_pos cm]
    refine ⟨fun h => absurd (f1.1.trans hm) h, fun _ => ⟨rfl, rfl, mine_of ?_⟩⟩
    have := b2e_keep e loc
    rw [this.1, this.2, mine_root cm, hk.1]
  · rw [if_neg cm] at hw ⊢
    by_cases cs : synF (b1f f e) (btE e) (b1l e es).length = false
    · rw [if_pos cs] at hw; cases hw
    rw [if_neg cs] at hw ⊢
    have bno : ¬ btB e = true := fun h => cm (mine_of (by rw [btE_root, if_pos h, hk.1]))
    have hr : (btE e).root = e.root := by rw [btE_root, if_neg bno]
    have nm : ¬ mine e = true := fun h => cm (mine_of (by rw [hr, hk.1]; exact mine_root h))
    have rne : e.root ≠ e.me := fun h => nm (mine_of h)
    have hb1 : b1f f e = f := by unfold b1f; rw [if_neg bno]
    have hb2 : b1l e es = es := by unfold b1l; rw [if_neg bno]
    rw [hb1, hb2] at cs
    rw [hb1]
    have hL : Lnk f e l p t := by
      rcases hI with h | ⟨h1, h2⟩ | h
      · exact absurd h nm
      · refine absurd ?_ cs
        unfold synF
        rw [show ((btE e).root == (btE e).me) = false from beq_eq_false_iff_ne.2 (by rw [hr, hk.1]; exact rne), h2]
        simp; omega
      · exact h
    obtain ⟨q1, q2, q3, q4, q5, q6⟩ := hL
    have hmk : mkM (btE e) l = (p.2.2.2.2.1, p.2.2.2.2.2.1, ()) := by
      unfold mkM; rw [if_neg (by rw [hr]; omega), if_neg cm, hr, q3]; rfl
    refine ⟨fun _ => ⟨?_, q2⟩, fun h => absurd (hr.symm.trans h) rne⟩
    unfold fwS
    rw [hmk, hr, q4, q5, q6, hm]

end Go.Proofs.YtnjmfbjgcfnanaaGreat
