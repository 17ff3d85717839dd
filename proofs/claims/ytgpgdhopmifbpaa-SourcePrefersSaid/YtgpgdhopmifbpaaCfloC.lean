/- The law FloodCounts. Conditions: none. -/
import Derived.Test.YtgpgdhopmifbpaaCflo6
namespace Go.Proofs.Ytgpgdhopmifbpaa
open Go.Eng Go
set_option linter.unusedVariables false
set_option linter.unusedSimpArgs false

theorem brS {x y : Int} {A B : Prop} (h : x = y) (k : B) : brB (x != y) A B := by subst h; exact brF (by simp) k
set_option maxRecDepth 20000 in
set_option maxHeartbeats 1000000 in
theorem law16_FloodCounts.cl {me boot : Int} {s : Sl} {xs : List Int} {w : World} (hR : Row w s 1 (xs.map (Value.int .i64))) :
    clS Try.prog F.law16_FloodCounts [.int .i64 me, .int .u16 boot, .slice s.1 s.2.1 s.2.2] w false [(false, [.b])] (Holds w) := by
  refine law16_FloodCounts.ok ?_
  unfold law16_FloodCounts.wp
  refine law16_alive.cl fun w2 u2 => brF rfl (brD (fun _ => holds u2 rfl) fun cl => ?_)
  have cl : ¬ (s.2.1 : Int) > 100 := cl
  have hl := hR.ilen
  refine law16_rules.cl fun w4 u4 => ?_
  have g4 := u2.trans u4
  refine flood_New.cw (fun c w6 u6 => ?_) fun m0 m1 hg O bf be w6 F6 hO u6 => ?_
  · refine brT rfl (brT rfl (brD (fun _ => holds (g4.trans u6) rfl) fun c1 => holds (g4.trans u6) ?_))
    have c1 : ¬ me < 0 := c1
    show decide (me > 63) = true
    rw [decide_eq_true_iff]
    rcases c with c | c | c
    · omega
    · omega
    · exact absurd c (by decide)
  refine brF rfl (flood_Flood_Boot.cw F6 fun w8 O8 F8 x8 => ?_)
  have g6 := g4.trans u6
  have hO' : ∀ z, O z → w.heap.size ≤ z := fun z hz => Nat.le_trans g4.size (hO z hz)
  refine LoopT.by (fun z W => 0 ≤ z.2.1 ∧ z.2.1 ≤ xs.length ∧ Gro w W ∧ ∃ (O' : Nat → Prop) (f : Fl) (e : El) (es : List E3), FW W O' bf be f e [] es ∧ (∀ z, O' z → w.heap.size ≤ z) ∧ f.me = me ∧ e.me = me ∧ e.tmo = 1 ∧ e.ign = 0 ∧ e.boot = boot ∧ e.seq = z.1 ∧ ((e.root = -1 ∧ e.beats = 0) ∨ e.root = me))
    (fun z => ((xs.length : Int) - z.2.1).toNat) ⟨by decide, show (0 : Int) ≤ _ by omega, Upd.trans g6 x8.u fun i hi h => by have := hO' i h; omega, O8, _, _, [], F8, fun z hz => (x8.sub z hz).elim (hO' z) fun h => Nat.le_trans g6.size h, rfl, rfl, rfl, rfl, rfl, rfl, .inl ⟨rfl, rfl⟩⟩ ?_
  rintro ⟨n, i, _⟩ W ⟨i0, i1, g, O', f, e, es, hF, hO1, q1, q2, q3, q4, q5, q6, q7⟩ _
  dsimp only at i0 i1 q6
  refine brD (fun c => ?_) fun c => holds g rfl
  have c : i < (s.2.1 : Int) := c
  have hi : i.toNat < xs.length := by omega
  have hx : xs[i.toNat]? = some xs[i.toNat] := List.getElem?_eq_getElem hi
  generalize xs[i.toNat] = x at hx
  refine (hR.gro g).ix (show i = (i.toNat : Int) by omega) hx ?_
  refine flood_Flood_Beat.cw hF (loc := x) fun w15 O15 F15 x15 => ?_
  have hm : mine (btE e) = true := by
    unfold btE mine
    have hw : IntKind.wrap .i64 ((0 : Int) + 1) = 1 := by decide
    by_cases hr : e.root = me
    · rw [if_pos (by rw [hr, q2, beq_iff_eq])]
      show (e.root == e.me) = true
      rw [hr, q2, beq_iff_eq]
    · obtain ⟨r1, r2⟩ := q7.resolve_right hr
      rw [if_neg (by rw [q2, beq_iff_eq]; exact hr), r2, hw, q3, if_neg (by omega)]
      show (e.me == e.me) = true
      rw [beq_iff_eq]
  have hk : (btE e).me = e.me ∧ (btE e).tmo = e.tmo ∧ (btE e).ign = e.ign ∧ (btE e).boot = e.boot ∧ (btE e).seq = e.seq := by
    unfold btE; split
    · exact ⟨rfl, rfl, rfl, rfl, rfl⟩
    · split <;> exact ⟨rfl, rfl, rfl, rfl, rfl⟩
  have hf : (b1f f e).me = me := by unfold b1f; split <;> exact q1
  have hwd : btW f e [] es x = ((me, me, boot, IntKind.wrap .u16 (n + 1), 0, x), true) := by
    unfold btW wdF
    rw [if_pos hm, hf]
    unfold isM
    rw [if_pos hm, hk.2.2.2.1, hk.2.2.2.2, q5, q6]
  have hm2 : mine (b2e e x) = true := by
    unfold b2e; split
    · unfold isE; rw [if_pos hm]; exact hm
    · exact hm
  have hF15 := F15
  have X15 : Gro w w15 := Upd.trans g x15.u fun i hi h => by have := hO1 i h; omega
  have hO15 : ∀ z, O15 z → w.heap.size ≤ z := fun z hz => (x15.sub z hz).elim (hO1 z) fun h => Nat.le_trans g.size h
  have root : ∀ e' : El, mine e' = true → e'.root = e'.me := fun e' h => by unfold mine at h; rwa [beq_iff_eq] at h
  have hb : btF f e [] es x = if inT x = true then ((me, me, boot, IntKind.wrap .u16 (n + 1), 0, x), true) else ((0, 0, 0, 0, 0, 0), false) := by
    unfold btF; rw [hwd]; rfl
  generalize btF f e [] es x = Z at *
  have hb2 : (b2e e x).me = me ∧ (b2e e x).tmo = 1 ∧ (b2e e x).ign = 0 ∧ (b2e e x).boot = boot ∧ (b2e e x).seq = (if inT x = true then IntKind.wrap .u16 (n + 1) else n) := by
    unfold b2e
    by_cases hin : inT x = true
    · rw [if_pos hin, if_pos hin]
      unfold isE; rw [if_pos hm]
      refine ⟨hk.1.trans q2, hk.2.1.trans q3, hk.2.2.1.trans q4, hk.2.2.2.1.trans q5, ?_⟩
      show IntKind.wrap .u16 ((btE e).seq + 1) = _
      rw [hk.2.2.2.2, q6]
    · rw [if_neg hin, if_neg hin]
      exact ⟨hk.1.trans q2, hk.2.1.trans q3, hk.2.2.1.trans q4, hk.2.2.2.1.trans q5, hk.2.2.2.2.trans q6⟩
  generalize b2e e x = e2 at *
  refine alK_by fun p16 w17 e16 k16 u16 => k16.sta _ rfl rfl fun w18 k18 u18 => ?_
  have g18 : Gro w15 w18 := Gro.fresh (Gro.refl _) u16 u18 e16
  rw [ncK_eq]
  have F18 := F15.gro g18
  refine F18.elect (elect_Elect_Mine.cw F18 fun w22 u22 => brF (by rw [hm2]; rfl) ?_)
  have F22 := F18.gro u22
  refine flood_Flood_Synced.cw F22 fun w24 u24 => ?_
  have hs : synF (b1f f e) e2 (b1l e es).length = true := by unfold synF; rw [show (e2.root == e2.me) = true from hm2]; rfl
  refine brF (by rw [hs]; rfl) ?_
  have G24 := ((X15.trans g18).trans u22).trans u24
  have F24 := F22.gro u24
  have hi1 : IntKind.wrap .i64 (i + 1) = i + 1 := w64_in (by unfold I64; omega)
  have fin : ∀ m, (if inT x = true then IntKind.wrap .u16 (n + 1) else n) = m → 0 ≤ IntKind.wrap .i64 (i + 1) ∧ IntKind.wrap .i64 (i + 1) ≤ xs.length ∧ Gro w w24 ∧ (∃ (O' : Nat → Prop) (f : Fl) (e : El) (es : List E3), FW w24 O' bf be f e [] es ∧ (∀ z, O' z → w.heap.size ≤ z) ∧ f.me = me ∧ e.me = me ∧ e.tmo = 1 ∧ e.ign = 0 ∧ e.boot = boot ∧ e.seq = m ∧ ((e.root = -1 ∧ e.beats = 0) ∨ e.root = me)) := fun m hm' => by
    rw [hi1]
    exact ⟨by omega, by omega, G24, O15, _, _, _, F24, hO15, hf, hb2.1, hb2.2.1, hb2.2.2.1, hb2.2.2.2.1, hb2.2.2.2.2.trans hm', .inr ((root _ hm2).trans hb2.1)⟩
  have dec : ((xs.length : Int) - IntKind.wrap .i64 (i + 1)).toNat < ((xs.length : Int) - i).toNat := by rw [hi1]; omega
  refine brD (fun c2 => ?_) fun c2 => brD (fun c3 => ?_) fun c3 => ?_
  · have hin := inT_no (.inl (show x < 0 from c2))
    rw [if_neg (by rw [hin]; simp)] at hb
    refine brF (by rw [hb]) ⟨?_, dec⟩
    exact fin n (by rw [if_neg (by rw [hin]; simp)])
  · have hin := inT_no (.inr (show x > 1125899906842624 from c3))
    rw [if_neg (by rw [hin]; simp)] at hb
    refine brF (by rw [hb]) ⟨?_, dec⟩
    exact fin n (by rw [if_neg (by rw [hin]; simp)])
  · have hin : inT x = true := inT_iff.2 ⟨by have c : ¬ x < 0 := c2; omega, by have c : ¬ x > 1125899906842624 := c3; omega⟩
    rw [if_pos hin] at hb
    rw [hb] at k18 ⊢
    have k24 := (k18.gro u22).gro u24
    refine brF rfl (k24.c1 3 rfl (brS rfl (k24.c1 2 rfl (brS rfl (k24.c1 4 rfl (brS rfl (k24.c1 5 rfl (brS rfl (k24.c1 1 rfl (brS rfl (k24.c0 rfl (brS rfl ⟨?_, dec⟩))))))))))))
    exact fin _ (by rw [if_pos hin])
end Go.Proofs.Ytgpgdhopmifbpaa
