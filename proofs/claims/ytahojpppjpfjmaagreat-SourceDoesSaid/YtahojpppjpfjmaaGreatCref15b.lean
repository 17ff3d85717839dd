/- Contracts of the document's layer 15: an election beats, hears, tells its mark. Conditions: what an election keeps (EI). -/
import Derived.Test.YtahojpppjpfjmaaGreatCref15
namespace Go.Proofs.YtahojpppjpfjmaaGreat
open Go.Eng Go
set_option linter.unusedVariables false
set_option linter.unusedSimpArgs false

/-! ### what an election keeps is kept -/
theorem EI.new {me r0 r1 boot : Int} (h0 : 0 ≤ me) (h1 : me < 64) (h2 : elG r0 r1 = true) (hb : U16 boot) : EI ⟨me, r0, r1, boot, 0, -1, 0, 0⟩ [] := by
  have h2 := elG_iff.1 h2
  exact ⟨h0, h1, by dsimp only; omega, by dsimp only; omega, by dsimp only; omega, by dsimp only; omega, by dsimp only; omega, fun h => by dsimp only at h; omega, hb, by show U16 0; unfold U16; omega, fun k m h => by cases h⟩
theorem EI.beat {e : El} {l : MkL} (h : EI e l) : EI (btE e) l := by
  obtain ⟨a0, a1, a2, a3, a4, a5, a6, a7, a8, a9, a10⟩ := h
  unfold btE
  by_cases c : mine e = true
  · rw [if_pos c]
    have wq : IntKind.wrap .i64 (e.quiet - 1) = e.quiet - 1 := w64_in (by unfold I64; omega)
    refine ⟨a0, a1, a2, a3, a4, ?_, a6, a7, a8, a9, a10⟩
    show 0 ≤ (if 0 > IntKind.wrap .i64 (e.quiet - 1) then 0 else IntKind.wrap .i64 (e.quiet - 1)) ∧ (if 0 > IntKind.wrap .i64 (e.quiet - 1) then 0 else IntKind.wrap .i64 (e.quiet - 1)) ≤ 1000
    rw [wq]
    by_cases d : 0 > e.quiet - 1
    · rw [if_pos d]; omega
    · rw [if_neg d]; omega
  · rw [if_neg c]
    have wb : IntKind.wrap .i64 (e.beats + 1) = e.beats + 1 := w64_in (by unfold I64; omega)
    rw [wb]
    by_cases d : e.beats + 1 < e.tmo
    · rw [if_pos d]
      exact ⟨a0, a1, a2, a3, by show 0 ≤ e.beats + 1 ∧ e.beats + 1 ≤ 1000; omega, a5, a6, a7, a8, a9, a10⟩
    · rw [if_neg d]
      exact ⟨a0, a1, a2, a3, by show (0 : Int) ≤ 0 ∧ (0 : Int) ≤ 1000; omega, a3, by show -1 ≤ e.me ∧ e.me ≤ e.me; omega, fun _ h => absurd rfl h, a8, a9, a10⟩
theorem EI.isE {e : El} {l : MkL} (h : EI e l) : EI (isE e) l := by
  unfold Go.Proofs.YtahojpppjpfjmaaGreat.isE
  split
  · exact ⟨h.me0, h.me1, h.tmo, h.ign, h.beats, h.quiet, h.root, h.known, h.boot, by show U16 (IntKind.wrap .u16 _); rw [wu16]; unfold U16; omega, h.marks⟩
  · exact h
theorem EI.b2e {e : El} {l : MkL} (h : EI e l) (loc : Int) : EI (b2e e loc) l := by
  unfold Go.Proofs.YtahojpppjpfjmaaGreat.b2e
  split
  · exact h.beat.isE
  · exact h.beat
theorem EI.hear {e : El} {l : MkL} (h : EI e l) {root : Int} {m : Tvs MK} (h0 : 0 ≤ root) (h1 : root < e.me) (hm : U16 m.1 ∧ U16 m.2.1) : EI (hrE e root) (mset l root m) := by
  refine ⟨h.me0, h.me1, h.tmo, h.ign, by show (0 : Int) ≤ 0 ∧ (0 : Int) ≤ 1000; omega, by show (0 : Int) ≤ 0 ∧ (0 : Int) ≤ 1000; omega, by show -1 ≤ root ∧ root ≤ e.me; omega, fun _ _ => ?_, h.boot, h.seq, fun k x hx => ?_⟩
  · rw [mget_mset]; show (if root = root then some m else mget l root).isSome = true; rw [if_pos rfl]; rfl
  · rw [mget_mset] at hx
    by_cases c : k = root
    · rw [if_pos c] at hx; injection hx with hx; rw [← hx]; exact hm
    · rw [if_neg c] at hx; exact h.marks k x hx
theorem EI.boot' {e : El} {l : MkL} (h : EI e l) {boot : Int} (hb : U16 boot) : EI (bootE e boot) [] :=
  ⟨h.me0, h.me1, h.tmo, h.ign, by show (0 : Int) ≤ 0 ∧ (0 : Int) ≤ 1000; omega, by show (0 : Int) ≤ 0 ∧ (0 : Int) ≤ 1000; omega, by show (-1 : Int) ≤ -1 ∧ -1 ≤ e.me; have := h.me0; omega, fun h => by have h : (0 : Int) ≤ -1 := h; omega, hb, by show U16 0; unfold U16; omega, fun k m h => by cases h⟩

/-! ### the document's functions -/
theorem ref15_Good.cl {me r0 r1 : Int} {w : World} {k : TR [(false, [.b])] → World → Prop} (h : k ((decide (0 ≤ me) && decide (me < 64) && elG r0 r1, ()), ()) w) : clS Tryz.prog F.ref15_Good [.int .i64 me, .int .i64 r0, .int .i64 r1] w false [(false, [.b])] k := by
  refine ref15_Good.ok ?_
  unfold ref15_Good.wp
  have key : ∀ b : Bool, (b = true ↔ 0 ≤ me ∧ me < 64 ∧ 1 ≤ r0 ∧ r0 ≤ 1000 ∧ 0 ≤ r1 ∧ r1 ≤ 1000) → k ((b, ()), ()) w := fun b hb => by
    have : b = (decide (0 ≤ me) && decide (me < 64) && elG r0 r1) := by rw [Bool.eq_iff_iff, hb]; simp [elG_iff, and_assoc]
    rw [this]; exact h
  refine brD (fun c1 => brD (fun c2 => brD (fun c3 => brD (fun c4 => brD (fun c5 => key _ ?_) fun c5 => key _ ?_) fun c4 => key _ ?_) fun c3 => key _ ?_) fun c2 => key _ ?_) fun c1 => key _ ?_ <;> simp <;> omega

set_option maxRecDepth 100000 in
theorem ref15_New.cl {me r0 r1 boot : Int} {w : World} {k : TR [(false, [.p])] → World → Prop} (h : ∀ b w', w.heap.size ≤ b → Blk w' b (r15 ⟨me, r0, r1, boot, 0, -1, 0, 0⟩ []) → Gro w w' → k ((some ⟨b, 0, none⟩, ()), ()) w') :
    clS Tryz.prog F.ref15_New [.int .i64 me, .int .i64 r0, .int .i64 r1, .int .u16 boot] w false [(false, [.p])] k := by
  refine ref15_New.ok ?_
  unfold ref15_New.wp
  refine alK_by fun b w2 e k1 u1 => h b w2 (by omega) ?_ u1
  have e2 : r15 ⟨me, r0, r1, boot, 0, -1, 0, 0⟩ [] = rc ⟨me, r0, r1, boot, 0, -1, 0, 0⟩ [] 0 :: rc ⟨me, r0, r1, boot, 0, -1, 0, 0⟩ [] 1 :: rc ⟨me, r0, r1, boot, 0, -1, 0, 0⟩ [] 2 :: rc ⟨me, r0, r1, boot, 0, -1, 0, 0⟩ [] 3 :: rc ⟨me, r0, r1, boot, 0, -1, 0, 0⟩ [] 4 :: rc ⟨me, r0, r1, boot, 0, -1, 0, 0⟩ [] 5 :: rc ⟨me, r0, r1, boot, 0, -1, 0, 0⟩ [] 6 :: rc ⟨me, r0, r1, boot, 0, -1, 0, 0⟩ [] 7 :: (List.replicate 64 (Value.bool false) ++ List.replicate 128 (Value.int .u16 0)) := by
    refine (r15_eq (by simp) fun i hi => ?_).symm
    match i, hi with
    | 0, _ => rfl
    | 1, _ => rfl
    | 2, _ => rfl
    | 3, _ => rfl
    | 4, _ => rfl
    | 5, _ => rfl
    | 6, _ => rfl
    | 7, _ => rfl
    | j + 8, hj =>
      rw [rc8]
      show (List.replicate 64 (Value.bool false) ++ List.replicate 128 (Value.int .u16 0))[j]? = _
      by_cases d1 : j < 64
      · rw [if_pos d1, List.getElem?_append_left (by simpa using d1), List.getElem?_replicate, if_pos d1]; rfl
      · rw [if_neg d1, List.getElem?_append_right (by simp; omega), List.getElem?_replicate, if_pos (by simp; omega)]
        by_cases d2 : j < 128
        · rw [if_pos d2]; rfl
        · rw [if_neg d2]; rfl
  rw [e2]
  exact k1

set_option maxRecDepth 20000 in
theorem ref15_Elect_Beat.cl {b : Nat} {e : El} {l : MkL} {w : World} (hB : Blk w b (r15 e l)) (hI : EI e l) {k : TR [(false, [.b])] → World → Prop}
    (h : ∀ w', Blk w' b (r15 (btE e) l) → Upd (fun z => z = b) w w' → k ((btB e, ()), ()) w') :
    clS Tryz.prog F.ref15_Elect_Beat [.pointer (some ⟨b, 0, none⟩)] w false [(false, [.b])] k := by
  refine ref15_Elect_Beat.ok ?_
  unfold ref15_Elect_Beat.wp
  have hq := hI.quiet
  have hb := hI.beats
  have wq : IntKind.wrap .i64 (e.quiet - 1) = e.quiet - 1 := w64_in (by unfold I64; omega)
  have wb : IntKind.wrap .i64 (e.beats + 1) = e.beats + 1 := w64_in (by unfold I64; omega)
  unfold btE btB at h
  rw [wq, wb] at h
  rw [drK_eq, ncK_eq]
  have B := hB.drew
  have U0 : Upd (fun z => z = b) w w.drew := Upd.of_gro (Gro.drew w)
  refine B.c1 5 (x := e.root) (r15_get (by decide)) ?_
  rw [ncK_eq]
  refine B.c0 (x := e.me) (r15_get (by decide)) (brE (fun c => ?_) fun c => ?_)
  · have c : mine e = true := mine_of c
    rw [if_pos c, if_pos c] at h
    rw [ncK_eq]
    refine B.c1 7 (x := e.quiet) (r15_get (by decide)) (brD (fun d => ?_) fun d => ?_)
    · have d : e.quiet > 0 := d
      rw [if_neg (by omega)] at h
      rw [ncK_eq]
      refine B.c1 7 (x := e.quiet) (r15_get (by decide)) ?_
      rw [ncK_eq, wq]
      refine B.sN 7 _ (by simp [r15_len]) rfl fun w11 k11 u11 => h w11 ?_ (Upd.trans U0 u11 fun _ _ h => h)
      have : (r15 e l).set 7 (.int .i64 (e.quiet - 1)) = r15 { e with quiet := e.quiet - 1 } l := r15_set (by decide) rfl fun i hi hn => by
        match i, hn with
        | 0, _ => rfl
        | 1, _ => rfl
        | 2, _ => rfl
        | 3, _ => rfl
        | 4, _ => rfl
        | 5, _ => rfl
        | 6, _ => rfl
        | 7, h => exact absurd rfl h
        | j + 8, _ => rfl
      rw [← this]; exact k11
    · have d : ¬ e.quiet > 0 := d
      have q0 : e.quiet = 0 := by omega
      refine h _ ?_ U0
      rw [q0, if_pos (by decide)]
      have : ({ e with quiet := 0 } : El) = e := by rw [← q0]
      rw [this]; exact B
  · have c : ¬ mine e = true := fun h => c (mine_root h)
    rw [if_neg c, if_neg c] at h
    rw [ncK_eq]
    refine B.c1 6 (x := e.beats) (r15_get (by decide)) ?_
    rw [ncK_eq, wb]
    refine B.sN 6 _ (by simp [r15_len]) rfl fun w15 k15 u15 => ?_
    have k15 : Blk w15 b (r15 { e with beats := e.beats + 1 } l) := by
      have : (r15 e l).set 6 (.int .i64 (e.beats + 1)) = r15 { e with beats := e.beats + 1 } l := r15_set (by decide) rfl fun i hi hn => by
        match i, hn with
        | 0, _ => rfl
        | 1, _ => rfl
        | 2, _ => rfl
        | 3, _ => rfl
        | 4, _ => rfl
        | 5, _ => rfl
        | 6, h => exact absurd rfl h
        | 7, _ => rfl
        | j + 8, _ => rfl
      rw [← this]; exact k15
    have U15 : Upd (fun z => z = b) w w15 := Upd.trans U0 u15 fun _ _ h => h
    rw [drK_eq, ncK_eq]
    refine k15.drew.c1 6 (x := e.beats + 1) (r15_get (by decide)) ?_
    rw [ncK_eq]
    refine k15.drew.c1 1 (x := e.tmo) (r15_get (by decide)) (brD (fun d => ?_) fun d => ?_)
    · have d : e.beats + 1 < e.tmo := d
      rw [if_pos d, if_pos d] at h
      exact h _ k15.drew U15.drew
    · have d : ¬ e.beats + 1 < e.tmo := d
      rw [if_neg d, if_neg d] at h
      rw [ncK_eq]
      refine k15.drew.c0 (x := e.me) (r15_get (by decide)) ?_
      rw [ncK_eq]
      refine k15.drew.sN 5 _ (by simp [r15_len]) rfl fun w24 k24 u24 => ?_
      rw [ncK_eq]
      refine k24.sN 6 _ (by simp [r15_len, splice]) rfl fun w26 k26 u26 => ?_
      rw [ncK_eq]
      have eq : (((r15 { e with beats := e.beats + 1 } l).set 5 (.int .i64 e.me)).set 6 (.int .i64 0)) = r15 { e with root := e.me, beats := 0 } l := by
        refine r15_eq (by simp [r15_len]) fun i hi => set_get (by simp [r15_len]) (fun c6 => set_get (by simp [r15_len]) (fun c5 => ?_) fun c => by rw [c]; rfl) fun c => by rw [c]; rfl
        rw [r15_get hi]
        match i, c5, c6 with
        | 0, _, _ => rfl
        | 1, _, _ => rfl
        | 2, _, _ => rfl
        | 3, _, _ => rfl
        | 4, _, _ => rfl
        | 5, h, _ => exact absurd rfl h
        | 6, _, h => exact absurd rfl h
        | 7, _, _ => rfl
        | j + 8, _, _ => rfl
      have k26 : Blk w26 b (r15 { e with root := e.me, beats := 0 } l) := by rw [← eq]; exact k26
      refine k26.c1 2 (x := e.ign) (r15_get (by decide)) ?_
      rw [ncK_eq]
      refine k26.sN 7 _ (by simp [r15_len]) rfl fun w30 k30 u30 => h w30 ?_ ?_
      · have : (r15 { e with root := e.me, beats := 0 } l).set 7 (.int .i64 e.ign) = r15 { e with root := e.me, beats := 0, quiet := e.ign } l := r15_set (by decide) rfl fun i hi hn => by
          match i, hn with
          | 0, _ => rfl
          | 1, _ => rfl
          | 2, _ => rfl
          | 3, _ => rfl
          | 4, _ => rfl
          | 5, _ => rfl
          | 6, _ => rfl
          | 7, h => exact absurd rfl h
          | j + 8, _ => rfl
        rw [← this]; exact k30
      · exact Upd.trans (Upd.trans (Upd.trans U15.drew u24 fun _ _ h => h) u26 fun _ _ h => h) u30 fun _ _ h => h

set_option maxRecDepth 20000 in
theorem ref15_Elect_Mark.cl {b : Nat} {e : El} {l : MkL} {w : World} (hB : Blk w b (r15 e l)) (hI : EI e l) {k : TR [(false, [.i .u16]), (false, [.i .u16]), (false, [.b])] → World → Prop}
    (h : ∀ w', Gro w w' → k (((mkM e l).1, ()), ((mkM e l).2.1, ()), (mkB e, ()), ()) w') :
    clS Tryz.prog F.ref15_Elect_Mark [.pointer (some ⟨b, 0, none⟩)] w true [(false, [.i .u16]), (false, [.i .u16]), (false, [.b])] k := by
  refine ref15_Elect_Mark.ok ?_
  unfold ref15_Elect_Mark.wp
  unfold mkM mkB at h
  rw [ncK_eq]
  refine hB.c1 5 (x := e.root) (r15_get (by decide)) (brD (fun c => ?_) fun c => ?_)
  · have c : e.root < 0 := c
    rw [if_pos c, if_pos c] at h
    exact h w (Gro.refl w)
  have c : ¬ e.root < 0 := c
  rw [if_neg c, if_neg c] at h
  rw [drK_eq, ncK_eq]
  have B := hB.drew
  refine B.c1 5 (x := e.root) (r15_get (by decide)) ?_
  rw [ncK_eq]
  refine B.c0 (x := e.me) (r15_get (by decide)) (brE (fun d => ?_) fun d => ?_)
  · have d : mine e = true := mine_of d
    rw [if_pos d, if_pos d] at h
    rw [drK_eq, ncK_eq]
    refine B.drew.c1 3 (x := e.boot) (r15_get (by decide)) ?_
    rw [ncK_eq]
    refine B.drew.c1 4 (x := e.seq) (r15_get (by decide)) ?_
    rw [ncK_eq]
    exact B.drew.c1 4 (x := e.seq) (r15_get (by decide)) (h _ ((Gro.drew w).trans (Gro.drew _)))
  · have d : ¬ mine e = true := fun h => d (mine_root h)
    rw [if_neg d, if_neg d] at h
    rw [drK_eq, ncK_eq]
    refine B.drew.c1 5 (x := e.root) (r15_get (by decide)) ?_
    rw [ncK_eq]
    have hr := hI.root
    have hm := hI.me1
    obtain ⟨n, hn⟩ : ∃ n : Nat, e.root = n := ⟨e.root.toNat, by omega⟩
    rw [hn] at h ⊢
    have t1 : ((n : Int)).toNat * 1 = n := by simp
    rw [ixK_eq (show 0 ≤ (n : Int) ∧ (n : Int) < ((64 : Nat) : Int) by omega)]
    refine B.drew.c2 72 _ (c := .i .u16) (x := (mk l n).1) (by rw [t1]; exact r15_bo (by omega)) ?_
    rw [ncK_eq]
    refine B.drew.c1 5 (x := e.root) (r15_get (by decide)) ?_
    rw [ncK_eq, hn, ixK_eq (show 0 ≤ (n : Int) ∧ (n : Int) < ((64 : Nat) : Int) by omega)]
    exact B.drew.c2 136 _ (c := .i .u16) (x := (mk l n).2.1) (by rw [t1]; exact r15_sq (by omega)) (h _ ((Gro.drew w).trans (Gro.drew _)))

set_option maxRecDepth 20000 in
set_option maxHeartbeats 1000000 in
theorem ref15_Elect_Hear.cl {b : Nat} {e : El} {l : MkL} {root : Int} {m : Tvs MK} {w : World} (hB : Blk w b (r15 e l)) (hI : EI e l) (hm : U16 m.1 ∧ U16 m.2.1) {k : TR [(false, [.i .i64])] → World → Prop}
    (h0 : hrN e l root m = 0 → ∀ w', Gro w w' → k ((0, ()), ()) w')
    (h1 : ∀ c, hrN e l root m = c → c ≠ 0 → ∀ w', Blk w' b (r15 (hrE e root) (mset l root m)) → Upd (fun z => z = b) w w' → k ((c, ()), ()) w') :
    clS Tryz.prog F.ref15_Elect_Hear [.pointer (some ⟨b, 0, none⟩), .int .i64 root, .int .u16 m.1, .int .u16 m.2.1] w false [(false, [.i .i64])] k := by
  refine ref15_Elect_Hear.ok ?_
  unfold ref15_Elect_Hear.wp
  have no : mayE e root = false → hrN e l root m = 0 := fun h => by unfold hrN; rw [if_pos h]
  refine brD (fun c => ?_) fun c0 => ?_
  · have c : root < 0 := c
    exact h0 (no (by unfold mayE; rw [if_pos (.inl c)])) w (Gro.refl w)
  have c0 : ¬ root < 0 := c0
  rw [ncK_eq]
  refine hB.c0 (x := e.me) (r15_get (by decide)) (brD (fun c => ?_) fun c1 => ?_)
  · have c : root ≥ e.me := c
    exact h0 (no (by unfold mayE; rw [if_pos (.inr c)])) w (Gro.refl w)
  have c1 : ¬ root ≥ e.me := c1
  have hq := hI.quiet
  have hr := hI.root
  have hm1 := hI.me1
  refine CutT.by (fun _ w' => Gro w w' ∧ (mine e = true → e.quiet = 0)) ?_ ?_
  · rw [drK_eq, ncK_eq]
    have B := hB.drew
    refine B.c1 5 (x := e.root) (r15_get (by decide)) ?_
    rw [ncK_eq]
    refine B.c0 (x := e.me) (r15_get (by decide)) (brE (fun d => ?_) fun d => ⟨Gro.drew w, fun h => absurd (mine_root h) d⟩)
    rw [ncK_eq]
    refine B.c1 7 (x := e.quiet) (r15_get (by decide)) (brD (fun q => ?_) fun q => ⟨Gro.drew w, fun _ => by have q : ¬ e.quiet > 0 := q; omega⟩)
    have q : e.quiet > 0 := q
    refine h0 (no ?_) _ (Gro.drew w)
    unfold mayE
    rw [if_neg (by omega), if_pos (mine_of d)]
    exact beq_eq_false_iff_ne.2 (by omega)
  rintro _ w5 ⟨g5, hc1⟩ _
  have B5 := hB.gro g5
  refine CutT.by (fun _ w' => Gro w w' ∧ (0 ≤ e.root → e.root ≠ e.me → root ≤ e.root)) ?_ ?_
  · rw [drK_eq, ncK_eq]
    have B := B5.drew
    have g6 := g5.trans (Gro.drew w5)
    refine B.c1 5 (x := e.root) (r15_get (by decide)) (brD (fun d => ?_) fun d => ⟨g6, fun h => absurd h d⟩)
    have d : e.root ≥ 0 := d
    rw [ncK_eq]
    refine B.c1 5 (x := e.root) (r15_get (by decide)) ?_
    rw [ncK_eq]
    refine B.c0 (x := e.me) (r15_get (by decide)) (brN (fun d2 => ?_) fun d2 => ⟨g6, fun _ h => absurd d2 h⟩)
    rw [ncK_eq]
    refine B.c1 5 (x := e.root) (r15_get (by decide)) (brD (fun d3 => ?_) fun d3 => ⟨g6, fun _ _ => by have d3 : ¬ root > e.root := d3; omega⟩)
    have d3 : root > e.root := d3
    have d2 : e.root ≠ e.me := d2
    refine h0 (no ?_) _ g6
    unfold mayE
    rw [if_neg (by omega), if_neg (fun h => d2 (mine_root h)), if_neg (by omega)]
    exact decide_eq_false (by omega)
  rintro _ w15 ⟨g15, hc2⟩ _
  have B15 := hB.gro g15
  have cm : ¬ mayE e root = false := by
    have : mayE e root = true := by
      unfold mayE
      rw [if_neg (by omega)]
      by_cases cmi : mine e = true
      · rw [if_pos cmi, hc1 cmi]; rfl
      · rw [if_neg cmi]
        by_cases cr : e.root < 0
        · rw [if_pos cr]
        · rw [if_neg cr]; exact decide_eq_true (hc2 (by omega) fun h => cmi (mine_of h))
    rw [this]; simp
  obtain ⟨n, hn⟩ : ∃ n : Nat, root = n := ⟨root.toNat, by omega⟩
  subst hn
  have t1 : ((n : Int)).toNat * 1 = n := by simp
  have hn64 : n < 64 := by omega
  have ix : ∀ {a : Addr} {k : Addr → Prop}, k a → ixK (some a) 64 (n : Int) k := fun hk => by rw [ixK_eq (show 0 ≤ (n : Int) ∧ (n : Int) < ((64 : Nat) : Int) by omega)]; exact hk
  refine CutT.by (fun _ w' => Gro w w' ∧ frE l n m = true) ?_ ?_
  · rw [drK_eq, ncK_eq]
    have B := B15.drew
    have g28 := g15.trans (Gro.drew w15)
    refine ix (B.c2 8 _ (c := .b) (x := kn l n) (by rw [t1]; exact r15_kn hn64) (brC (fun d => ?_) fun d => ⟨g28, ?_⟩))
    · have d : (mget l (n : Int)).isSome = true := d
      obtain ⟨o, ho⟩ := Option.isSome_iff_exists.1 d
      have hmk : mk l n = o := by unfold mk; rw [ho]; rfl
      rw [ncK_eq]
      refine ix (B.c2 72 _ (c := .i .u16) (x := o.1) (by rw [t1, ← hmk]; exact r15_bo hn64) ?_)
      rw [ncK_eq]
      refine ix (B.c2 136 _ (c := .i .u16) (x := o.2.1) (by rw [t1, ← hmk]; exact r15_sq hn64) ?_)
      refine ref15_Newer.cl hm (hI.marks _ _ ho) ⟨⟨B.hold2 (Gro.refl _) (fun x => x) 8 _ (by rw [t1, r15_len]; omega), trivial⟩, brNot (fun q => ?_) fun q => ⟨g28, ?_⟩⟩
      · have q : newM m o = false := q
        refine h0 ?_ _ g28
        unfold hrN frE
        rw [if_neg cm, ho]
        dsimp only
        rw [if_pos q]
      · have q : newM m o = true := q
        unfold frE; rw [ho]; exact q
    · have d : (mget l (n : Int)).isSome = false := d
      unfold frE
      cases ho : mget l (n : Int) with
      | none => rfl
      | some o => rw [ho] at d; cases d
  rintro _ w27 ⟨g27, hf⟩ _
  have B27 := hB.gro g27
  have hN : hrN e l n m = if e.root ≠ (n : Int) then 2 else if ((mget l (n : Int)).getD (0, 0, ())).1 ≠ m.1 then 2 else 1 := by
    unfold hrN; rw [if_neg cm, if_neg (by rw [hf]; simp)]
  refine CutT.by (fun z w' => w' = w27 ∧ hrN e l n m = z.1 ∧ z.1 ≠ 0) ?_ ?_
  · rw [ncK_eq]
    refine B27.c1 5 (x := e.root) (r15_get (by decide)) (brN (fun d => ⟨rfl, by rw [hN, if_pos d], by decide⟩) fun d => ?_)
    have d : e.root = (n : Int) := d
    rw [if_neg (fun h => h d)] at hN
    rw [ncK_eq]
    have hk : kn l n = true := by unfold kn; rw [← d]; exact hI.known (by omega) (by omega)
    refine ix (B27.c2 8 _ (c := .b) (x := kn l n) (by rw [t1]; exact r15_kn hn64) (brF (by rw [hk]; rfl) ?_))
    rw [ncK_eq]
    refine ix (B27.c2 72 _ (c := .i .u16) (x := (mk l n).1) (by rw [t1]; exact r15_bo hn64) (brN (fun d2 => ⟨rfl, by rw [hN]; exact if_pos d2, by decide⟩) fun d2 => ⟨rfl, by rw [hN]; exact if_neg (fun h => h d2), by decide⟩))
  rintro ⟨z, _⟩ _ ⟨rfl, hz, hz0⟩ _
  dsimp only at hz hz0
  rw [ncK_eq]
  have rl : ∀ p, p ≤ 136 → p + ((n : Int)).toNat * 1 + 1 ≤ 200 := fun p hp => by rw [t1]; omega
  refine ix (Blk.sN2 8 _ _ B27 (by rw [r15_len]; exact rl 8 (by decide)) rfl fun w53 k53 u53 => ?_)
  rw [ncK_eq]
  refine ix (Blk.sN2 72 _ _ k53 (by rw [splice_length, r15_len]; exact rl 72 (by decide)) rfl fun w56 k56 u56 => ?_)
  rw [ncK_eq]
  refine ix (Blk.sN2 136 _ _ k56 (by rw [splice_length, splice_length, r15_len]; exact rl 136 (by decide)) rfl fun w59 k59 u59 => ?_)
  rw [ncK_eq]
  refine k59.sN 5 _ (by simp [splice_length, r15_len]) rfl fun w61 k61 u61 => ?_
  rw [ncK_eq]
  refine k61.sN 6 _ (by simp [splice_length, r15_len]) rfl fun w63 k63 u63 => ?_
  rw [ncK_eq]
  refine k63.sN 7 _ (by simp [splice_length, r15_len]) rfl fun w65 k65 u65 => ?_
  rw [t1] at k65
  refine h1 z hz hz0 w65 ?_ ?_
  · rw [← r15_hear hn64]; exact k65
  · exact Upd.trans (Upd.trans (Upd.trans (Upd.trans (Upd.trans (Upd.trans (Upd.of_gro g27) u53 fun _ _ h => h) u56 fun _ _ h => h) u59 fun _ _ h => h) u61 fun _ _ h => h) u63 fun _ _ h => h) u65 fun _ _ h => h
end Go.Proofs.YtahojpppjpfjmaaGreat
