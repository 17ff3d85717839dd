/- Contracts of the document's layer 15: an election with rows of 64. Conditions: what an election keeps (EI). -/
import Derived.Test.YtnjmfbjgcfnanaaGreatCfloS
namespace Go.Proofs.YtnjmfbjgcfnanaaGreat
open Go.Eng Go
set_option linter.unusedVariables false
set_option linter.unusedSimpArgs false

theorem nwr_refl (a : Int) : nwr a a = false := by
  unfold nwr; rw [Int.sub_self]; decide
theorem ref15_Newer.cl {m o : Tvs MK} (hm : U16 m.1 ∧ U16 m.2.1) (ho : U16 o.1 ∧ U16 o.2.1) {w : World} {k : TR [(false, [.b])] → World → Prop} (h : k ((newM m o, ()), ()) w) :
    clS Tryz.prog F.ref15_Newer [.int .u16 m.1, .int .u16 m.2.1, .int .u16 o.1, .int .u16 o.2.1] w false [(false, [.b])] k := by
  refine ref15_Newer.ok ?_
  unfold ref15_Newer.wp
  unfold newM at h
  refine brE (fun c => ?_) fun c => ?_
  · have c : m.1 = o.1 := c
    rw [if_neg (by rw [c, nwr_refl]; simp), if_pos c] at h
    exact ref02_Newer.cl hm.2 ho.2 h
  · have c : m.1 ≠ o.1 := c
    rw [if_neg c] at h
    refine ref02_Newer.cl hm.1 ho.1 ?_
    cases hn : nwr m.1 o.1
    · rw [if_neg (by rw [hn]; simp)] at h; exact h
    · rw [if_pos hn] at h; exact h

/-- what an election keeps -/
structure EI (e : El) (l : MkL) : Prop where
  me0 : 0 ≤ e.me
  me1 : e.me < 64
  tmo : 1 ≤ e.tmo ∧ e.tmo ≤ 1000
  ign : 0 ≤ e.ign ∧ e.ign ≤ 1000
  beats : 0 ≤ e.beats ∧ e.beats ≤ 1000
  quiet : 0 ≤ e.quiet ∧ e.quiet ≤ 1000
  root : -1 ≤ e.root ∧ e.root ≤ e.me
  known : 0 ≤ e.root → e.root ≠ e.me → (mget l e.root).isSome = true
  boot : U16 e.boot
  seq : U16 e.seq
  marks : ∀ (k : Int) (m : Tvs MK), mget l k = some m → U16 m.1 ∧ U16 m.2.1

def kn (l : MkL) (i : Nat) : Bool := (mget l (i : Int)).isSome
def mk (l : MkL) (i : Nat) : Tvs MK := (mget l (i : Int)).getD (0, 0, ())
def rc (e : El) (l : MkL) : Nat → Value
  | 0 => .int .i64 e.me
  | 1 => .int .i64 e.tmo
  | 2 => .int .i64 e.ign
  | 3 => .int .u16 e.boot
  | 4 => .int .u16 e.seq
  | 5 => .int .i64 e.root
  | 6 => .int .i64 e.beats
  | 7 => .int .i64 e.quiet
  | j + 8 => if j < 64 then .bool (kn l j) else if j < 128 then .int .u16 (mk l (j - 64)).1 else .int .u16 (mk l (j - 128)).2.1
theorem rc8 (e : El) (l : MkL) (j : Nat) : rc e l (j + 8) = if j < 64 then .bool (kn l j) else if j < 128 then .int .u16 (mk l (j - 64)).1 else .int .u16 (mk l (j - 128)).2.1 := rfl
def r15 (e : El) (l : MkL) : List Value := (List.range 200).map (rc e l)
theorem r15_len (e : El) (l : MkL) : (r15 e l).length = 200 := by unfold r15; rw [List.length_map, List.length_range]
theorem r15_get {e : El} {l : MkL} {j : Nat} (h : j < 200) : (r15 e l)[j]? = some (rc e l j) := by
  unfold r15; rw [List.getElem?_map, List.getElem?_range h]; rfl
theorem r15_kn {e : El} {l : MkL} {k : Nat} (h : k < 64) : (r15 e l)[8 + k]? = some (.bool (kn l k)) := by
  rw [r15_get (by omega), show 8 + k = k + 8 by omega]
  rw [rc8, if_pos h]
theorem r15_bo {e : El} {l : MkL} {k : Nat} (h : k < 64) : (r15 e l)[72 + k]? = some (.int .u16 (mk l k).1) := by
  rw [r15_get (by omega), show 72 + k = (k + 64) + 8 by omega]
  rw [rc8, if_neg (by omega), if_pos (by omega), Nat.add_sub_cancel]
theorem r15_sq {e : El} {l : MkL} {k : Nat} (h : k < 64) : (r15 e l)[136 + k]? = some (.int .u16 (mk l k).2.1) := by
  rw [r15_get (by omega), show 136 + k = (k + 128) + 8 by omega]
  rw [rc8, if_neg (by omega), if_neg (by omega), Nat.add_sub_cancel]
theorem r15_eq {cs : List Value} {e : El} {l : MkL} (hl : cs.length = 200) (h : ∀ i, i < 200 → cs[i]? = some (rc e l i)) : cs = r15 e l := by
  apply List.ext_getElem?
  intro i
  by_cases hi : i < 200
  · rw [h i hi, r15_get hi]
  · rw [List.getElem?_eq_none (by omega), List.getElem?_eq_none (by rw [r15_len]; omega)]
theorem set_get {cs : List Value} {j i : Nat} {v u : Value} (hj : j < cs.length) (h : i ≠ j → cs[i]? = some u) (h2 : i = j → v = u) : (cs.set j v)[i]? = some u := by
  rw [List.getElem?_set]
  by_cases c : j = i
  · rw [if_pos c, if_pos hj, h2 c.symm]
  · rw [if_neg c]; exact h (fun x => c x.symm)
theorem Blk.sN2 {b : Nat} {k : World → Prop} (o p : Nat) (vs : List Value) {w : World} {cs : List Value} (h : Blk w b cs) (hi : o + p + vs.length ≤ cs.length) (hv : vs.all okc = true)
    (hk : ∀ w', Blk w' b (splice cs (o + p) vs) → Upd (fun x => x = b) w w' → k w') : stN vs (Addr.add (Addr.add ⟨b, 0, none⟩ o) p) 0 w k := by
  rw [add_add]; exact h.sN (o + p) vs hi hv hk
/-- an int of the head, written -/
theorem r15_set {e e' : El} {l l' : MkL} {j : Nat} {v : Value} (hj : j < 8) (hv : v = rc e' l' j) (h : ∀ i, i < 200 → i ≠ j → rc e' l' i = rc e l i) : (r15 e l).set j v = r15 e' l' := by
  refine r15_eq (by rw [List.length_set, r15_len]) fun i hi => set_get (by rw [r15_len]; omega) (fun c => ?_) fun c => by rw [c]; exact hv
  rw [r15_get hi, h i hi c]

theorem kn_set {l : MkL} {k i : Nat} {m : Tvs MK} : kn (mset l (k : Int) m) i = if i = k then true else kn l i := by
  unfold kn; rw [mget_mset]
  by_cases c : i = k
  · subst c; simp
  · rw [if_neg (by omega), if_neg c]
theorem mk_set {l : MkL} {k i : Nat} {m : Tvs MK} : mk (mset l (k : Int) m) i = if i = k then m else mk l i := by
  unfold mk; rw [mget_mset]
  by_cases c : i = k
  · subst c; simp
  · rw [if_neg (by omega), if_neg c]
set_option maxRecDepth 20000 in
theorem r15_hear {e : El} {l : MkL} {k : Nat} {m : Tvs MK} (hk : k < 64) :
    ((((((r15 e l).set (8 + k) (.bool true)).set (72 + k) (.int .u16 m.1)).set (136 + k) (.int .u16 m.2.1)).set 5 (.int .i64 (k : Int))).set 6 (.int .i64 0)).set 7 (.int .i64 0) = r15 (hrE e k) (mset l k m) := by
  refine r15_eq (by simp [r15_len]) fun i hi => ?_
  refine set_get (by simp [r15_len]) (fun c7 => ?_) fun c => by rw [c]; rfl
  refine set_get (by simp [r15_len]) (fun c6 => ?_) fun c => by rw [c]; rfl
  refine set_get (by simp [r15_len]) (fun c5 => ?_) fun c => by rw [c]; rfl
  refine set_get (by simp [r15_len]; omega) (fun c3 => ?_) fun c => ?_
  · refine set_get (by simp [r15_len]; omega) (fun c2 => ?_) fun c => ?_
    · refine set_get (by simp [r15_len]; omega) (fun c1 => ?_) fun c => ?_
      · rw [r15_get hi]
        match i, hi, c1, c2, c3, c5, c6, c7 with
        | 0, _, _, _, _, _, _, _ => rfl
        | 1, _, _, _, _, _, _, _ => rfl
        | 2, _, _, _, _, _, _, _ => rfl
        | 3, _, _, _, _, _, _, _ => rfl
        | 4, _, _, _, _, _, _, _ => rfl
        | 5, _, _, _, _, c, _, _ => exact absurd rfl c
        | 6, _, _, _, _, _, c, _ => exact absurd rfl c
        | 7, _, _, _, _, _, _, c => exact absurd rfl c
        | j + 8, hj, c1, c2, c3, _, _, _ =>
          show some (if j < 64 then Value.bool (kn l j) else if j < 128 then .int .u16 (mk l (j - 64)).1 else .int .u16 (mk l (j - 128)).2.1) = some (if j < 64 then Value.bool (kn (mset l k m) j) else if j < 128 then .int .u16 (mk (mset l k m) (j - 64)).1 else .int .u16 (mk (mset l k m) (j - 128)).2.1)
          rw [kn_set, mk_set, mk_set]
          by_cases d1 : j < 64
          · rw [if_pos d1, if_pos d1, if_neg (by omega)]
          · rw [if_neg d1, if_neg d1]
            by_cases d2 : j < 128
            · rw [if_pos d2, if_pos d2, if_neg (by omega)]
            · rw [if_neg d2, if_neg d2, if_neg (show ¬ j - 128 = k by omega)]
      · have h : some (rc (hrE e k) (mset l k m) i) = some (Value.bool (kn (mset l k m) k)) := (r15_get hi).symm.trans (by rw [c]; exact r15_kn hk)
        rw [kn_set, if_pos rfl] at h
        injection h with h; exact h.symm
    · have h : some (rc (hrE e k) (mset l k m) i) = some (Value.int .u16 (mk (mset l k m) k).1) := (r15_get hi).symm.trans (by rw [c]; exact r15_bo hk)
      rw [mk_set, if_pos rfl] at h
      injection h with h; exact h.symm
  · have h : some (rc (hrE e k) (mset l k m) i) = some (Value.int .u16 (mk (mset l k m) k).2.1) := (r15_get hi).symm.trans (by rw [c]; exact r15_sq hk)
    rw [mk_set, if_pos rfl] at h
    injection h with h; exact h.symm
end Go.Proofs.YtnjmfbjgcfnanaaGreat
/- Contracts of the document's layer 15: an election beats, hears, tells its mark. Conditions: what an election keeps (EI). -/
namespace Go.Proofs.YtnjmfbjgcfnanaaGreat
open Go.Eng Go
set_option linter.unusedVariables false
set_option linter.unusedSimpArgs false

/-! ### what an election keeps is kept -/
theorem EI.new {me r0 r1 boot : Int} (h0 : 0 ≤ me) (h1 : me < 64) (h2 : elG r0 r1 = true) (hb : U16 boot) : EI ⟨me, r0, r1, boot, 0, -1, 0, 0⟩ [] := by
  have h2 := elG_iff.1 h2
  exact ⟨h0, h1, by dsimp only; omega, by dsimp only; omega, by dsimp only; omega, by dsimp only; omega, by dsimp only; omega, fun h => by dsimp only at h; omega, hb, by show U16 0; unfold U16; omega, fun k m h => by cases h⟩
theorem EI.beat {e : El} {l : MkL} (h : EI e l) : EI (btE e) l := by
  obtain ⟨a0, a1, a2, a3, a4, a5, a6, a7, a8, a9, a10⟩ := h
  unfold btE
  by_cases c : mine e = true
  · rw [if_pos c]
    have wq : IntKind.wrap .i64 (e.quiet - 1) = e.quiet - 1 := w64_in (by unfold I64; omega)
    refine ⟨a0, a1, a2, a3, a4, ?_, a6, a7, a8, a9, a10⟩
    show 0 ≤ (if 0 > IntKind.wrap .i64 (e.quiet - 1) then 0 else IntKind.wrap .i64 (e.quiet - 1)) ∧ (if 0 > IntKind.wrap .i64 (e.quiet - 1) then 0 else IntKind.wrap .i64 (e.quiet - 1)) ≤ 1000
    rw [wq]
    by_cases d : 0 > e.quiet - 1
    · rw [if_pos d]; omega
    · rw [if_neg d]; omega
  · rw [if_neg c]
    have wb : IntKind.wrap .i64 (e.beats + 1) = e.beats + 1 := w64_in (by unfold I64; omega)
    rw [wb]
    by_cases d : e.beats + 1 < e.tmo
    · rw [if_pos d]
      exact ⟨a0, a1, a2, a3, by show 0 ≤ e.beats + 1 ∧ e.beats + 1 ≤ 1000; omega, a5, a6, a7, a8, a9, a10⟩
    · rw [if_neg d]
      exact ⟨a0, a1, a2, a3, by show (0 : Int) ≤ 0 ∧ (0 : Int) ≤ 1000; omega, a3, by show -1 ≤ e.me ∧ e.me ≤ e.me; omega, fun _ h => absurd rfl h, a8, a9, a10⟩
theorem EI.isE {e : El} {l : MkL} (h : EI e l) : EI (isE e) l := by
  unfold Go.Proofs.YtnjmfbjgcfnanaaGreat.isE
  split
  · exact ⟨h.me0, h.me1, h.tmo, h.ign, h.beats, h.quiet, h.root, h.known, h.boot, by show U16 (IntKind.wrap .u16 _); rw [wu16]; unfold U16; omega, h.marks⟩
  · exact h
theorem EI.b2e {e : El} {l : MkL} (h : EI e l) (loc : Int) : EI (b2e e loc) l := by
  unfold Go.Proofs.YtnjmfbjgcfnanaaGreat.b2e
  split
  · exact h.beat.isE
  · exact h.beat
theorem EI.hear {e : El} {l : MkL} (h : EI e l) {root : Int} {m : Tvs MK} (h0 : 0 ≤ root) (h1 : root < e.me) (hm : U16 m.1 ∧ U16 m.2.1) : EI (hrE e root) (mset l root m) := by
  refine ⟨h.me0, h.me1, h.tmo, h.ign, by show (0 : Int) ≤ 0 ∧ (0 : Int) ≤ 1000; omega, by show (0 : Int) ≤ 0 ∧ (0 : Int) ≤ 1000; omega, by show -1 ≤ root ∧ root ≤ e.me; omega, fun _ _ => ?_, h.boot, h.seq, fun k x hx => ?_⟩
  · rw [mget_mset]; show (if root = root then some m else mget l root).isSome = true; rw [if_pos rfl]; rfl
  · rw [mget_mset] at hx
    by_cases c : k = root
    · rw [if_pos c] at hx; injection hx with hx; rw [← hx]; exact hm
    · rw [if_neg c] at hx; exact h.marks k x hx
theorem EI.boot' {e : El} {l : MkL} (h : EI e l) {boot : Int} (hb : U16 boot) : EI (bootE e boot) [] :=
  ⟨h.me0, h.me1, h.tmo, h.ign, by show (0 : Int) ≤ 0 ∧ (0 : Int) ≤ 1000; omega, by show (0 : Int) ≤ 0 ∧ (0 : Int) ≤ 1000; omega, by show (-1 : Int) ≤ -1 ∧ -1 ≤ e.me; have := h.me0; omega, fun h => by have h : (0 : Int) ≤ -1 := h; omega, hb, by show U16 0; unfold U16; omega, fun k m h => by cases h⟩

/-! ### the document's functions -/
theorem ref15_Good.cl {me r0 r1 : Int} {w : World} {k : TR [(false, [.b])] → World → Prop} (h : k ((decide (0 ≤ me) && decide (me < 64) && elG r0 r1, ()), ()) w) : clS Tryz.prog F.ref15_Good [.int .i64 me, .int .i64 r0, .int .i64 r1] w false [(false, [.b])] k := by
  refine ref15_Good.ok ?_
  unfold ref15_Good.wp
  have key : ∀ b : Bool, (b = true ↔ 0 ≤ me ∧ me < 64 ∧ 1 ≤ r0 ∧ r0 ≤ 1000 ∧ 0 ≤ r1 ∧ r1 ≤ 1000) → k ((b, ()), ()) w := fun b hb => by
    have : b = (decide (0 ≤ me) && decide (me < 64) && elG r0 r1) := by rw [Bool.eq_iff_iff, hb]; simp [elG_iff, and_assoc]
    rw [this]; exact h
  refine brD (fun c1 => brD (fun c2 => brD (fun c3 => brD (fun c4 => brD (fun c5 => key _ ?_) fun c5 => key _ ?_) fun c4 => key _ ?_) fun c3 => key _ ?_) fun c2 => key _ ?_) fun c1 => key _ ?_ <;> simp <;> omega

set_option maxRecDepth 100000 in
theorem ref15_New.cl {me r0 r1 boot : Int} {w : World} {k : TR [(false, [.p])] → World → Prop} (h : ∀ b w', w.heap.size ≤ b → Blk w' b (r15 ⟨me, r0, r1, boot, 0, -1, 0, 0⟩ []) → Gro w w' → k ((some ⟨b, 0, none⟩, ()), ()) w') :
    clS Tryz.prog F.ref15_New [.int .i64 me, .int .i64 r0, .int .i64 r1, .int .u16 boot] w false [(false, [.p])] k := by
  refine ref15_New.ok ?_
  unfold ref15_New.wp
  refine alK_by fun b w2 e k1 u1 => h b w2 (by omega) ?_ u1
  have e2 : r15 ⟨me, r0, r1, boot, 0, -1, 0, 0⟩ [] = rc ⟨me, r0, r1, boot, 0, -1, 0, 0⟩ [] 0 :: rc ⟨me, r0, r1, boot, 0, -1, 0, 0⟩ [] 1 :: rc ⟨me, r0, r1, boot, 0, -1, 0, 0⟩ [] 2 :: rc ⟨me, r0, r1, boot, 0, -1, 0, 0⟩ [] 3 :: rc ⟨me, r0, r1, boot, 0, -1, 0, 0⟩ [] 4 :: rc ⟨me, r0, r1, boot, 0, -1, 0, 0⟩ [] 5 :: rc ⟨me, r0, r1, boot, 0, -1, 0, 0⟩ [] 6 :: rc ⟨me, r0, r1, boot, 0, -1, 0, 0⟩ [] 7 :: (List.replicate 64 (Value.bool false) ++ List.replicate 128 (Value.int .u16 0)) := by
    refine (r15_eq (by simp) fun i hi => ?_).symm
    match i, hi with
    | 0, _ => rfl
    | 1, _ => rfl
    | 2, _ => rfl
    | 3, _ => rfl
    | 4, _ => rfl
    | 5, _ => rfl
    | 6, _ => rfl
    | 7, _ => rfl
    | j + 8, hj =>
      rw [rc8]
      show (List.replicate 64 (Value.bool false) ++ List.replicate 128 (Value.int .u16 0))[j]? = _
      by_cases d1 : j < 64
      · rw [if_pos d1, List.getElem?_append_left (by simpa using d1), List.getElem?_replicate, if_pos d1]; rfl
      · rw [if_neg d1, List.getElem?_append_right (by simp; omega), List.getElem?_replicate, if_pos (by simp; omega)]
        by_cases d2 : j < 128
        · rw [if_pos d2]; rfl
        · rw [if_neg d2]; rfl
  rw [e2]
  exact k1

set_option maxRecDepth 20000 in
theorem ref15_Elect_Beat.cl {b : Nat} {e : El} {l : MkL} {w : World} (hB : Blk w b (r15 e l)) (hI : EI e l) {k : TR [(false, [.b])] → World → Prop}
    (h : ∀ w', Blk w' b (r15 (btE e) l) → Upd (fun z => z = b) w w' → k ((btB e, ()), ()) w') :
    clS Tryz.prog F.ref15_Elect_Beat [.pointer (some ⟨b, 0, none⟩)] w false [(false, [.b])] k := by
  refine ref15_Elect_Beat.ok ?_
  unfold ref15_Elect_Beat.wp
  have hq := hI.quiet
  have hb := hI.beats
  have wq : IntKind.wrap .i64 (e.quiet - 1) = e.quiet - 1 := w64_in (by unfold I64; omega)
  have wb : IntKind.wrap .i64 (e.beats + 1) = e.beats + 1 := w64_in (by unfold I64; omega)
  unfold btE btB at h
  rw [wq, wb] at h
  rw [drK_eq, ncK_eq]
  have B := hB.drew
  have U0 : Upd (fun z => z = b) w w.drew := Upd.of_gro (Gro.drew w)
  refine B.c1 5 (x := e.root) (r15_get (by decide)) ?_
  rw [ncK_eq]
  refine B.c0 (x := e.me) (r15_get (by decide)) (brE (fun c => ?_) fun c => ?_)
  · have c : mine e = true := mine_of c
    rw [if_pos c, if_pos c] at h
    rw [ncK_eq]
    refine B.c1 7 (x := e.quiet) (r15_get (by decide)) (brD (fun d => ?_) fun d => ?_)
    · have d : e.quiet > 0 := d
      rw [if_neg (by omega)] at h
      rw [ncK_eq]
      refine B.c1 7 (x := e.quiet) (r15_get (by decide)) ?_
      rw [ncK_eq, wq]
      refine B.sN 7 _ (by simp [r15_len]) rfl fun w11 k11 u11 => h w11 ?_ (Upd.trans U0 u11 fun _ _ h => h)
      have : (r15 e l).set 7 (.int .i64 (e.quiet - 1)) = r15 { e with quiet := e.quiet - 1 } l := r15_set (by decide) rfl fun i hi hn => by
        match i, hn with
        | 0, _ => rfl
        | 1, _ => rfl
        | 2, _ => rfl
        | 3, _ => rfl
        | 4, _ => rfl
        | 5, _ => rfl
        | 6, _ => rfl
        | 7, h => exact absurd rfl h
        | j + 8, _ => rfl
      rw [← this]; exact k11
    · have d : ¬ e.quiet > 0 := d
      have q0 : e.quiet = 0 := by omega
      refine h _ ?_ U0
      rw [q0, if_pos (by decide)]
      have : ({ e with quiet := 0 } : El) = e := by rw [← q0]
      rw [this]; exact B
  · have c : ¬ mine e = true := fun h => c (mine_root h)
    rw [if_neg c, if_neg c] at h
    rw [ncK_eq]
    refine B.c1 6 (x := e.beats) (r15_get (by decide)) ?_
    rw [ncK_eq, wb]
    refine B.sN 6 _ (by simp [r15_len]) rfl fun w15 k15 u15 => ?_
    have k15 : Blk w15 b (r15 { e with beats := e.beats + 1 } l) := by
      have : (r15 e l).set 6 (.int .i64 (e.beats + 1)) = r15 { e with beats := e.beats + 1 } l := r15_set (by decide) rfl fun i hi hn => by
        match i, hn with
        | 0, _ => rfl
        | 1, _ => rfl
        | 2, _ => rfl
        | 3, _ => rfl
        | 4, _ => rfl
        | 5, _ => rfl
        | 6, h => exact absurd rfl h
        | 7, _ => rfl
        | j + 8, _ => rfl
      rw [← this]; exact k15
    have U15 : Upd (fun z => z = b) w w15 := Upd.trans U0 u15 fun _ _ h => h
    rw [drK_eq, ncK_eq]
    refine k15.drew.c1 6 (x := e.beats + 1) (r15_get (by decide)) ?_
    rw [ncK_eq]
    refine k15.drew.c1 1 (x := e.tmo) (r15_get (by decide)) (brD (fun d => ?_) fun d => ?_)
    · have d : e.beats + 1 < e.tmo := d
      rw [if_pos d, if_pos d] at h
      exact h _ k15.drew U15.drew
    · have d : ¬ e.beats + 1 < e.tmo := d
      rw [if_neg d, if_neg d] at h
      rw [ncK_eq]
      refine k15.drew.c0 (x := e.me) (r15_get (by decide)) ?_
      rw [ncK_eq]
      refine k15.drew.sN 5 _ (by simp [r15_len]) rfl fun w24 k24 u24 => ?_
      rw [ncK_eq]
      refine k24.sN 6 _ (by simp [r15_len, splice]) rfl fun w26 k26 u26 => ?_
      rw [ncK_eq]
      have eq : (((r15 { e with beats := e.beats + 1 } l).set 5 (.int .i64 e.me)).set 6 (.int .i64 0)) = r15 { e with root := e.me, beats := 0 } l := by
        refine r15_eq (by simp [r15_len]) fun i hi => set_get (by simp [r15_len]) (fun c6 => set_get (by simp [r15_len]) (fun c5 => ?_) fun c => by rw [c]; rfl) fun c => by rw [c]; rfl
        rw [r15_get hi]
        match i, c5, c6 with
        | 0, _, _ => rfl
        | 1, _, _ => rfl
        | 2, _, _ => rfl
        | 3, _, _ => rfl
        | 4, _, _ => rfl
        | 5, h, _ => exact absurd rfl h
        | 6, _, h => exact absurd rfl h
        | 7, _, _ => rfl
        | j + 8, _, _ => rfl
      have k26 : Blk w26 b (r15 { e with root := e.me, beats := 0 } l) := by rw [← eq]; exact k26
      refine k26.c1 2 (x := e.ign) (r15_get (by decide)) ?_
      rw [ncK_eq]
      refine k26.sN 7 _ (by simp [r15_len]) rfl fun w30 k30 u30 => h w30 ?_ ?_
      · have : (r15 { e with root := e.me, beats := 0 } l).set 7 (.int .i64 e.ign) = r15 { e with root := e.me, beats := 0, quiet := e.ign } l := r15_set (by decide) rfl fun i hi hn => by
          match i, hn with
          | 0, _ => rfl
          | 1, _ => rfl
          | 2, _ => rfl
          | 3, _ => rfl
          | 4, _ => rfl
          | 5, _ => rfl
          | 6, _ => rfl
          | 7, h => exact absurd rfl h
          | j + 8, _ => rfl
        rw [← this]; exact k30
      · exact Upd.trans (Upd.trans (Upd.trans U15.drew u24 fun _ _ h => h) u26 fun _ _ h => h) u30 fun _ _ h => h

set_option maxRecDepth 20000 in
theorem ref15_Elect_Mark.cl {b : Nat} {e : El} {l : MkL} {w : World} (hB : Blk w b (r15 e l)) (hI : EI e l) {k : TR [(false, [.i .u16]), (false, [.i .u16]), (false, [.b])] → World → Prop}
    (h : ∀ w', Gro w w' → k (((mkM e l).1, ()), ((mkM e l).2.1, ()), (mkB e, ()), ()) w') :
    clS Tryz.prog F.ref15_Elect_Mark [.pointer (some ⟨b, 0, none⟩)] w true [(false, [.i .u16]), (false, [.i .u16]), (false, [.b])] k := by
  refine ref15_Elect_Mark.ok ?_
  unfold ref15_Elect_Mark.wp
  unfold mkM mkB at h
  rw [ncK_eq]
  refine hB.c1 5 (x := e.root) (r15_get (by decide)) (brD (fun c => ?_) fun c => ?_)
  · have c : e.root < 0 := c
    rw [if_pos c, if_pos c] at h
    exact h w (Gro.refl w)
  have c : ¬ e.root < 0 := c
  rw [if_neg c, if_neg c] at h
  rw [drK_eq, ncK_eq]
  have B := hB.drew
  refine B.c1 5 (x := e.root) (r15_get (by decide)) ?_
  rw [ncK_eq]
  refine B.c0 (x := e.me) (r15_get (by decide)) (brE (fun d => ?_) fun d => ?_)
  · have d : mine e = true := mine_of d
    rw [if_pos d, if_pos d] at h
    rw [drK_eq, ncK_eq]
    refine B.drew.c1 3 (x := e.boot) (r15_get (by decide)) ?_
    rw [ncK_eq]
    refine B.drew.c1 4 (x := e.seq) (r15_get (by decide)) ?_
    rw [ncK_eq]
    exact B.drew.c1 4 (x := e.seq) (r15_get (by decide)) (h _ ((Gro.drew w).trans (Gro.drew _)))
  · have d : ¬ mine e = true := fun h => d (mine_root h)
    rw [if_neg d, if_neg d] at h
    rw [drK_eq, ncK_eq]
    refine B.drew.c1 5 (x := e.root) (r15_get (by decide)) ?_
    rw [ncK_eq]
    have hr := hI.root
    have hm := hI.me1
    obtain ⟨n, hn⟩ : ∃ n : Nat, e.root = n := ⟨e.root.toNat, by omega⟩
    rw [hn] at h ⊢
    have t1 : ((n : Int)).toNat * 1 = n := by simp
    rw [ixK_eq (show 0 ≤ (n : Int) ∧ (n : Int) < ((64 : Nat) : Int) by omega)]
    refine B.drew.c2 72 _ (c := .i .u16) (x := (mk l n).1) (by rw [t1]; exact r15_bo (by omega)) ?_
    rw [ncK_eq]
    refine B.drew.c1 5 (x := e.root) (r15_get (by decide)) ?_
    rw [ncK_eq, hn, ixK_eq (show 0 ≤ (n : Int) ∧ (n : Int) < ((64 : Nat) : Int) by omega)]
    exact B.drew.c2 136 _ (c := .i .u16) (x := (mk l n).2.1) (by rw [t1]; exact r15_sq (by omega)) (h _ ((Gro.drew w).trans (Gro.drew _)))

set_option maxRecDepth 20000 in
set_option maxHeartbeats 1000000 in
theorem ref15_Elect_Hear.cl {b : Nat} {e : El} {l : MkL} {root : Int} {m : Tvs MK} {w : World} (hB : Blk w b (r15 e l)) (hI : EI e l) (hm : U16 m.1 ∧ U16 m.2.1) {k : TR [(false, [.i .i64])] → World → Prop}
    (h0 : hrN e l root m = 0 → ∀ w', Gro w w' → k ((0, ()), ()) w')
    (h1 : ∀ c, hrN e l root m = c → c ≠ 0 → ∀ w', Blk w' b (r15 (hrE e root) (mset l root m)) → Upd (fun z => z = b) w w' → k ((c, ()), ()) w') :
    clS Tryz.prog F.ref15_Elect_Hear [.pointer (some ⟨b, 0, none⟩), .int .i64 root, .int .u16 m.1, .int .u16 m.2.1] w false [(false, [.i .i64])] k := by
  refine ref15_Elect_Hear.ok ?_
  unfold ref15_Elect_Hear.wp
  have no : mayE e root = false → hrN e l root m = 0 := fun h => by unfold hrN; rw [if_pos h]
  refine brD (fun c => ?_) fun c0 => ?_
  · have c : root < 0 := c
    exact h0 (no (by unfold mayE; rw [if_pos (.inl c)])) w (Gro.refl w)
  have c0 : ¬ root < 0 := c0
  rw [ncK_eq]
  refine hB.c0 (x := e.me) (r15_get (by decide)) (brD (fun c => ?_) fun c1 => ?_)
  · have c : root ≥ e.me := c
    exact h0 (no (by unfold mayE; rw [if_pos (.inr c)])) w (Gro.refl w)
  have c1 : ¬ root ≥ e.me := c1
  have hq := hI.quiet
  have hr := hI.root
  have hm1 := hI.me1
  refine CutT.by (fun _ w' => Gro w w' ∧ (mine e = true → e.quiet = 0)) ?_ ?_
  · rw [drK_eq, ncK_eq]
    have B := hB.drew
    refine B.c1 5 (x := e.root) (r15_get (by decide)) ?_
    rw [ncK_eq]
    refine B.c0 (x := e.me) (r15_get (by decide)) (brE (fun d => ?_) fun d => ⟨Gro.drew w, fun h => absurd (mine_root h) d⟩)
    rw [ncK_eq]
    refine B.c1 7 (x := e.quiet) (r15_get (by decide)) (brD (fun q => ?_) fun q => ⟨Gro.drew w, fun _ => by have q : ¬ e.quiet > 0 := q; omega⟩)
    have q : e.quiet > 0 := q
    refine h0 (no ?_) _ (Gro.drew w)
    unfold mayE
    rw [if_neg (by omega), if_pos (mine_of d)]
    exact beq_eq_false_iff_ne.2 (by omega)
  rintro _ w5 ⟨g5, hc1⟩ _
  have B5 := hB.gro g5
  refine CutT.by (fun _ w' => Gro w w' ∧ (0 ≤ e.root → e.root ≠ e.me → root ≤ e.root)) ?_ ?_
  · rw [drK_eq, ncK_eq]
    have B := B5.drew
    have g6 := g5.trans (Gro.drew w5)
    refine B.c1 5 (x := e.root) (r15_get (by decide)) (brD (fun d => ?_) fun d => ⟨g6, fun h => absurd h d⟩)
    have d : e.root ≥ 0 := d
    rw [ncK_eq]
    refine B.c1 5 (x := e.root) (r15_get (by decide)) ?_
    rw [ncK_eq]
    refine B.c0 (x := e.me) (r15_get (by decide)) (brN (fun d2 => ?_) fun d2 => ⟨g6, fun _ h => absurd d2 h⟩)
    rw [ncK_eq]
    refine B.c1 5 (x := e.root) (r15_get (by decide)) (brD (fun d3 => ?_) fun d3 => ⟨g6, fun _ _ => by have d3 : ¬ root > e.root := d3; omega⟩)
    have d3 : root > e.root := d3
    have d2 : e.root ≠ e.me := d2
    refine h0 (no ?_) _ g6
    unfold mayE
    rw [if_neg (by omega), if_neg (fun h => d2 (mine_root h)), if_neg (by omega)]
    exact decide_eq_false (by omega)
  rintro _ w15 ⟨g15, hc2⟩ _
  have B15 := hB.gro g15
  have cm : ¬ mayE e root = false := by
    have : mayE e root = true := by
      unfold mayE
      rw [if_neg (by omega)]
      by_cases cmi : mine e = true
      · rw [if_pos cmi, hc1 cmi]; rfl
      · rw [if_neg cmi]
        by_cases cr : e.root < 0
        · rw [if_pos cr]
        · rw [if_neg cr]; exact decide_eq_true (hc2 (by omega) fun h => cmi (mine_of h))
    rw [this]; simp
  obtain ⟨n, hn⟩ : ∃ n : Nat, root = n := ⟨root.toNat, by omega⟩
  subst hn
  have t1 : ((n : Int)).toNat * 1 = n := by simp
  have hn64 : n < 64 := by omega
  have ix : ∀ {a : Addr} {k : Addr → Prop}, k a → ixK (some a) 64 (n : Int) k := fun hk => by rw [ixK_eq (show 0 ≤ (n : Int) ∧ (n : Int) < ((64 : Nat) : Int) by omega)]; exact hk
  refine CutT.by (fun _ w' => Gro w w' ∧ frE l n m = true) ?_ ?_
  · rw [drK_eq, ncK_eq]
    have B := B15.drew
    have g28 := g15.trans (Gro.drew w15)
    refine ix (B.c2 8 _ (c := .b) (x := kn l n) (by rw [t1]; exact r15_kn hn64) (brC (fun d => ?_) fun d => ⟨g28, ?_⟩))
    · have d : (mget l (n : Int)).isSome = true := d
      obtain ⟨o, ho⟩ := Option.isSome_iff_exists.1 d
      have hmk : mk l n = o := by unfold mk; rw [ho]; rfl
      rw [ncK_eq]
      refine ix (B.c2 72 _ (c := .i .u16) (x := o.1) (by rw [t1, ← hmk]; exact r15_bo hn64) ?_)
      rw [ncK_eq]
      refine ix (B.c2 136 _ (c := .i .u16) (x := o.2.1) (by rw [t1, ← hmk]; exact r15_sq hn64) ?_)
      refine ref15_Newer.cl hm (hI.marks _ _ ho) ⟨⟨B.hold2 (Gro.refl _) (fun x => x) 8 _ (by rw [t1, r15_len]; omega), trivial⟩, brNot (fun q => ?_) fun q => ⟨g28, ?_⟩⟩
      · have q : newM m o = false := q
        refine h0 ?_ _ g28
        unfold hrN frE
        rw [if_neg cm, ho]
        dsimp only
        rw [if_pos q]
      · have q : newM m o = true := q
        unfold frE; rw [ho]; exact q
    · have d : (mget l (n : Int)).isSome = false := d
      unfold frE
      cases ho : mget l (n : Int) with
      | none => rfl
      | some o => rw [ho] at d; cases d
  rintro _ w27 ⟨g27, hf⟩ _
  have B27 := hB.gro g27
  have hN : hrN e l n m = if e.root ≠ (n : Int) then 2 else if ((mget l (n : Int)).getD (0, 0, ())).1 ≠ m.1 then 2 else 1 := by
    unfold hrN; rw [if_neg cm, if_neg (by rw [hf]; simp)]
  refine CutT.by (fun z w' => w' = w27 ∧ hrN e l n m = z.1 ∧ z.1 ≠ 0) ?_ ?_
  · rw [ncK_eq]
    refine B27.c1 5 (x := e.root) (r15_get (by decide)) (brN (fun d => ⟨rfl, by rw [hN, if_pos d], by decide⟩) fun d => ?_)
    have d : e.root = (n : Int) := d
    rw [if_neg (fun h => h d)] at hN
    rw [ncK_eq]
    have hk : kn l n = true := by unfold kn; rw [← d]; exact hI.known (by omega) (by omega)
    refine ix (B27.c2 8 _ (c := .b) (x := kn l n) (by rw [t1]; exact r15_kn hn64) (brF (by rw [hk]; rfl) ?_))
    rw [ncK_eq]
    refine ix (B27.c2 72 _ (c := .i .u16) (x := (mk l n).1) (by rw [t1]; exact r15_bo hn64) (brN (fun d2 => ⟨rfl, by rw [hN]; exact if_pos d2, by decide⟩) fun d2 => ⟨rfl, by rw [hN]; exact if_neg (fun h => h d2), by decide⟩))
  rintro ⟨z, _⟩ _ ⟨rfl, hz, hz0⟩ _
  dsimp only at hz hz0
  rw [ncK_eq]
  have rl : ∀ p, p ≤ 136 → p + ((n : Int)).toNat * 1 + 1 ≤ 200 := fun p hp => by rw [t1]; omega
  refine ix (Blk.sN2 8 _ _ B27 (by rw [r15_len]; exact rl 8 (by decide)) rfl fun w53 k53 u53 => ?_)
  rw [ncK_eq]
  refine ix (Blk.sN2 72 _ _ k53 (by rw [splice_length, r15_len]; exact rl 72 (by decide)) rfl fun w56 k56 u56 => ?_)
  rw [ncK_eq]
  refine ix (Blk.sN2 136 _ _ k56 (by rw [splice_length, splice_length, r15_len]; exact rl 136 (by decide)) rfl fun w59 k59 u59 => ?_)
  rw [ncK_eq]
  refine k59.sN 5 _ (by simp [splice_length, r15_len]) rfl fun w61 k61 u61 => ?_
  rw [ncK_eq]
  refine k61.sN 6 _ (by simp [splice_length, r15_len]) rfl fun w63 k63 u63 => ?_
  rw [ncK_eq]
  refine k63.sN 7 _ (by simp [splice_length, r15_len]) rfl fun w65 k65 u65 => ?_
  rw [t1] at k65
  refine h1 z hz hz0 w65 ?_ ?_
  · rw [← r15_hear hn64]; exact k65
  · exact Upd.trans (Upd.trans (Upd.trans (Upd.trans (Upd.trans (Upd.trans (Upd.of_gro g27) u53 fun _ _ h => h) u56 fun _ _ h => h) u59 fun _ _ h => h) u61 fun _ _ h => h) u63 fun _ _ h => h) u65 fun _ _ h => h
end Go.Proofs.YtnjmfbjgcfnanaaGreat
/- Contracts of the document's layers 5 (a Sync) and 16: a flood. Conditions: what an election keeps (EI). -/
namespace Go.Proofs.YtnjmfbjgcfnanaaGreat
open Go.Eng Go
set_option linter.unusedVariables false
set_option linter.unusedSimpArgs false

/-! ### a Sync in the document's form -/
def plP (s : S6) : P14 := (1, s.1, 0, s.2.1, s.2.2.1, s.2.2.2.1, s.2.2.2.2.1, s.2.2.2.2.2, 0, 0, 0, 0, 0, 0, ())
def pl0 : P14 := (0, 0, 0, 0, 0, 0, 0, 0, 0, 0, 0, 0, 0, 0, ())
theorem syP_plP (s : S6) : syP (plP s) = s := rfl

set_option maxRecDepth 20000 in
theorem ref05_Fields.clF1 {x : P14} (h1 : x.1 = 1) {w : World} {k : TR [(false, [.sl])] → World → Prop} (h : ∀ (s : Sl) w', Gro w w' → Ents w' s (flS (syP x)) → (∀ a, s.1 = some a → w.heap.size ≤ a.block) → k ((s, ()), ()) w') : clS Tryz.prog F.ref05_Fields [vP x] w false [(false, [.sl])] k := by
  refine ref05_Fields.ok ?_
  unfold ref05_Fields.wp
  refine alK_by fun p1 w2 e1 k1 u1 => ?_
  change Blk w2 p1 (encs K14 x) at k1
  refine k1.c1 1 rfl (alK_by fun p4 w5 e4 k4 u4 => k4.sta _ rfl rfl fun w6 k6 u6 => ?_)
  have l1 := k1.lt
  have q1 := (k1.gro u4).upd u6 (by omega)
  have g6 := Gro.fresh u1 u4 u6 e4
  refine q1.c0 rfl ?_
  rw [h1]
  refine brT rfl (k6.ld3 ?_)
  refine q1.c1 3 rfl (q1.c1 4 rfl (q1.c1 5 rfl (q1.c1 6 rfl (q1.c1 7 rfl ?_))))
  exact alK_by fun p44 w45 e44 k44 u44 => h (some ⟨p44, 0, none⟩, 6, 6) w45 (g6.trans u44) (ents_new k44 rfl rfl) fun a ha => by cases ha; exact Nat.le_trans g6.size (Nat.le_of_eq e44)
theorem ref05_Fields.cl1 {x : P14} (h1 : x.1 = 1) {w : World} {k : TR [(false, [.sl])] → World → Prop} (h : ∀ s w', Gro w w' → Ents w' s (flS (syP x)) → k ((s, ()), ()) w') : clS Tryz.prog F.ref05_Fields [vP x] w false [(false, [.sl])] k :=
  ref05_Fields.clF1 h1 fun s w' g E _ => h s w' g E

set_option maxRecDepth 20000 in
theorem ref05_Good.cl1 {x : P14} (h1 : x.1 = 1) {w : World} {k : TR [(false, [.b])] → World → Prop} (h : ∀ w', Gro w w' → k ((okF (flS (syP x)), ()), ()) w') : clS Tryz.prog F.ref05_Good [vP x] w false [(false, [.b])] k := by
  refine ref05_Good.ok ?_
  unfold ref05_Good.wp
  refine alK_by fun p1 w2 e1 k1 u1 => ?_
  change Blk w2 p1 (encs K14 x) at k1
  refine k1.cA x rfl (ref05_Fields.cl1 (x := x) h1 fun s w4 u4 hE => ?_)
  have hl := hE.len
  have hlen : (flS (syP x)).length = 6 := rfl
  refine LoopT.by (fun z w' => Gro w4 w' ∧ ∃ i : Nat, z = ((i : Int), ()) ∧ i ≤ (flS (syP x)).length ∧ ∀ e ∈ (flS (syP x)).take i, inF e = true) (fun z => (1000 - z.1).toNat) ⟨Gro.refl _, 0, rfl, by omega, by simp⟩ ?_
  rintro z w7 ⟨g, i, rfl, hi, hgood⟩ _
  have g4 := u1.trans u4
  have out : ∀ w', Gro w4 w' → okF (flS (syP x)) = false → k ((false, ()), ()) w' := fun w' g h0 => by
    have := h w' (g4.trans g)
    rw [h0] at this; exact this
  refine brD (fun c => ?_) fun c => ?_
  · have hi' : i < (flS (syP x)).length := by have c : (i : Int) < (s.2.1 : Int) := c; omega
    have he : (flS (syP x))[i]? = some (flS (syP x))[i] := List.getElem?_eq_getElem hi'
    generalize (flS (syP x))[i] = e at he
    have hE7 := hE.gro g
    refine hE7.ix (z := (i : Int)) rfl he fun ad ha => hE7.ldN ha he ?_
    refine alK_by fun p10 w11 e10 k10 u11 => k10.sta _ rfl rfl fun w12 k12 u12 => k12.i1 1 rfl ?_
    have g12 := Gro.fresh g u11 u12 e10
    refine brD (fun c => out w12 g12 (okF_no he ?_)) fun c1 => k12.i1 1 rfl (k12.i1 2 rfl (brD (fun c => out w12 g12 (okF_no he ?_)) fun c2 => ⟨⟨g12, i + 1, ?_, by omega, ?_⟩, ?_⟩))
    · have c : e.2.1 < 0 := c
      cases hb : inF e
      · rfl
      · have := inF_iff.1 hb; omega
    · have c : e.2.1 > e.2.2 := c
      cases hb : inF e
      · rfl
      · have := inF_iff.1 hb; omega
    · show (IntKind.wrap .i64 ((i : Int) + 1), ()) = _
      rw [w64_in (by unfold I64; omega)]; rfl
    · have c1 : ¬ e.2.1 < 0 := c1
      have c2 : ¬ e.2.1 > e.2.2 := c2
      rw [List.take_add_one, he]
      intro y hy
      rcases List.mem_append.1 hy with hy | hy
      · exact hgood y hy
      · have : y = e := by simpa using hy
        subst this
        exact inF_iff.2 ⟨by omega, by omega⟩
    · show (1000 - IntKind.wrap .i64 ((i : Int) + 1)).toNat < (1000 - (i : Int)).toNat
      rw [w64_in (by unfold I64; omega)]; omega
  · have c : ¬ (i : Int) < (s.2.1 : Int) := c
    have hi' : i = (flS (syP x)).length := by omega
    subst hi'
    rw [List.take_length] at hgood
    have := h w7 (g4.trans g)
    rw [okF_take hgood] at this
    have e : decide ((s.2.1 : Int) > 0) = true := decide_eq_true (by omega)
    show k ((decide ((s.2.1 : Int) > 0), ()), ()) w7
    rw [e]; exact this

theorem adF_len {es : List E3} {x : E3} (h : es.length ≤ 8) : (adF es x).length ≤ 8 := by
  unfold adF; split
  · exact addL_len h
  · simp
theorem adF_good {es : List E3} {x : E3} (h : ∀ y ∈ es, goodB y = true) (hx : goodB x = true) : ∀ y ∈ adF es x, goodB y = true := by
  unfold adF; split
  · exact addL_good h hx
  · intro y hy
    have : y = x := by simpa using hy
    subst this; exact hx
/-! ### the flood -/
def rfC (bE : Nat) (f : Fl) (s : Sl) : List Value := [.pointer (some ⟨bE, 0, none⟩), .int .i64 f.need, .int .i64 f.drift, .slice s.1 s.2.1 s.2.2, .int .i64 f.ll, .int .i64 f.lg, .int .i64 f.lh]
structure RW (w : World) (O : Nat → Prop) (br bE : Nat) (f : Fl) (e : El) (l : MkL) (es : List E3) : Prop where
  ex : ∃ s, Blk w br (rfC bE f s) ∧ Ents w s es ∧ (∀ a, s.1 = some a → a.block ≠ br ∧ a.block ≠ bE ∧ O a.block)
  elb : Blk w bE (r15 e l)
  ne : br ≠ bE
  obr : O br
  obE : O bE
  lt : ∀ z, O z → z < w.heap.size
  inv : EI e l
  len : es.length ≤ 8
  good : ∀ x ∈ es, goodB x = true
  need : 1 ≤ f.need
  me : f.me = e.me
theorem RW.upd {S O : Nat → Prop} {w w' : World} {br bE : Nat} {f : Fl} {e : El} {l : MkL} {es : List E3} (h : RW w O br bE f e l es) (u : Upd S w w') (hS : ∀ z, O z → ¬ S z) : RW w' O br bE f e l es := by
  obtain ⟨⟨s, h1, h2, h3⟩, elb, ne, obr, obE, lt, inv, len, good, need, me⟩ := h
  exact ⟨⟨s, h1.upd u (hS _ obr), Row.upd h2 u fun a ha => hS _ (h3 a ha).2.2, h3⟩, elb.upd u (hS _ obE), ne, obr, obE, fun z hz => Nat.lt_of_lt_of_le (lt z hz) u.size, inv, len, good, need, me⟩
theorem RW.gro {O : Nat → Prop} {w w' : World} {br bE : Nat} {f : Fl} {e : El} {l : MkL} {es : List E3} (h : RW w O br bE f e l es) (u : Gro w w') : RW w' O br bE f e l es := h.upd u fun _ _ x => x
theorem RW.hdr {O : Nat → Prop} {w : World} {br bE : Nat} {f : Fl} {e : El} {l : MkL} {es : List E3} (h : RW w O br bE f e l es) {k : Option Addr → Prop} (hk : k (some ⟨bE, 0, none⟩)) : ld1 .p ⟨br, 0, none⟩ w k := by
  obtain ⟨s, h1, _⟩ := h.ex
  exact h1.c0 (c := .p) (x := some ⟨bE, 0, none⟩) rfl hk

theorem ref16_Good.cl {me r0 r1 r2 r3 : Int} {w : World} {k : TR [(false, [.b])] → World → Prop} (h : k ((decide (0 ≤ me) && decide (me < 64) && flG r0 r1 r2 r3, ()), ()) w) : clS Tryz.prog F.ref16_Good [.int .i64 me, .int .i64 r0, .int .i64 r1, .int .i64 r2, .int .i64 r3] w false [(false, [.b])] k := by
  refine ref16_Good.ok ?_
  unfold ref16_Good.wp
  refine ref15_Good.cl ?_
  have key : ∀ b : Bool, (b = true ↔ (decide (0 ≤ me) && decide (me < 64) && elG r0 r1) = true ∧ 1 ≤ r2 ∧ r2 ≤ 8 ∧ 0 ≤ r3 ∧ r3 ≤ 10) → k ((b, ()), ()) w := fun b hb => by
    have : b = (decide (0 ≤ me) && decide (me < 64) && flG r0 r1 r2 r3) := by rw [Bool.eq_iff_iff, hb]; simp [flG_iff, and_assoc]
    rw [this]; exact h
  refine brC (fun c0 => brD (fun c1 => brD (fun c2 => brD (fun c3 => key _ ?_) fun c3 => key _ ?_) fun c2 => key _ ?_) fun c1 => key _ ?_) fun c0 => key _ ?_
  all_goals (have c0 : (decide (0 ≤ me) && decide (me < 64) && elG r0 r1) = _ := c0; rw [c0]; simp)
  all_goals omega

theorem ref16_New.cw {me r0 r1 r2 r3 boot : Int} (m0 : 0 ≤ me) (m1 : me < 64) (hg : flG r0 r1 r2 r3 = true) (hb : U16 boot) {w : World} {k : TR [(false, [.p])] → World → Prop}
    (h : ∀ O br bE w', RW w' O br bE ⟨me, r0, r1, r2, r3, 0, 0, 0⟩ ⟨me, r0, r1, boot, 0, -1, 0, 0⟩ [] [] → (∀ z, O z → w.heap.size ≤ z) → Gro w w' → k ((some ⟨br, 0, none⟩, ()), ()) w') :
    clS Tryz.prog F.ref16_New [.int .i64 me, .int .i64 r0, .int .i64 r1, .int .i64 r2, .int .i64 r3, .int .u16 boot] w false [(false, [.p])] k := by
  refine ref16_New.ok ?_
  unfold ref16_New.wp
  refine ref15_New.cl fun bE w2 lE kE u2 => alK_by fun br w4 er kr u4 => ?_
  have l1 := kE.lt
  have l2 := kr.lt
  refine h (fun z => z = br ∨ z = bE) br bE w4 ⟨⟨(none, 0, 0), kr, Ents.nil _, fun a h => by cases h⟩, kE.gro u4, by omega, .inl rfl, .inr rfl, ?_, EI.new m0 m1 (flG_iff.1 hg).1 hb, by simp, by simp, (flG_iff.1 hg).2.1, rfl⟩ ?_ (u2.trans u4)
  · rintro z (rfl | rfl)
    · exact l2
    · have := u4.size; omega
  · rintro z (rfl | rfl)
    · have := u2.size; omega
    · exact lE

set_option maxRecDepth 20000 in
theorem ref16_Flood_forget.cw {O : Nat → Prop} {br bE : Nat} {f : Fl} {e : El} {l : MkL} {es : List E3} {w : World} (hF : RW w O br bE f e l es) {k : TR [] → World → Prop}
    (h : ∀ w', RW w' O br bE (fgF f) e l [] → Upd (fun z => z = br) w w' → k () w') : clS Tryz.prog F.ref16_Flood_forget [.pointer (some ⟨br, 0, none⟩)] w true [] k := by
  refine ref16_Flood_forget.ok ?_
  unfold ref16_Flood_forget.wp
  obtain ⟨⟨s, h1, h2, h3⟩, elb, ne, obr, obE, lt, inv, len, good, need, me⟩ := hF
  rw [ncK_eq]
  refine h1.sN 3 _ (by simp [rfC]) rfl fun w2 k2 u2 => ?_
  rw [ncK_eq]
  refine k2.sN 4 _ (by simp [rfC, splice]) rfl fun w4 k4 u4 => ?_
  rw [ncK_eq]
  refine k4.sN 5 _ (by simp [rfC, splice]) rfl fun w6 k6 u6 => ?_
  rw [ncK_eq]
  refine k6.sN 6 _ (by simp [rfC, splice]) rfl fun w8 k8 u8 => ?_
  have U : Upd (fun z => z = br) w w8 := Upd.trans (Upd.trans (Upd.trans u2 u4 fun _ _ h => h) u6 fun _ _ h => h) u8 fun _ _ h => h
  exact h w8 ⟨⟨(none, 0, 0), k8, Ents.nil _, fun a h => by cases h⟩, elb.upd U (fun h => ne h.symm), ne, obr, obE, fun z hz => Nat.lt_of_lt_of_le (lt z hz) U.size, inv, by simp, by simp, need, me⟩ U

theorem ref16_Flood_Mine.cw {O : Nat → Prop} {br bE : Nat} {f : Fl} {e : El} {l : MkL} {es : List E3} {w : World} (hF : RW w O br bE f e l es) {k : TR [(false, [.b])] → World → Prop}
    (h : ∀ w', Gro w w' → k ((mine e, ()), ()) w') : clS Tryz.prog F.ref16_Flood_Mine [.pointer (some ⟨br, 0, none⟩)] w false [(false, [.b])] k := by
  refine ref16_Flood_Mine.ok ?_
  unfold ref16_Flood_Mine.wp
  rw [drK_eq, ncK_eq]
  have hD := hF.gro (Gro.drew w)
  refine hD.hdr ?_
  rw [ncK_eq]
  refine hD.elb.c1 5 (x := e.root) (r15_get (by decide)) ?_
  rw [ncK_eq]
  refine hD.hdr ?_
  rw [ncK_eq]
  exact hD.elb.c0 (x := e.me) (r15_get (by decide)) (h _ (Gro.drew w))

theorem ref16_Flood_Synced.cw {O : Nat → Prop} {br bE : Nat} {f : Fl} {e : El} {l : MkL} {es : List E3} {w : World} (hF : RW w O br bE f e l es) {k : TR [(false, [.b])] → World → Prop}
    (h : ∀ w', Gro w w' → k ((synF f e es.length, ()), ()) w') : clS Tryz.prog F.ref16_Flood_Synced [.pointer (some ⟨br, 0, none⟩)] w false [(false, [.b])] k := by
  refine ref16_Flood_Synced.ok ?_
  unfold ref16_Flood_Synced.wp
  rw [drK_eq]
  have hD := hF.gro (Gro.drew w)
  refine ref16_Flood_Mine.cw hD fun w3 u3 => ⟨trivial, ?_⟩
  have g3 := (Gro.drew w).trans u3
  unfold synF at h
  refine brC (fun c => ?_) fun c => ?_
  · have := h w3 g3
    rw [show (e.root == e.me) = true from c] at this; exact this
  · have h := h w3 g3
    rw [show (e.root == e.me) = false from c] at h
    obtain ⟨s, h1, h2, h3⟩ := (hF.gro g3).ex
    rw [ncK_eq]
    refine h1.c1 3 (c := .sl) (x := s) rfl ?_
    rw [ncK_eq]
    refine h1.c1 1 (x := f.need) rfl ?_
    dsimp only
    rw [h2.len]; exact h

theorem ref16_time.cl {t : Int} {w : World} {k : TR [(false, [.b])] → World → Prop} (h : k ((inT t, ()), ()) w) : clS Tryz.prog F.ref16_time [.int .i64 t] w false [(false, [.b])] k := by
  refine ref16_time.ok ?_
  unfold ref16_time.wp
  unfold inT at h
  refine brD (fun c => ?_) fun c => ?_
  · have c : t ≥ 0 := c
    rw [decide_eq_true (show 0 ≤ t by omega), Bool.true_and] at h; exact h
  · have c : ¬ t ≥ 0 := c
    rw [decide_eq_false (show ¬ 0 ≤ t by omega), Bool.false_and] at h; exact h

set_option maxRecDepth 20000 in
set_option maxHeartbeats 1000000 in
theorem ref16_Flood_Hear.cw {O : Nat → Prop} {br bE : Nat} {f : Fl} {e : El} {l : MkL} {es : List E3} {p : P14} (hp : UP p) {loc : Int} {w : World} (hF : RW w O br bE f e l es) {k : TR [(false, [.i .i64])] → World → Prop}
    (h0 : hrF e l (syP p) loc = 0 → ∀ w', Gro w w' → k ((0, ()), ()) w')
    (h1 : ∀ c, hrF e l (syP p) loc = c → c ≠ 0 → ∀ w' O', RW w' O' br bE (hfF f (syP p) loc) (hrE e (syP p).2.1) (mset l (syP p).2.1 (mrk (syP p))) (esF c es (syP p) loc) → Nx O w O' w' → k ((c, ()), ()) w') :
    clS Tryz.prog F.ref16_Flood_Hear [.pointer (some ⟨br, 0, none⟩), vP p, .int .i64 loc] w false [(false, [.i .i64])] k := by
  refine ref16_Flood_Hear.ok ?_
  unfold ref16_Flood_Hear.wp
  refine alK_by fun p1 w2 e1 k1 u1 => ?_
  change Blk w2 p1 (encs K14 p) at k1
  have l1 := k1.lt
  obtain ⟨s, hs⟩ : ∃ s : S6, s = syP p := ⟨_, rfl⟩
  rw [← hs] at h0 h1
  have s4 : p.2.2.2.2.2.2.1 = s.2.2.2.2.1 := by rw [hs]; rfl
  have s5 : p.2.2.2.2.2.2.2.1 = s.2.2.2.2.2 := by rw [hs]; rfl
  have bad : ∀ w', Gro w w' → ¬ (0 ≤ s.2.2.2.2.1 ∧ s.2.2.2.2.1 < 63 ∧ 0 ≤ loc ∧ loc ≤ 1125899906842624 ∧ 0 ≤ s.2.2.2.2.2 ∧ s.2.2.2.2.2 ≤ 1125899906842624) → k ((0, ()), ()) w' := fun w' g h => h0 (by
    unfold hrF
    cases ho : okH s loc
    · rfl
    · exact absurd (okH_iff.1 ho) h) w' g
  refine k1.c1 6 (x := s.2.2.2.2.1) (by rw [← s4]; rfl) (brD (fun c => bad w2 u1 (by have c : s.2.2.2.2.1 < 0 := c; omega)) fun c1 => k1.c1 6 (x := s.2.2.2.2.1) (by rw [← s4]; rfl) (brD (fun c => bad w2 u1 (by have c : s.2.2.2.2.1 > 62 := c; omega)) fun c2 => ?_))
  have c1 : ¬ s.2.2.2.2.1 < 0 := c1
  have c2 : ¬ s.2.2.2.2.1 > 62 := c2
  refine ref16_time.cl (brNot (fun c => bad w2 u1 fun h => ?_) fun c3 => ?_)
  · have c : inT loc = false := c
    rw [inT_iff.2 ⟨h.2.2.1, h.2.2.2.1⟩] at c; cases c
  have c3 := inT_iff.1 (show inT loc = true from c3)
  refine k1.c1 7 (x := s.2.2.2.2.2) (by rw [← s5]; rfl) (ref16_time.cl (brNot (fun c => bad w2 u1 fun h => ?_) fun c4 => ?_))
  · have c : inT s.2.2.2.2.2 = false := c
    rw [inT_iff.2 ⟨h.2.2.2.2.1, h.2.2.2.2.2⟩] at c; cases c
  have c4 := inT_iff.1 (show inT s.2.2.2.2.2 = true from c4)
  have ok : okH s loc = true := okH_iff.2 ⟨by omega, by omega, c3.1, c3.2, c4.1, c4.2⟩
  have hN : hrF e l s loc = hrN e l s.2.1 (mrk s) := by unfold hrF; rw [if_pos ok]
  have hx := entF_good ok
  have hmu : U16 (mrk s).1 ∧ U16 (mrk s).2.1 := by rw [hs]; exact hp
  rw [drK_eq, ncK_eq]
  have F10 := (hF.gro u1).gro (Gro.drew _)
  have g10 : Gro w w2.drew := u1.trans (Gro.drew _)
  have k10 := k1.drew
  refine F10.hdr (k10.c1 3 (x := s.2.1) (by rw [hs]; rfl) (k10.c1 4 (c := .i .u16) (x := (mrk s).1) (by rw [hs]; rfl) (k10.c1 5 (c := .i .u16) (x := (mrk s).2.1) (by rw [hs]; rfl) ?_)))
  have np1 : ¬ O p1 := fun h => by have := hF.lt p1 h; omega
  obtain ⟨⟨sl, f1, f2, f3⟩, elb, fne, obr, obE, flt, inv, flen, fgood, fneed, fme⟩ := F10
  refine ref15_Elect_Hear.cl elb inv hmu (fun hz w17 u17 => ⟨trivial, brT rfl (h0 (hN.trans hz) w17 (g10.trans u17))⟩) fun c hc hc0 w17 E17 u17 => ⟨trivial, brF (beq_eq_false_iff_ne.2 hc0) ?_⟩
  have hc' : hrF e l s loc = c := hN.trans hc
  have hmay := hrN_may (by rw [hc]; exact hc0)
  have F17 : RW w17 O br bE f (hrE e s.2.1) (mset l s.2.1 (mrk s)) es :=
    ⟨⟨sl, f1.upd u17 fne, Row.upd f2 u17 fun a ha => (f3 a ha).2.1, f3⟩, E17, fne, obr, obE, fun z hz => Nat.lt_of_lt_of_le (flt z hz) u17.size, inv.hear hmay.1 hmay.2 hmu, flen, fgood, fneed, fme⟩
  have X17 : Nx O w O w17 := Nx.pre g10 ⟨u17.mono fun z h => by rw [h]; exact obE, fun z hz => .inl hz⟩
  have k17 := k10.upd u17 (fun h => by rw [h] at np1; exact np1 obE)
  refine CutT.by (fun _ w' => ∃ f', f'.me = f.me ∧ f'.tmo = f.tmo ∧ f'.ign = f.ign ∧ f'.need = f.need ∧ f'.drift = f.drift ∧ RW w' O br bE f' (hrE e s.2.1) (mset l s.2.1 (mrk s)) (if c = 2 then [] else es) ∧ Nx O w O w' ∧ Blk w' p1 (encs K14 p)) ?_ ?_
  · refine brE (fun c2 => ?_) fun c2 => ?_
    · have c2 : c = 2 := c2
      refine ref16_Flood_forget.cw F17 fun w22 F22 u22 => ⟨fgF f, rfl, rfl, rfl, rfl, rfl, by rw [if_pos c2]; exact F22, X17.trans ⟨u22.mono fun z h => by rw [h]; exact obr, fun z hz => .inl hz⟩, k17.upd u22 (fun h => by rw [h] at np1; exact np1 obr)⟩
    · have c2 : c ≠ 2 := c2
      exact ⟨f, rfl, rfl, rfl, rfl, rfl, by rw [if_neg c2]; exact F17, X17, k17⟩
  rintro _ w20 ⟨f', q1, q2, q3, q4, q5, F20, X20, k20⟩ _
  clear F17 X17 k17 f1 f2 f3
  refine k20.c1 7 (x := s.2.2.2.2.2) (by rw [← s5]; rfl) (k20.c1 6 (x := s.2.2.2.2.1) (by rw [← s4]; rfl) ?_)
  refine alK_by fun p25 w26 e25 k25 u26 => k25.sta _ rfl rfl fun w27 k27 u27 => ?_
  have g27 : Gro w20 w27 := Gro.fresh (Gro.refl _) u26 u27 e25
  change Blk w27 p25 (encs [.i .i64, .i .i64, .i .i64] ((entF s loc).1, (entF s loc).2.1, (entF s loc).2.2, ())) at k27
  rw [drK_eq, ncK_eq]
  have F28 := (F20.gro g27).gro (Gro.drew _)
  have g28 : Gro w20 w27.drew := g27.trans (Gro.drew _)
  obtain ⟨⟨sl, f1, f2, f3⟩, elb8, _, _, _, flt8, inv8, flen8, fgood8, fneed8, fme8⟩ := F28
  refine f1.c1 3 (c := .sl) (x := sl) rfl (k27.drew.ld3 ?_)
  refine ref12_Add.cl (e := entF s loc) f2 flen8 fun s' w33 u33 E33 hs' => ⟨trivial, ?_⟩
  have lbr := f1.lt
  have lbE := elb8.lt
  have own : ∀ a, s'.1 = some a → (a.block ≠ br ∧ a.block ≠ bE ∧ (O a.block ∨ w20.heap.size ≤ a.block)) ∧ a.block < w33.heap.size := fun a ha => by
    rcases hs' with rfl | h
    · exact ⟨⟨(f3 a ha).1, (f3 a ha).2.1, .inl (f3 a ha).2.2⟩, Nat.lt_of_lt_of_le (flt8 _ (f3 a ha).2.2) u33.size⟩
    · have := h a ha; have := g28.size; exact ⟨⟨by omega, by omega, .inr (by omega)⟩, by omega⟩
  refine CutT.by (fun z w' => Gro w33 w' ∧ Ents w' z.1 (esF c es s loc) ∧ (∀ a, z.1.1 = some a → (a.block ≠ br ∧ a.block ≠ bE ∧ (O a.block ∨ w20.heap.size ≤ a.block)) ∧ a.block < w'.heap.size)) ?_ ?_
  · refine brN (fun cn => ?_) fun cn => ?_
    · have cn : addN (if c = 2 then [] else es) (entF s loc) ≠ 0 := cn
      refine (k27.drew.gro u33).ld3 (ref12_Add.cl (s := (none, 0, 0)) (es := []) (e := entF s loc) (Ents.nil _) (by simp) fun s2 w39 u39 E39 hs2 => ⟨u39, ?_, fun a ha => ?_⟩)
      · unfold esF adF; rw [if_neg cn]; rw [adF_one hx] at E39; exact E39
      · rcases hs2 with h | h
        · have ha : s2.1 = some a := ha
          rw [h] at ha; cases ha
        · have := h a ha; have := g28.size; have := u33.size; exact ⟨⟨by omega, by omega, .inr (by omega)⟩, by omega⟩
    · have cn : addN (if c = 2 then [] else es) (entF s loc) = 0 := cn
      refine ⟨Gro.refl _, ?_, own⟩
      unfold esF adF; rw [if_pos cn]; exact E33
  rintro ⟨sz, _⟩ w36 ⟨g36, E36, own36⟩ _
  dsimp only at E36 own36
  have f36 := (g28.trans u33).trans g36
  have b36 := (f1.gro u33).gro g36
  have k36 := k20.gro f36
  have np : p1 ≠ br := fun h => by rw [h] at np1; exact np1 obr
  rw [ncK_eq]
  refine b36.sN 3 _ (by simp [rfC]) rfl fun w41 k41 u41 => ?_
  rw [ncK_eq]
  refine k41.sN 4 _ (by simp [rfC, splice]) rfl fun w43 k43 u43 => ?_
  refine ((k36.upd u41 np).upd u43 np).c1 7 (x := s.2.2.2.2.2) (by rw [← s5]; rfl) ?_
  rw [ncK_eq]
  refine k43.sN 5 _ (by simp [rfC, splice]) rfl fun w46 k46 u46 => ?_
  refine (((k36.upd u41 np).upd u43 np).upd u46 np).c1 6 (x := s.2.2.2.2.1) (by rw [← s4]; rfl) ?_
  rw [ncK_eq]
  refine k46.sN 6 _ (by simp [rfC, splice]) rfl fun w49 k49 u49 => ?_
  have U : Upd (fun z => z = br) w36 w49 := Upd.trans (Upd.trans (Upd.trans u41 u43 fun _ _ h => h) u46 fun _ _ h => h) u49 fun _ _ h => h
  have efl : hfF f s loc = { f' with ll := loc, lg := s.2.2.2.2.2, lh := IntKind.wrap .i64 (s.2.2.2.2.1 + 1) } := by
    unfold hfF; rw [q1, q2, q3, q4, q5]
  refine h1 c hc' hc0 w49 (fun z => O z ∨ ∃ a, sz.1 = some a ∧ a.block = z) ⟨⟨sz, ?_, Row.upd E36 U fun a ha => (own36 a ha).1.1, fun a ha => ⟨(own36 a ha).1.1, (own36 a ha).1.2.1, .inr ⟨a, ha, rfl⟩⟩⟩, (F20.elb.gro f36).upd U (fun h => fne h.symm), fne, .inl obr, .inl obE, ?_, F20.inv, ?_, ?_, ?_, ?_⟩ ⟨?_, ?_⟩
  · rw [efl]; exact k49
  · rintro z (hz | ⟨a, ha, rfl⟩)
    · exact Nat.lt_of_lt_of_le (F20.lt z hz) (Nat.le_trans f36.size U.size)
    · exact Nat.lt_of_lt_of_le (own36 a ha).2 U.size
  · exact adF_len F20.len
  · exact adF_good F20.good hx
  · rw [efl]; exact F20.need
  · exact fme
  · refine Upd.trans (X20.u.gro f36) U fun i hi h => by rw [h]; exact obr
  · rintro z (hz | ⟨a, ha, rfl⟩)
    · exact .inl hz
    · rcases (own36 a ha).1.2.2 with h | h
      · exact .inl h
      · exact .inr (Nat.le_trans X20.u.size h)
end Go.Proofs.YtnjmfbjgcfnanaaGreat
/- Contracts of the document's layer 16: a flood beats, tells its time. Conditions: what an election keeps (EI). -/
namespace Go.Proofs.YtnjmfbjgcfnanaaGreat
open Go.Eng Go
set_option linter.unusedVariables false
set_option linter.unusedSimpArgs false

/-- a step of the election alone -/
theorem RW.turnE {O : Nat → Prop} {br bE : Nat} {f : Fl} {e : El} {l : MkL} {es : List E3} {w : World} (hF : RW w O br bE f e l es) {w' : World} {e' : El} (hE : Blk w' bE (r15 e' l)) (u : Upd (fun z => z = bE) w w') (hI : EI e' l) (hm : e'.me = e.me) :
    RW w' O br bE f e' l es ∧ Nx O w O w' := by
  obtain ⟨⟨s, h1, h2, h3⟩, elb, ne, obr, obE, lt, inv, len, good, need, me⟩ := hF
  exact ⟨⟨⟨s, h1.upd u ne, Row.upd h2 u fun a ha => (h3 a ha).2.1, h3⟩, hE, ne, obr, obE, fun z hz => Nat.lt_of_lt_of_le (lt z hz) u.size, hI, len, good, need, me.trans hm.symm⟩, u.mono fun z h => by rw [h]; exact obE, fun z hz => .inl hz⟩

set_option maxRecDepth 20000 in
set_option maxHeartbeats 2000000 in
theorem ref16_Flood_Beat.cw {O : Nat → Prop} {br bE : Nat} {f : Fl} {e : El} {l : MkL} {es : List E3} {loc : Int} {w : World} (hF : RW w O br bE f e l es) {k : TR [(true, K14)] → World → Prop}
    (h : ∀ w' O', RW w' O' br bE (b1f f e) (b2e e loc) l (b1l e es) → Nx O w O' w' → k (if (btF f e l es loc).2 = true then plP (btF f e l es loc).1 else pl0, ()) w') :
    clS Tryz.prog F.ref16_Flood_Beat [.pointer (some ⟨br, 0, none⟩), .int .i64 loc] w false [(true, K14)] k := by
  refine ref16_Flood_Beat.ok ?_
  unfold ref16_Flood_Beat.wp
  refine alK_by fun p1 w2 e1 k1 u1 => ?_
  change Blk w2 p1 (encs K14 pl0) at k1
  have np1 : ¬ O p1 := fun h => by have := hF.lt p1 h; omega
  have F2 := hF.gro u1
  have l1 := k1.lt
  have hk := btE_keep e
  unfold btF b2e at h
  refine CutT.by (fun _ w' => ∃ O', RW w' O' br bE (b1f f e) (btE e) l (b1l e es) ∧ Nx O w O' w' ∧ Blk w' p1 (encs K14 pl0) ∧ ¬ O' p1) ?_ ?_
  · rw [ncK_eq]
    refine F2.hdr (ref15_Elect_Beat.cl F2.elb F2.inv fun w11 E11 u11 => ?_)
    obtain ⟨F11, X11⟩ := F2.turnE E11 u11 hF.inv.beat hk.1
    have k11 := X11.blk k1 np1
    have X11' := Nx.pre u1 X11
    refine brC (fun c => ?_) fun c => ?_
    · have c : btB e = true := c
      refine ref16_Flood_forget.cw F11 fun w13 F13 u13 => ⟨O, ?_, X11'.trans ⟨u13.mono fun z h => by rw [h]; exact hF.obr, fun z hz => .inl hz⟩, k11.1.upd u13 (fun h => by rw [h] at np1; exact np1 hF.obr), np1⟩
      unfold b1f b1l; rw [if_pos c, if_pos c]; exact F13
    · have c : ¬ btB e = true := by have c : btB e = false := c; rw [c]; simp
      refine ⟨O, ?_, X11', k11⟩
      unfold b1f b1l; rw [if_neg c, if_neg c]; exact F11
  rintro _ w7 ⟨O', F7, X7, k7, n7⟩ _
  have l7 := k7.lt
  have fin : ∀ {O'' : Nat → Prop} {w' w'' : World} {f' e' l' es'}, RW w' O'' br bE f' e' l' es' → Nx O w O'' w' → ¬ O'' p1 → Upd (fun x => x = p1) w' w'' → RW w'' O'' br bE f' e' l' es' ∧ Nx O w O'' w'' := fun hf X n u =>
    ⟨hf.upd u fun z hz h => by rw [h] at hz; exact n hz, Upd.trans X.u u fun i hi h => by omega, X.sub⟩
  refine ref16_time.cl (brNot (fun c => ?_) fun c => ?_)
  · have c : ¬ inT loc = true := by have c : inT loc = false := c; rw [c]; simp
    rw [if_neg c, if_neg c] at h
    refine k7.sta _ rfl rfl fun w14 k14 u14 => k14.cA (cs := K14) pl0 rfl ?_
    obtain ⟨F14, X14⟩ := fin F7 X7 n7 u14
    exact h w14 O' F14 X14
  have hin : inT loc = true := c
  rw [if_pos hin, if_pos hin] at h
  unfold btW wdF at h
  generalize b1f f e = f1 at *
  generalize b1l e es = es1 at *
  generalize btE e = e1 at *
  refine ref16_Flood_Mine.cw F7 fun w17 u17 => ?_
  have F17 := F7.gro u17
  have X17 := X7.gro u17
  have k17 := k7.gro u17
  refine brC (fun c => ?_) fun c => ?_
  · have c : mine e1 = true := c
    rw [if_pos c, if_pos rfl, if_pos rfl] at h
    rw [drK_eq, ncK_eq]
    have F18 := F17.gro (Gro.drew _)
    refine F18.hdr ?_
    rw [ncK_eq]
    refine F18.hdr ?_
    rw [ncK_eq]
    refine F18.elb.c1 4 (c := .i .u16) (x := e1.seq) (r15_get (by decide)) (ref02_Next.cl F18.inv.seq ?_)
    obtain ⟨s8, b8, _⟩ := F18.ex
    refine ⟨⟨b8.hold (Gro.refl _) (fun x => x) 0 (by simp [rfC]), b8.hold (Gro.refl _) (fun x => x) 0 (by simp [rfC]), trivial⟩, ?_⟩
    rw [ncK_eq]
    refine F18.elb.sN 4 _ (by simp [r15_len]) rfl fun w28 k28 u28 => ⟨trivial, ?_⟩
    have he : isE e1 = { e1 with seq := IntKind.wrap .u16 (e1.seq + 1) } := by unfold isE; rw [if_pos c]
    have k28 : Blk w28 bE (r15 (isE e1) l) := by
      rw [he]
      have : (r15 e1 l).set 4 (.int .u16 (IntKind.wrap .u16 (e1.seq + 1))) = r15 { e1 with seq := IntKind.wrap .u16 (e1.seq + 1) } l := r15_set (by decide) rfl fun i hi hn => by
        match i, hn with
        | 0, _ => rfl
        | 1, _ => rfl
        | 2, _ => rfl
        | 3, _ => rfl
        | 4, h => exact absurd rfl h
        | 5, _ => rfl
        | 6, _ => rfl
        | 7, _ => rfl
        | j + 8, _ => rfl
      rw [← this]; exact k28
    obtain ⟨F28, X28⟩ := F18.turnE k28 u28 F18.inv.isE (by rw [he])
    have X28 := (X17.gro (Gro.drew _)).trans X28
    have kp28 := (k17.gro (Gro.drew _)).upd u28 (fun h => by rw [h] at n7; exact n7 F7.obE)
    rw [drK_eq, ncK_eq]
    have F29 := F28.gro (Gro.drew _)
    have hm2 : (isE e1).me = e1.me := by rw [he]
    refine F29.hdr ?_
    rw [ncK_eq]
    refine F29.elb.c0 (x := e1.me) ((r15_get (by decide)).trans (by rw [← hm2]; rfl)) ?_
    rw [ncK_eq]
    refine F29.hdr ?_
    rw [ncK_eq]
    refine F29.elb.c0 (x := e1.me) ((r15_get (by decide)).trans (by rw [← hm2]; rfl)) ?_
    rw [ncK_eq]
    refine F29.hdr ?_
    rw [ncK_eq]
    refine F29.elb.c1 3 (c := .i .u16) (x := e1.boot) ((r15_get (by decide)).trans (by rw [he]; rfl)) ?_
    rw [ncK_eq]
    refine F29.hdr ?_
    rw [ncK_eq]
    refine F29.elb.c1 4 (c := .i .u16) (x := IntKind.wrap .u16 (e1.seq + 1)) ((r15_get (by decide)).trans (by rw [he]; rfl)) ?_
    have hf1 : f1.me = e1.me := F7.me
    refine kp28.drew.sta _ rfl rfl fun w46 k46 u46 => ⟨trivial, ?_⟩
    refine k46.cA (cs := K14) (plP (e1.me, e1.me, e1.boot, IntKind.wrap .u16 (e1.seq + 1), 0, loc)) rfl ?_
    obtain ⟨F46, X46⟩ := fin F29 (X28.gro (Gro.drew _)) n7 u46
    have := h w46 O' F46 X46
    unfold isM at this
    rw [if_pos c, hf1] at this
    exact this
  · have c : ¬ mine e1 = true := by have c : mine e1 = false := c; rw [c]; simp
    rw [if_neg c, isE_no c] at h
    refine ref16_Flood_Synced.cw F17 fun w49 u49 => ?_
    have F49 := F17.gro u49
    have X49 := X17.gro u49
    have k49 := k17.gro u49
    refine brNot (fun c2 => ?_) fun c2 => ?_
    · have c2 : synF f1 e1 es1.length = false := c2
      rw [if_pos c2] at h
      refine k49.sta _ rfl rfl fun w50 k50 u50 => k50.cA (cs := K14) pl0 rfl ?_
      obtain ⟨F50, X50⟩ := fin F49 X49 n7 u50
      exact h w50 O' F50 X50
    · have c2 : ¬ synF f1 e1 es1.length = false := by have c2 : synF f1 e1 es1.length = true := c2; rw [c2]; simp
      rw [if_neg c2] at h
      rw [ncK_eq]
      refine F49.hdr (ref15_Elect_Mark.cl F49.elb F49.inv fun w55 u55 => ?_)
      rw [drK_eq, ncK_eq]
      have g56 : Gro w49 w55.drew := u55.trans (Gro.drew _)
      have F56 := F49.gro g56
      have X56 := X49.gro g56
      have k56 := k49.gro g56
      obtain ⟨s6, b6, _⟩ := F56.ex
      refine F56.hdr ?_
      rw [ncK_eq]
      refine F56.elb.c0 (x := e1.me) (r15_get (by decide)) ?_
      rw [ncK_eq]
      refine F56.hdr ?_
      rw [ncK_eq]
      refine F56.elb.c1 5 (x := e1.root) (r15_get (by decide)) ?_
      rw [ncK_eq]
      refine b6.c1 6 (x := f1.lh) rfl ?_
      rw [ncK_eq]
      refine b6.c1 5 (x := f1.lg) rfl ?_
      rw [ncK_eq]
      refine b6.c1 4 (x := f1.ll) rfl ?_
      refine alK_by fun p71 w72 e71 k71 u72 => ⟨⟨b6.hold u72 (fun x => x) 4 (by simp [rfC]), b6.hold u72 (fun x => x) 5 (by simp [rfC]), b6.hold u72 (fun x => x) 6 (by simp [rfC]), F56.elb.hold u72 (fun x => x) 5 (by rw [r15_len]; decide), b6.hold u72 (fun x => x) 0 (by simp [rfC]), F56.elb.hold u72 (fun x => x) 0 (by rw [r15_len]; decide), b6.hold u72 (fun x => x) 0 (by simp [rfC]), trivial⟩, ?_⟩
      refine k71.sta _ rfl rfl fun w73 k73 u73 => ⟨trivial, ?_⟩
      have g73 : Gro w55.drew w73 := Gro.fresh (Gro.refl _) u72 u73 e71
      have hfw : fwS f1 e1 l loc = (e1.me, e1.root, (mkM e1 l).1, (mkM e1 l).2.1, f1.lh, IntKind.wrap .i64 (IntKind.wrap .i64 (f1.lg + loc) - f1.ll)) := by unfold fwS; rw [F7.me]
      change Blk w73 p71 (encs K14 (plP (e1.me, e1.root, (mkM e1 l).1, (mkM e1 l).2.1, f1.lh, IntKind.wrap .i64 (IntKind.wrap .i64 (f1.lg + loc) - f1.ll)))) at k73
      rw [← hfw] at k73
      have n71 : p71 ≠ p1 := by have := k56.lt; omega
      refine k73.cA (cs := K14) (plP (fwS f1 e1 l loc)) rfl (ref05_Good.cl1 (x := plP (fwS f1 e1 l loc)) rfl fun w76 u76 => ?_)
      rw [syP_plP]
      have F76 := (F56.gro g73).gro u76
      have X76 := (X56.gro g73).gro u76
      have k76 := (k56.gro g73).gro u76
      refine brNot (fun c3 => ?_) fun c3 => ?_
      · have c3 : ¬ okF (flS (fwS f1 e1 l loc)) = true := by have c3 : okF (flS (fwS f1 e1 l loc)) = false := c3; rw [c3]; simp
        rw [if_neg c3] at h
        refine k76.sta _ rfl rfl fun w77 k77 u77 => k77.cA (cs := K14) pl0 rfl ?_
        obtain ⟨F77, X77⟩ := fin F76 X76 n7 u77
        exact h w77 O' F77 X77
      · have c3 : okF (flS (fwS f1 e1 l loc)) = true := c3
        rw [if_pos c3, if_pos rfl] at h
        refine (k73.gro u76).cA (cs := K14) (plP (fwS f1 e1 l loc)) rfl (k76.sta _ rfl rfl fun w80 k80 u80 => k80.cA (cs := K14) (plP (fwS f1 e1 l loc)) rfl ?_)
        obtain ⟨F80, X80⟩ := fin F76 X76 n7 u80
        exact h w80 O' F80 X80

set_option maxRecDepth 20000 in
set_option maxHeartbeats 1000000 in
theorem ref16_Flood_Time.cw {O : Nat → Prop} {br bE : Nat} {f : Fl} {e : El} {l : MkL} {es : List E3} {loc : Int} {w : World} (hF : RW w O br bE f e l es) {k : TR [(false, [.i .i64]), (false, [.i .i64]), (false, [.i .i64])] → World → Prop}
    (h : ∀ w', Gro w w' → k (((tmF f e es loc).1, ()), ((tmF f e es loc).2.1, ()), ((tmF f e es loc).2.2, ()), ()) w') :
    clS Tryz.prog F.ref16_Flood_Time [.pointer (some ⟨br, 0, none⟩), .int .i64 loc] w true [(false, [.i .i64]), (false, [.i .i64]), (false, [.i .i64])] k := by
  refine ref16_Flood_Time.ok ?_
  unfold ref16_Flood_Time.wp
  unfold tmF at h
  refine ref16_Flood_Synced.cw hF fun w2 u2 => brNot (fun c => ?_) fun c => ?_
  · have c : synF f e es.length = false := c
    rw [if_pos c] at h; exact h w2 u2
  have cs : ¬ synF f e es.length = false := by have c : synF f e es.length = true := c; rw [c]; simp
  rw [if_neg cs] at h
  have F2 := hF.gro u2
  refine ref16_time.cl (brNot (fun c => ?_) fun c => ?_)
  · have c : inT loc = false := c
    rw [if_pos c] at h; exact h _ u2
  have ct : ¬ inT loc = false := by have c : inT loc = true := c; rw [c]; simp
  rw [if_neg ct] at h
  refine ref16_Flood_Mine.cw F2 fun w6 u6 => ?_
  have F6 := F2.gro u6
  have g6 := u2.trans u6
  refine brC (fun c => ?_) fun c => ?_
  · have c : mine e = true := c
    rw [if_pos c] at h; exact h _ g6
  have cm' : mine e = false := c
  have cm : ¬ mine e = true := by rw [cm']; simp
  rw [if_neg cm] at h
  have hne : es ≠ [] := by
    intro h0; subst h0
    refine cs ?_
    unfold synF
    have : (e.root == e.me) = false := cm'
    rw [this]
    have := hF.need
    simp; omega
  have hMB : MB f.drift (mapV f.drift es) := mapV_MB hne hF.good
  generalize hm : mapV f.drift es = m at *
  have hm5 : m.2.2.2.2 = maxH es := by rw [← hm]; rfl
  refine CutT.by (fun z w' => Gro w w' ∧ ∃ p, z.1 = ⟨p, 0, none⟩ ∧ Blk w' p (m5 m)) ?_ ?_
  · rw [drK_eq]
    have gd : Gro w w6.drew := g6.trans (Gro.drew _)
    obtain ⟨s, b1, E1, _⟩ := (hF.gro gd).ex
    rw [ncK_eq]
    refine b1.c1 2 (x := f.drift) rfl ?_
    rw [ncK_eq]
    refine b1.c1 3 (c := .sl) (x := s) rfl ?_
    have hd : ∀ {w' : World}, Gro w6.drew w' → Hold [(7, (Addr.add ⟨br, 0, none⟩ 3), (w6.drew.cell? (Addr.add ⟨br, 0, none⟩ 3)).getD undef), (3, (Addr.add ⟨br, 0, none⟩ 2), (w6.drew.cell? (Addr.add ⟨br, 0, none⟩ 2)).getD undef)] w' := fun u => ⟨b1.hold u (fun x => x) 3 (by simp [rfC]), b1.hold u (fun x => x) 2 (by simp [rfC]), trivial⟩
    refine ⟨?_, ?_⟩
    · refine ref14_Of.cl E1 hF.len hF.good (fun h => absurd h hne) fun _ w16 u16 => ⟨hd u16, ?_⟩
      rw [hm]
      refine alK_by fun p17 w18 e17 k17 u18 => ⟨hd (u16.trans u18), k17.sta _ rfl rfl fun w19 k19 u19 => ⟨trivial, ?_⟩⟩
      exact ⟨gd.trans (Gro.fresh u16 u18 u19 e17), p17, rfl, k19⟩
    · refine alK_by fun p20 w21 e20 k20 u21 => ⟨hd u21, ?_⟩
      refine ref14_Of.cl (E1.gro u21) hF.len hF.good (fun h => absurd h hne) fun _ w23 u23 => ⟨trivial, ?_⟩
      rw [hm]
      refine (k20.gro u23).sta _ rfl rfl fun w24 k24 u24 => ⟨trivial, ?_⟩
      refine ⟨gd.trans (Upd.trans (u21.trans u23) u24 fun i hi h => ?_), p20, rfl, k24⟩
      omega
  · rintro ⟨z, _⟩ w9 ⟨g9, p, hz, kp⟩ _
    dsimp only at hz
    subst hz
    refine kp.cA (cs := [.i .i64, .i .i64, .i .i64, .i .i64, .i .i64]) (t5 m) rfl ?_
    refine ref14_Global.cl (m := m) hMB fun w27 u27 => brNot (fun c => ?_) fun c => ?_
    · have c : okG m loc = false := c
      rw [if_neg (by rw [c]; simp)] at h
      exact h _ (g9.trans u27)
    · have c : okG m loc = true := c
      rw [if_pos c] at h
      rw [drK_eq]
      refine (kp.gro u27).drew.c1 4 (x := m.2.2.2.2) rfl ?_
      rw [hm5]
      exact h _ ((g9.trans u27).trans (Gro.drew _))
end Go.Proofs.YtnjmfbjgcfnanaaGreat
