/- Contracts of the document's layer 15: an election with rows of 64. Conditions: what an election keeps (EI). -/
import Derived.Test.YtahojpppjpfjmaaGreatCfloS
namespace Go.Proofs.YtahojpppjpfjmaaGreat
open Go.Eng Go
set_option linter.unusedVariables false
set_option linter.unusedSimpArgs false

theorem ref02_Newer.cl {a b : Int} (ha : U16 a) (hb : U16 b) {w : World} {k : TR [(false, [.b])] → World → Prop} (h : k ((nwr a b, ()), ()) w) : clS Tryz.prog F.ref02_Newer [.int .u16 a, .int .u16 b] w false [(false, [.b])] k := by
  refine ref02_Newer.ok ?_
  unfold ref02_Newer.wp
  rw [nzK_eq (by decide)]
  unfold U16 at ha hb
  rw [w64_in (n := a) (by unfold I64; omega), w64_in (n := b) (by unfold I64; omega), w64_in (n := a + 65536) (by unfold I64; omega), w64_in (n := a + 65536 - b) (by unfold I64; omega), Int.tmod_eq_emod_of_nonneg (by omega)]
  have key : ∀ x : Bool, (x = true ↔ 1 ≤ (a + 65536 - b) % 65536 ∧ (a + 65536 - b) % 65536 ≤ 32767) → k ((x, ()), ()) w := fun x hx => by
    have : x = nwr a b := by
      rw [Bool.eq_iff_iff, hx]
      unfold nwr
      rw [decide_eq_true_iff, wi16, wu16]
      omega
    rw [this]; exact h
  refine brD (fun c => key _ ?_) fun c => key _ ?_
  · have c : (a + 65536 - b) % 65536 ≥ 1 := c
    rw [decide_eq_true_iff]; omega
  · have c : ¬ (a + 65536 - b) % 65536 ≥ 1 := c
    simp; omega
theorem ref02_Next.cl {a : Int} (ha : U16 a) {w : World} {k : TR [(false, [.i .u16])] → World → Prop} (h : k ((IntKind.wrap .u16 (a + 1), ()), ()) w) : clS Tryz.prog F.ref02_Next [.int .u16 a] w false [(false, [.i .u16])] k := by
  refine ref02_Next.ok ?_
  unfold ref02_Next.wp
  rw [nzK_eq (by decide)]
  unfold U16 at ha
  rw [w64_in (n := a) (by unfold I64; omega), w64_in (n := a + 1) (by unfold I64; omega), Int.tmod_eq_emod_of_nonneg (by omega)]
  have : IntKind.wrap .u16 ((a + 1) % 65536) = IntKind.wrap .u16 (a + 1) := by rw [wu16, wu16]; omega
  rw [this]; exact h
theorem nwr_refl (a : Int) : nwr a a = false := by
  unfold nwr; rw [Int.sub_self]; decide
theorem ref15_Newer.cl {m o : Tvs MK} (hm : U16 m.1 ∧ U16 m.2.1) (ho : U16 o.1 ∧ U16 o.2.1) {w : World} {k : TR [(false, [.b])] → World → Prop} (h : k ((newM m o, ()), ()) w) :
    clS Tryz.prog F.ref15_Newer [.int .u16 m.1, .int .u16 m.2.1, .int .u16 o.1, .int .u16 o.2.1] w false [(false, [.b])] k := by
  refine ref15_Newer.ok ?_
  unfold ref15_Newer.wp
  unfold newM at h
  refine brE (fun c => ?_) fun c => ?_
  · have c : m.1 = o.1 := c
    rw [if_neg (by rw [c, nwr_refl]; simp), if_pos c] at h
    exact ref02_Newer.cl hm.2 ho.2 h
  · have c : m.1 ≠ o.1 := c
    rw [if_neg c] at h
    refine ref02_Newer.cl hm.1 ho.1 ?_
    cases hn : nwr m.1 o.1
    · rw [if_neg (by rw [hn]; simp)] at h; exact h
    · rw [if_pos hn] at h; exact h

/-- what an election keeps -/
structure EI (e : El) (l : MkL) : Prop where
  me0 : 0 ≤ e.me
  me1 : e.me < 64
  tmo : 1 ≤ e.tmo ∧ e.tmo ≤ 1000
  ign : 0 ≤ e.ign ∧ e.ign ≤ 1000
  beats : 0 ≤ e.beats ∧ e.beats ≤ 1000
  quiet : 0 ≤ e.quiet ∧ e.quiet ≤ 1000
  root : -1 ≤ e.root ∧ e.root ≤ e.me
  known : 0 ≤ e.root → e.root ≠ e.me → (mget l e.root).isSome = true
  boot : U16 e.boot
  seq : U16 e.seq
  marks : ∀ (k : Int) (m : Tvs MK), mget l k = some m → U16 m.1 ∧ U16 m.2.1

def kn (l : MkL) (i : Nat) : Bool := (mget l (i : Int)).isSome
def mk (l : MkL) (i : Nat) : Tvs MK := (mget l (i : Int)).getD (0, 0, ())
def rc (e : El) (l : MkL) : Nat → Value
  | 0 => .int .i64 e.me
  | 1 => .int .i64 e.tmo
  | 2 => .int .i64 e.ign
  | 3 => .int .u16 e.boot
  | 4 => .int .u16 e.seq
  | 5 => .int .i64 e.root
  | 6 => .int .i64 e.beats
  | 7 => .int .i64 e.quiet
  | j + 8 => if j < 64 then .bool (kn l j) else if j < 128 then .int .u16 (mk l (j - 64)).1 else .int .u16 (mk l (j - 128)).2.1
theorem rc8 (e : El) (l : MkL) (j : Nat) : rc e l (j + 8) = if j < 64 then .bool (kn l j) else if j < 128 then .int .u16 (mk l (j - 64)).1 else .int .u16 (mk l (j - 128)).2.1 := rfl
def r15 (e : El) (l : MkL) : List Value := (List.range 200).map (rc e l)
theorem r15_len (e : El) (l : MkL) : (r15 e l).length = 200 := by unfold r15; rw [List.length_map, List.length_range]
theorem r15_get {e : El} {l : MkL} {j : Nat} (h : j < 200) : (r15 e l)[j]? = some (rc e l j) := by
  unfold r15; rw [List.getElem?_map, List.getElem?_range h]; rfl
theorem r15_kn {e : El} {l : MkL} {k : Nat} (h : k < 64) : (r15 e l)[8 + k]? = some (.bool (kn l k)) := by
  rw [r15_get (by omega), show 8 + k = k + 8 by omega]
  rw [rc8, if_pos h]
theorem r15_bo {e : El} {l : MkL} {k : Nat} (h : k < 64) : (r15 e l)[72 + k]? = some (.int .u16 (mk l k).1) := by
  rw [r15_get (by omega), show 72 + k = (k + 64) + 8 by omega]
  rw [rc8, if_neg (by omega), if_pos (by omega), Nat.add_sub_cancel]
theorem r15_sq {e : El} {l : MkL} {k : Nat} (h : k < 64) : (r15 e l)[136 + k]? = some (.int .u16 (mk l k).2.1) := by
  rw [r15_get (by omega), show 136 + k = (k + 128) + 8 by omega]
  rw [rc8, if_neg (by omega), if_neg (by omega), Nat.add_sub_cancel]
theorem r15_eq {cs : List Value} {e : El} {l : MkL} (hl : cs.length = 200) (h : ∀ i, i < 200 → cs[i]? = some (rc e l i)) : cs = r15 e l := by
  apply List.ext_getElem?
  intro i
  by_cases hi : i < 200
  · rw [h i hi, r15_get hi]
  · rw [List.getElem?_eq_none (by omega), List.getElem?_eq_none (by rw [r15_len]; omega)]
theorem set_get {cs : List Value} {j i : Nat} {v u : Value} (hj : j < cs.length) (h : i ≠ j → cs[i]? = some u) (h2 : i = j → v = u) : (cs.set j v)[i]? = some u := by
  rw [List.getElem?_set]
  by_cases c : j = i
  · rw [if_pos c, if_pos hj, h2 c.symm]
  · rw [if_neg c]; exact h (fun x => c x.symm)
theorem Blk.sN2 {b : Nat} {k : World → Prop} (o p : Nat) (vs : List Value) {w : World} {cs : List Value} (h : Blk w b cs) (hi : o + p + vs.length ≤ cs.length) (hv : vs.all okc = true)
    (hk : ∀ w', Blk w' b (splice cs (o + p) vs) → Upd (fun x => x = b) w w' → k w') : stN vs (Addr.add (Addr.add ⟨b, 0, none⟩ o) p) 0 w k := by
  rw [add_add]; exact h.sN (o + p) vs hi hv hk
/-- an int of the head, written -/
theorem r15_set {e e' : El} {l l' : MkL} {j : Nat} {v : Value} (hj : j < 8) (hv : v = rc e' l' j) (h : ∀ i, i < 200 → i ≠ j → rc e' l' i = rc e l i) : (r15 e l).set j v = r15 e' l' := by
  refine r15_eq (by rw [List.length_set, r15_len]) fun i hi => set_get (by rw [r15_len]; omega) (fun c => ?_) fun c => by rw [c]; exact hv
  rw [r15_get hi, h i hi c]

theorem kn_set {l : MkL} {k i : Nat} {m : Tvs MK} : kn (mset l (k : Int) m) i = if i = k then true else kn l i := by
  unfold kn; rw [mget_mset]
  by_cases c : i = k
  · subst c; simp
  · rw [if_neg (by omega), if_neg c]
theorem mk_set {l : MkL} {k i : Nat} {m : Tvs MK} : mk (mset l (k : Int) m) i = if i = k then m else mk l i := by
  unfold mk; rw [mget_mset]
  by_cases c : i = k
  · subst c; simp
  · rw [if_neg (by omega), if_neg c]
set_option maxRecDepth 20000 in
theorem r15_hear {e : El} {l : MkL} {k : Nat} {m : Tvs MK} (hk : k < 64) :
    ((((((r15 e l).set (8 + k) (.bool true)).set (72 + k) (.int .u16 m.1)).set (136 + k) (.int .u16 m.2.1)).set 5 (.int .i64 (k : Int))).set 6 (.int .i64 0)).set 7 (.int .i64 0) = r15 (hrE e k) (mset l k m) := by
  refine r15_eq (by simp [r15_len]) fun i hi => ?_
  refine set_get (by simp [r15_len]) (fun c7 => ?_) fun c => by rw [c]; rfl
  refine set_get (by simp [r15_len]) (fun c6 => ?_) fun c => by rw [c]; rfl
  refine set_get (by simp [r15_len]) (fun c5 => ?_) fun c => by rw [c]; rfl
  refine set_get (by simp [r15_len]; omega) (fun c3 => ?_) fun c => ?_
  · refine set_get (by simp [r15_len]; omega) (fun c2 => ?_) fun c => ?_
    · refine set_get (by simp [r15_len]; omega) (fun c1 => ?_) fun c => ?_
      · rw [r15_get hi]
        match i, hi, c1, c2, c3, c5, c6, c7 with
        | 0, _, _, _, _, _, _, _ => rfl
        | 1, _, _, _, _, _, _, _ => rfl
        | 2, _, _, _, _, _, _, _ => rfl
        | 3, _, _, _, _, _, _, _ => rfl
        | 4, _, _, _, _, _, _, _ => rfl
        | 5, _, _, _, _, c, _, _ => exact absurd rfl c
        | 6, _, _, _, _, _, c, _ => exact absurd rfl c
        | 7, _, _, _, _, _, _, c => exact absurd rfl c
        | j + 8, hj, c1, c2, c3, _, _, _ =>
          show some (if j < 64 then Value.bool (kn l j) else if j < 128 then .int .u16 (mk l (j - 64)).1 else .int .u16 (mk l (j - 128)).2.1) = some (if j < 64 then Value.bool (kn (mset l k m) j) else if j < 128 then .int .u16 (mk (mset l k m) (j - 64)).1 else .int .u16 (mk (mset l k m) (j - 128)).2.1)
          rw [kn_set, mk_set, mk_set]
          by_cases d1 : j < 64
          · rw [if_pos d1, if_pos d1, if_neg (by omega)]
          · rw [if_neg d1, if_neg d1]
            by_cases d2 : j < 128
            · rw [if_pos d2, if_pos d2, if_neg (by omega)]
            · rw [if_neg d2, if_neg d2, if_neg (show ¬ j - 128 = k by omega)]
      · have h : some (rc (hrE e k) (mset l k m) i) = some (Value.bool (kn (mset l k m) k)) := (r15_get hi).symm.trans (by rw [c]; exact r15_kn hk)
        rw [kn_set, if_pos rfl] at h
        injection h with h; exact h.symm
    · have h : some (rc (hrE e k) (mset l k m) i) = some (Value.int .u16 (mk (mset l k m) k).1) := (r15_get hi).symm.trans (by rw [c]; exact r15_bo hk)
      rw [mk_set, if_pos rfl] at h
      injection h with h; exact h.symm
  · have h : some (rc (hrE e k) (mset l k m) i) = some (Value.int .u16 (mk (mset l k m) k).2.1) := (r15_get hi).symm.trans (by rw [c]; exact r15_sq hk)
    rw [mk_set, if_pos rfl] at h
    injection h with h; exact h.symm
end Go.Proofs.YtahojpppjpfjmaaGreat
