/- Functions that defer calls: what is deferred is made at the end, the last one laid first; a panic may be taken up there. Conditions: none. -/
import Derived.Test.YtfbegkddkdenbaaGreatDoorEngF
import Derived.RecoverIn
namespace Go.Eng
open Go
set_option linter.unusedVariables false
set_option linter.unusedSimpArgs false

/-- a deferred function, called from a frame in the mode u; it returns -/
def clD (P : Program) (g : FuncId) (args : List Value) (u : FrameMode) (w : World) (k : FrameMode → World → Prop) : Prop :=
  CallsDIn (FW none) 2 P g args.toArray u w fun e u' w' => (∃ v, e = .returned v) ∧ k u' w'
def tkD (P : Program) : List Deferred → FrameMode → World → (FrameMode → World → Prop) → Prop
  | [], u, w, k => k u w
  | d :: ds, u, w, k => u ≠ .run ∧ match d.target with
    | .collected D => tkK D w fun w' => tkD P ds u w' k
    | .fn (.func g) cap => callable P g = true ∧ clD P g (d.args ++ cap).toList u w fun u' w' => tkD P ds (settle u') w' k
    | _ => False
/-- the end, by the mode: it returns, or panics on -/
def enK (m : FrameMode) (r : Prop) (p : List PanicEntry → Prop) : Prop := match m with
  | .returning => r
  | .panicking ch => p ch
  | .run => False
/-- a deferred call at the end of a function -/
def dfK (P : Program) (g : FuncId) (args : List Value) (u : FrameMode) (w : World) (k : FrameMode → World → Prop) : Prop := u ≠ .run ∧ callable P g = true ∧ clD P g args u w k
def endD (P : Program) (fn : Func) (R Z : Value → World → Prop) (a : Act) (m : FrameMode) (w : World) : Prop := enK m (finK P fn R a w) fun ch => paK ch Z w
def wpFD (P : Program) (fn : Func) (h : Hn) (args : List Value) (w : World) (R : Value → World → Prop) (Z : Value → World → Prop) : Prop :=
  match fn.body with
  | none => False
  | some c => pw P c h (fun a w => tkD P a.defers .returning w (endD P fn R Z a)) (fun e a w => match e with | .ret => tkD P a.defers .returning w (endD P fn R Z a) | .panic ch => tkD P a.defers (.panicking ch) w (endD P fn R Z a) | _ => False)
      { tmps := (args ++ List.replicate (fn.ntmps - args.length) undef).toArray, defers := [] } w
theorem leavesD {P : Program} {fn : Func} {a : Act} {R : Ending → World → Prop} {k : FrameMode → World → Prop} (hk : ∀ u w, k u w → LeavesInM (FW none) 3 P fn a.tmps R [] u w) :
    ∀ (ds : List Deferred) (u : FrameMode) (w : World), tkD P ds u w k → LeavesInM (FW none) 3 P fn a.tmps R ds u w
  | [], u, w, h => hk u w h
  | d :: ds, u, w, h => by
    unfold tkD at h
    obtain ⟨hu, h⟩ := h
    split at h
    · rename_i D hD
      obtain ⟨hm, h⟩ := h
      exact ⟨hu, .inl ⟨D, _, hD, run_takeDeferred hm, leavesD hk ds _ _ h⟩⟩
    · rename_i g cap hD
      obtain ⟨hc, h⟩ := h
      refine ⟨hu, .inr ⟨fun h => by simp [FW] at h, .func g, cap, g, d.args ++ cap, hD, ?_, fun _ _ => trivial, ?_⟩⟩
      · rw [hD]
        exact callFunc_run hc _ _
      · refine ⟨trivial, fun c cs hm hr => ?_⟩
        unfold clD at h
        rw [Array.toArray_toList] at h
        obtain ⟨e, u', w', fr, ⟨⟨v, rfl⟩, hq⟩, hs⟩ := h.2 c cs hm (roomW _ _)
        exact ⟨.returned v, u', w', fr, leavesD hk ds _ _ hq, hs⟩
    · exact h.elim
theorem wpFD_sound {P : Program} (hm : P.follows .mixedOrders = true) {f : FuncId} {fn : Func} (hf : P.funcs[f]? = some fn) (h : Hn) {args : List Value} {w : World} {R Z : Value → World → Prop} (hw : wpFD P fn h args w R Z) :
    Calls P f args.toArray w fun e w' => (∃ v, e = .returned v ∧ R v w') ∨ ∃ v, e = .panicked [{ v, recovered := false }] ∧ Z v w' := by
  unfold wpFD at hw
  split at hw
  case h_1 => exact hw.elim
  rename_i c hc
  refine callsW.1 (callsIn_of_wp_marks (F := FW none) (n := 3) hf hc trivial ?_ rfl)
  have e : args.toArray ++ Array.replicate (fn.ntmps - args.toArray.size) undef = (args ++ List.replicate (fn.ntmps - args.length) undef).toArray := by
    apply Array.ext'; simp
  rw [e]
  refine wpIn_mono (pw_in hm none c h _ _ _ w (.inl rfl) hw) ?_
  intro e a' w' h
  have key : ∀ u, tkD P a'.defers u w' (endD P fn R Z a') → LeavesInM (FW none) 3 P fn a'.tmps (fun e w' => (∃ v, e = .returned v ∧ R v w') ∨ ∃ v, e = .panicked [{ v, recovered := false }] ∧ Z v w') a'.defers u w' := fun u h =>
    leavesD (fun u w h => by
      cases u with
      | run => exact h.elim
      | returning => obtain ⟨v, hr, hR⟩ := results_run h; exact ⟨v, hr, .inl ⟨v, rfl, hR⟩⟩
      | panicking ch => obtain ⟨v, rfl, hz⟩ := paK_spec h; exact .inr ⟨v, rfl, hz⟩) _ _ _ h
  cases e with
  | normal => exact key _ h
  | ret => exact key _ h
  | panic ch => exact key _ h
  | _ => exact h.elim
/-- a function that defers, and never panics -/
theorem ok_ofD {P : Program} (hm : P.follows .mixedOrders = true) {f : FuncId} {fn : Func} (hf : P.funcs[f]? = some fn) {h : Hn} {args : List Value} {w : World} {tup : Bool} {rs : List (Bool × List CK)}
    (wpT : (TR rs → World → Prop) → (Value → World → Prop) → Prop) (heq : ∀ R Z, wpFD P fn h args w R Z = wpT (fun r w => R (encR tup rs r) w) Z) (hs : (shOk rs && (tup || rs.length == 1)) = true) {k : TR rs → World → Prop} (hk : wpT k fun _ _ => False) :
    clS P f args w tup rs k := by
  rw [Bool.and_eq_true] at hs
  have e : (fun (r : TR rs) (w : World) => ∃ r', encR tup rs r = encR tup rs r' ∧ k r' w) = k := by
    funext r w
    exact propext ⟨fun ⟨r', h1, h2⟩ => encR_inj hs.1 hs.2 h1 ▸ h2, fun h => ⟨r, rfl, h⟩⟩
  have hw : wpFD P fn h args w (fun v w' => ∃ r, v = encR tup rs r ∧ k r w') fun _ _ => False := by
    rw [heq, e]; exact hk
  refine Calls.mono (wpFD_sound hm hf h hw) ?_
  rintro e w' (⟨v, rfl, r, rfl, h⟩ | ⟨_, _, h⟩)
  · exact ⟨r, rfl, h⟩
  · exact h.elim
/-! ### a deferred closure that first asks what was recovered -/
/-- operations one behind the other, the first that recovers is handed x; at the end it has been asked for -/
def ropK (P : Program) (ops : Array Oper) : Option Value → List Nat → Act → World → (Act → World → Prop) → Prop
  | x, [], a, w, k => match x with | none => k a w | some _ => False
  | x, i :: rest, a, w, k => match ops[i]? with
    | none => False
    | some o => if Region.wanted o (yielded ops a.tmps) = true then (match (execOp a.eval o).run P w with
        | .ok .recover w' => (match x with | some v => ropK P ops none rest (a.put o.dst v) w' k | none => False)
        | .ok (.value v) w' => ropK P ops x rest (a.put o.dst v) w' k
        | .ok .skip w' => ropK P ops x rest (a.put o.dst undef) w' k
        | _ => False)
      else ropK P ops x rest (a.put o.dst undef) w k
theorem rop_in {P : Program} {ops : Array Oper} {Q : Exit → Act → List Frame → World → Prop} {cs' : List Frame} {k : Act → World → Prop} (hk : ∀ a w, k a w → Q .normal a cs' w) :
    ∀ (l : List Nat) (x : Option Value) (a : Act) (cs : List Frame) (w : World), ((x = none ∧ cs = cs') ∨ ∃ v, x = some v ∧ (recoverD cs = some (v, cs') ∨ (recoverD cs = none ∧ v = .nilIface ∧ cs = cs'))) → ropK P ops x l a w k → wpOpsSIn (FW none) 2 P ops Q l a cs w
  | [], x, a, cs, w, hx, h => by
    unfold ropK at h
    split at h
    case h_2 => exact h.elim
    rcases hx with ⟨_, rfl⟩ | ⟨v, hv, _⟩
    · exact hk a w h
    · cases hv
  | i :: rest, x, a, cs, w, hx, h => by
    unfold ropK at h
    unfold wpOpsSIn
    cases ho : ops[i]? with
    | none => rw [ho] at h; exact h.elim
    | some o =>
      rw [ho] at h
      dsimp only at h ⊢
      refine ⟨fun _ _ => trivial, ?_⟩
      split at h
      · rename_i hw
        rw [if_pos hw]
        split at h
        · rename_i w' hr
          split at h
          · rename_i v
            rw [hr]
            dsimp only
            rcases hx with ⟨hv, _⟩ | ⟨v', hv, hx⟩
            · cases hv
            · injection hv with hv
              subst hv
              rcases hx with hx | ⟨hx, rfl, rfl⟩
              · rw [hx]; exact rop_in hk rest none _ _ _ (.inl ⟨rfl, rfl⟩) h
              · rw [hx]; exact rop_in hk rest none _ _ _ (.inl ⟨rfl, rfl⟩) h
          · exact h.elim
        · rename_i v w' hr
          rw [hr]
          exact rop_in hk rest x _ _ _ hx h
        · rename_i w' hr
          rw [hr]
          exact rop_in hk rest x _ _ _ hx h
        · exact h.elim
      · rename_i hw
        rw [if_neg hw]
        exact rop_in hk rest x _ _ _ hx h
/-- what is recovered in a mode, and the mode behind it -/
def RecM (u : FrameMode) (x : Value) (u' : FrameMode) : Prop := (u = .panicking [{ v := x, recovered := false }] ∧ u' = .panicking [{ v := x, recovered := true }]) ∨ (u = .returning ∧ x = .nilIface ∧ u' = .returning)
/-- an end with nothing deferred -/
def ndK (p : Prop) : Prop := ([] : List Deferred) = [] ∧ p
def wpFR (P : Program) (fn : Func) (h : Hn) (args : List Value) (x : Value) (w : World) (k : World → Prop) : Prop :=
  match fn.body with
  | some (.seq (.region q ops false) rest) => match fn.results.toList with
    | [] => ropK P ops (some x) (List.range ops.size) { tmps := (args ++ List.replicate (fn.ntmps - args.length) undef).toArray, defers := [] } w fun a w =>
      pw P rest h.r (fun a w => a.defers = [] ∧ k w) (fun e a w => match e with | .ret => a.defers = [] ∧ k w | _ => False) a w
    | _ => False
  | _ => False
theorem wpFR_sound {P : Program} (hm : P.follows .mixedOrders = true) {f : FuncId} {fn : Func} (hf : P.funcs[f]? = some fn) (h : Hn) {args : List Value} {x : Value} {u u' : FrameMode} (hu : RecM u x u') {w : World} {k : World → Prop} (hw : wpFR P fn h args x w k) :
    clD P f args u w fun u2 w' => u2 = u' ∧ k w' := by
  unfold wpFR at hw
  split at hw
  case h_2 => exact hw.elim
  rename_i q ops rest hb
  split at hw
  case h_2 => exact hw.elim
  rename_i hres
  refine callsDIn_of_wpSIn hf hb trivial fun c₀ cs hc => ?_
  have e : args.toArray ++ Array.replicate (fn.ntmps - args.toArray.size) undef = (args ++ List.replicate (fn.ntmps - args.length) undef).toArray := by
    apply Array.ext'; simp
  rw [e]
  refine wpSIn_seq (wpSIn_region ?_)
  refine rop_in (cs' := { c₀ with mode := u' } :: cs) (fun a w h => ?_) _ _ _ _ _ (.inr ⟨x, rfl, ?_⟩) hw
  · show Code.wpSIn _ _ _ _ _ _ _ _
    refine wpSIn_of_wpIn rfl (wpIn_mono (pw_in hm none rest _ _ _ a w (.inl rfl) h) ?_)
    have fin : ∀ (a' : Act) (w' : World), a'.defers = [] ∧ k w' → a'.defers = [] ∧ ∃ u2, ({ c₀ with mode := u' } :: cs : List Frame) = { c₀ with mode := u2 } :: cs ∧ ∃ v, (results fn a'.tmps).run P w' = .ok v w' ∧ (∃ v', (Ending.returned v) = .returned v') ∧ u2 = u' ∧ k w' := fun a' w' ⟨h1, h2⟩ =>
      have ⟨v, hv, _⟩ := results_run (P := P) (fn := fn) (a := a') (w := w') (R := fun v _ => True) (by unfold finK; rw [hres]; exact trivial)
      ⟨h1, u', rfl, v, hv, ⟨_, rfl⟩, rfl, h2⟩
    intro e a' w' h
    cases e with
    | normal => exact fin a' w' h
    | ret => exact fin a' w' h
    | _ => exact h.elim
  · obtain ⟨c1, c2, c3, c4, c5, c6, c7⟩ := c₀
    dsimp only at hc
    subst hc
    rcases hu with ⟨rfl, rfl⟩ | ⟨rfl, rfl, rfl⟩
    · exact .inl rfl
    · exact .inr ⟨rfl, rfl, rfl⟩
end Go.Eng
