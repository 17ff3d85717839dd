/- The engine, part F: whole codes and functions: sequences, branches, loops, ranges over functions; what 'pw' says of a function is true of the model's calls. Conditions: none. -/
import Derived.Test.YtfbegkddkdenbaaGreatDoorEngA
import Derived.RangeFuncNested
import Derived.RangeFuncLeaves
import Derived.TacticsIn
import Derived.OrdersIn
namespace Go.Eng
open Go Go.RowKit
set_option linter.unusedVariables false
set_option linter.unusedSimpArgs false

/-! ### fences -/
def FW (ro : Option Nat) : Fence := { fn := fun _ => True, depth := none, alive := false, round := ro }
theorem roomW (ro : Option Nat) (n : Nat) : (FW ro).room n := fun _ h => by simp [FW] at h
theorem callsW {ro : Option Nat} {n : Nat} {P : Program} {f : FuncId} {args : Array Value} {w : World} {R : Ending → World → Prop} : CallsIn (FW ro) n P f args w R ↔ Calls P f args w R :=
  callsIn_wide (n := n)
theorem callsWF {r r' : Option Nat} {n m : Nat} {P : Program} {f : FuncId} {args : Array Value} {w : World} {R : Ending → World → Prop} (h : CallsIn (FW r) n P f args w R) : CallsIn (FW r') m P f args w R :=
  callsW.2 (callsW.1 h)
theorem rowsW {ro : Option Nat} {n : Nat} {P : Program} {row : String} {args : Array Value} {w : World} {R : Value → World → Prop} (h : Rows P row args w R) : RowsIn (FW ro) n P row args w R :=
  fun c cs _ => let ⟨v, w', r, s⟩ := h c cs; ⟨v, w', r, stepsIn_wide.2 s⟩
theorem roundW {r r' : Option Nat} {n m : Nat} {P : Program} {l : Nat} {f : FuncId} {tmps : Array Value} {assign body : Code} {w : World} {R : Ending → World → Prop} (h : RoundIn (FW r) n P l f tmps assign body w R) : RoundIn (FW r') m P l f tmps assign body w R :=
  ⟨trivial, fun c cs _ => h.2 c cs (roomW r _)⟩
theorem wpW {ro : Option Nat} {n m : Nat} {P : Program} {c : Code} {Q : Exit → Act → World → Prop} {a : Act} {w : World} (h : c.wpIn (FW ro) n P Q a w) : c.wpIn (FW ro) m P Q a w :=
  fun b k cs hro hb _ => h b k cs hro hb (roomW ro _)
theorem op_lift {ro : Option Nat} {n : Nat} {P : Program} {o : Oper} {a : Act} {w : World} {K : Act → World → Prop} {Q : Exit → Act → World → Prop} (h : o.wp P a w K Q) (hd : ∀ c, o.op ≠ .defer c) : o.wpIn (FW ro) n P a w K Q := by
  unfold Oper.wp at h
  refine ⟨fun _ _ => trivial, ?_⟩
  rw [Oper.semAt_eq _ _ _ hd]
  generalize (execOp a.eval o).run P w = r at *
  cases r with
  | ok nx w' =>
    cases nx <;> simp only [Oper.upon, Oper.uponIn] at h ⊢ <;> first
      | exact h
      | exact ⟨fun e => (by cases e), callsW.2 h⟩
      | exact ⟨fun e => (by cases e), rowsW h⟩
      | exact h.elim
  | halt x w' => cases x <;> simp only [Oper.upon, Oper.uponIn] at h ⊢ <;> first | exact h | exact h.elim
theorem stp_nodefer {P : Program} {o : Oper} {a : Act} {w : World} {K : Act → World → Prop} (h : stp P o a w K) : ∀ c, o.op ≠ .defer c := by
  intro c hc
  unfold stp at h
  have hcl : cls P o.op = .ef := by rw [hc]; rfl
  rw [hcl] at h
  simp only [efW, execOp, hc] at h
  rw [Sem.run_bind] at h
  cases hr : (resolve a.eval c o.type).run P w <;> rw [hr] at h <;> simp [Result.andThen, Sem.run, pure] at h
theorem stp_in {ro : Option Nat} {n : Nat} {P : Program} {o : Oper} {a : Act} {w : World} {K : Act → World → Prop} {Q : Exit → Act → World → Prop} (h : stp P o a w K) : o.wpIn (FW ro) n P a w K Q :=
  op_lift (stp_sound h) (stp_nodefer h)

/-! #### yields -/
def yiS (P : Program) (l : Nat) (args : List Value) (w : World) (k : Bool → World → Prop) : Prop :=
  YieldAt (FW none) 0 P l args.toArray w fun e w' => ∃ b, e = .returned (.bool b) ∧ k b w'
def stpY (P : Program) (o : Oper) (a : Act) (w : World) (K : Act → World → Prop) : Prop :=
  match cls P o.op with
  | .cl f args => (match a.eval f with
    | .func (.yield l) fi ca => if fi.size = 0 ∧ ca.size = 0 then yiS P l (args.toList.map a.eval) w fun b w' => K (a.put o.dst (.bool b)) w' else False
    | _ => stp P o a w K)
  | _ => stp P o a w K
def popsY (P : Program) (ops : Array Oper) (K : Act → World → Prop) : List Oper → Act → World → Prop
  | [], a, w => K a w
  | o :: rest, a, w => gdo P ops o a (fun a => stpY P o a w (popsY P ops K rest)) (fun a => popsY P ops K rest (a.put o.dst undef) w)
def noDef : List Oper → Bool
  | [] => true
  | o :: l => (match o.op with | .defer _ => false | _ => true) && noDef l
/-! #### calls that may panic, deferred calls -/
def clE (P : Program) (g : FuncId) (args : List Value) (w : World) (tup : Bool) (rs : List (Bool × List CK)) (k : TR rs → World → Prop) (kp : Value → World → Prop) : Prop :=
  Calls P g args.toArray w fun e w' => (∃ r : TR rs, e = .returned (encR tup rs r) ∧ k r w') ∨ ∃ v, e = .panicked [{ v, recovered := false }] ∧ kp v w'
def paX (v : Value) : Exit := .panic [{ v, recovered := false }]
def stpZ (P : Program) (o : Oper) (a : Act) (w : World) (K : Act → World → Prop) (Q : Exit → Act → World → Prop) : Prop :=
  match cls P o.op with
  | .cl f args => (match a.eval f with
    | .func (.func g) fi ca => if callable P g = true then clE P g (fi.toList ++ args.toList.map a.eval ++ ca.toList) w (isTup P o.type) (rsOf P o.type) (fun r w' => K (a.put o.dst (encR (isTup P o.type) (rsOf P o.type) r)) w') (fun v w' => Q (paX v) a w') else False
    | _ => False)
  | .pa => (match (execOp a.eval o).run P w with | .halt (.panic v) w' => Q (paX v) a w' | _ => False)
  | .ef => (match o.op with
    | .defer _ => (match (execOp a.eval o).run P w with | .ok (.defer d) w' => K (({ a with defers := d :: a.defers } : Act).put o.dst undef) w' | _ => False)
    | _ => stp P o a w K)
  | _ => stp P o a w K
def popsZ (P : Program) (ops : Array Oper) (K : Act → World → Prop) (Q : Exit → Act → World → Prop) : List Oper → Act → World → Prop
  | [], a, w => K a w
  | o :: rest, a, w => gdo P ops o a (fun a => stpZ P o a w (popsZ P ops K Q rest) Q) (fun a => popsZ P ops K Q rest (a.put o.dst undef) w)
/-! ### whole codes -/
def LoopT {α : Type} (B : (α → World → Prop) → α → World → Prop) (x0 : α) (w0 : World) : Prop :=
  ∃ (I : α → World → Prop) (m : α → World → Nat), I x0 w0 ∧ ∀ x w, I x w → B (fun x' w' => I x' w' ∧ m x' w' < m x w) x w
def CutT {α : Type} (A : (α → World → Prop) → Prop) (B : α → World → Prop) : Prop := ∃ J : α → World → Prop, A J ∧ ∀ x w, J x w → B x w

inductive Hn where
  | n | s (l r : Hn) | ct (L : List (Nat × CK)) (l r : Hn) | lp (L : List (Nat × CK)) (b : Hn) | pl (plan : Pl) | py (m : Nat) (plan : Pl) | pz | rf (rs : List (Bool × List CK)) (l r : Hn)
def Hn.l : Hn → Hn | .s l _ => l | .ct _ l _ => l | .lp _ b => b | .rf _ l _ => l | _ => .n
def Hn.r : Hn → Hn | .s _ r => r | .ct _ _ r => r | .rf _ _ r => r | _ => .n
def Hn.rs : Hn → List (Bool × List CK) | .rf rs _ _ => rs | _ => []
def Hn.slots : Hn → List (Nat × CK) | .lp L _ => L | .ct L _ _ => L | _ => []
def Hn.plan : Hn → Pl | .pl p => p | .py _ p => p | _ => .z
def Hn.isCt : Hn → Bool | .ct _ _ _ => true | _ => false
def Hn.isY : Hn → Bool | .py _ _ => true | _ => false
def Hn.isZ : Hn → Bool | .pz => true | _ => false
def Hn.m : Hn → Nat | .py m _ => m | _ => 0
/-- a region whose operations from number m on come behind all others, one behind the other -/
def sinkOk (ops : Array Oper) (m : Nat) : Bool :=
  decide (m < ops.size) && ((List.range m).all fun j => (List.range (m + 1)).any fun i => decide (j < i) && waitsD ops i j) &&
  ((List.range ops.size).all fun i => decide (i ≤ m) || waitsD ops i (i - 1)) &&
  (ops.toList.all fun o => o.after.toList.all fun e => !Region.binds .any e || decide (e.on < ops.size)) &&
  (List.range ops.size).all fun i => (List.range ops.size).all fun j => !waitsD ops i j || decide (j < i)
def upsL (m : Nat) : Nat → List Bool → List Bool
  | _, [] => []
  | i, b :: l => (b || decide (m ≤ i)) :: upsL m (i + 1) l
def ups (m : Nat) (listed : Array Bool) : Array Bool := (upsL m 0 listed.toList).toArray
def lastY (P : Program) (ops : Array Oper) (m : Nat) (K : Act → World → Prop) (a : Act) (w : World) : Prop := popsY P ops K (ops.toList.drop m) a w

@[reducible] def TvL : List (Nat × CK) → Type
  | [] => Unit
  | c :: L => Tv c.2 × TvL L
def decL : (L : List (Nat × CK)) → Array Value → Option (TvL L)
  | [], _ => some ()
  | c :: L, t => match (t[c.1]?).bind (dec c.2), decL L t with
    | some x, some xs => some (x, xs)
    | _, _ => none
def setD (d : Nat → Value) : List Nat → Array Value → Array Value
  | [], t => t
  | i :: l, t => setD d l (t.setIfInBounds i (d i))
def setX : (L : List (Nat × CK)) → TvL L → Array Value → Array Value
  | [], _, t => t
  | c :: L, x, t => setX L x.2 (t.setIfInBounds c.1 (enc c.2 x.1))
def updL (a : Act) (mods : List Nat) (d : Nat → Value) (L : List (Nat × CK)) (x : TvL L) : Act := { a with tmps := setX L x (setD d mods a.tmps) }
def onL (L : List (Nat × CK)) (a : Act) (k : TvL L → Prop) : Prop := match decL L a.tmps with | some x => k x | none => False

def opsD (ops : List Oper) : List Nat := ops.filterMap (·.dst)
def dsts : Code → List Nat
  | .region _ ops _ => opsD ops.toList
  | .seq x y => dsts x ++ dsts y
  | .cond _ x y => dsts x ++ dsts y
  | .block _ c => dsts c
  | .loop c => dsts c
  | _ => []

def slotsIn (L : List (Nat × CK)) (m : List Nat) : Bool := L.all fun c => m.contains c.1


/-! #### ranges over functions -/
/-- the code holds none -/
def noRf : Code → Bool
  | .seq x y => noRf x && noRf y
  | .cond _ x y => noRf x && noRf y
  | .block _ c => noRf c
  | .loop c => noRf c
  | .rangeFunc _ _ _ _ => false
  | .region _ ops _ => noDef ops.toList
  | _ => true
def exN : Exit → Option Nat | .ret => some 0 | .exit i => some (i + 1) | _ => none
def unN : Nat → Exit | 0 => .ret | i + 1 => .exit i
def exJ : Code → List Nat
  | .ret => [0]
  | .exit i => [i + 1]
  | .seq x y => exJ x ++ exJ y
  | .cond _ x y => exJ x ++ exJ y
  | .block i c => (exJ c).filter fun j => !(j == i + 1)
  | .loop c => exJ c
  | _ => []
def exD : List Nat → List Nat
  | [] => []
  | x :: l => if (exD l).contains x = true then exD l else x :: exD l
/-- how a body is left -/
def lvK (l : List Nat) (lv : Nat → World → Prop) (e : Exit) (w : World) : Prop :=
  match exN e with
  | some i => if l.contains i = true then lv i w else False
  | none => False
def markD (D : Nat) : Deferred := { target := .collected D, args := #[] }
def setP : List Tmp → List Value → Array Value → Array Value
  | [], _, t => t
  | _, [], t => t
  | p :: ps, v :: vs, t => setP ps vs (t.setIfInBounds p v)

/-- Behind other people's steps: blocks below B and blocks of cells lie as they lay. -/
structure Turn (B : Nat) (w w' : World) : Prop where
  os : w'.os = w.os
  tape : w'.tape = w.tape
  output : w'.output = w.output
  size : w.heap.size ≤ w'.heap.size
  block : ∀ k o, w.heap[k]? = some o → (k < B ∨ o.isCells = true) → w'.heap[k]? = some o
theorem Turn.refl (B : Nat) (w : World) : Turn B w w := ⟨rfl, rfl, rfl, Nat.le_refl _, fun _ _ h _ => h⟩
theorem Turn.trans {B : Nat} {a b c : World} (h : Turn B a b) (k : Turn B b c) : Turn B a c :=
  ⟨k.os.trans h.os, k.tape.trans h.tape, k.output.trans h.output, Nat.le_trans h.size k.size, fun i o hi ho => k.block i o (h.block i o hi ho) ho⟩

/-- What a round may do: write blocks of M, and blocks of cells laid since. -/
structure Rnd (B : Nat) (M : Nat → Prop) (w w' : World) : Prop where
  os : w'.os = w.os
  tape : w'.tape = w.tape
  output : w'.output = w.output
  size : w.heap.size ≤ w'.heap.size
  low : ∀ k o, k < B → ¬ M k → w.heap[k]? = some o → w'.heap[k]? = some o
  high : ∀ k o, B ≤ k → w.heap[k]? = some o → o.isCells = false → w'.heap[k]? = some o
def KpM (B : Nat) (M : Nat → Prop) (w w' : World) : Prop := ∀ k o, k < B → ¬ M k → w.heap[k]? = some o → w'.heap[k]? = some o

def ItS (P : Program) (gv : Value) (rs : List (Bool × List CK)) (V : TR rs → Prop) (xs : List (TR rs)) (M : Nat → Prop) (w : World) : Prop :=
  match gv with
  | .func (.func gf) fi lb => fi = #[] ∧ callable P gf = true ∧ SeqStopsK (α := { x : TR rs // V x }) (FW none) 2 P gf lb (fun x => (encL rs x.1).toArray) (KpM w.heap.size M) (fun ys => ys.map (·.1) = xs) (fun ys => ys.map (·.1) <+: xs) xs.length w
  | _ => False

def Mark (w : World) (D : Nat) : Prop := w.heap[D]? = some (.deferred (some []))

/-- The round's work and what it must do. -/
def RfT (P : Program) (gv : Value) (rs : List (Bool × List CK)) (w : World)
    (rnd : TR rs → (World → ((World → Prop) → (Nat → World → Prop) → World → Prop) → Prop) → World → Prop)
    (done : Nat → World → Prop) (stops : List (Nat × (Nat → World → Prop))) : Prop :=
  ∃ (V : TR rs → Prop) (xs : List (TR rs)) (M : Nat → Prop) (I : List (TR rs) → World → Prop) (Ix : Nat → List (TR rs) → World → Prop),
    ItS P gv rs V xs M w ∧
    (∀ W, Turn w.heap.size w W → I [] W) ∧
    (∀ x W, V x → w.heap.size ≤ W.heap.size → rnd x (fun W1 body => Turn w.heap.size W W1 ∧ (∀ (k : Nat) (o : Obj), W.heap[k]? = some o → W1.heap[k]? = some o) ∧
      ∀ W2, Turn w.heap.size W1 W2 → ∀ pre, I pre W2 → pre.length < xs.length → body
        (fun W3 => Rnd w.heap.size M W2 W3 ∧ ∀ W4, Turn w.heap.size W3 W4 → I (pre ++ [x]) W4)
        (fun e W3 => Rnd w.heap.size M W2 W3 ∧ ∀ W4, Turn w.heap.size W3 W4 → Ix e (pre ++ [x]) W4) W2) W) ∧
    (∀ D W, w.heap.size ≤ D → I xs W → Mark W D → done D W) ∧
    (∀ s ∈ stops, ∀ D pre W, w.heap.size ≤ D → pre <+: xs → Ix s.1 pre W → Mark W D → s.2 D W)

def pw (P : Program) : Code → Hn → (Act → World → Prop) → (Exit → Act → World → Prop) → Act → World → Prop
  | .skip, _, K, _, a, w => K a w
  | .label _, _, K, _, a, w => K a w
  | .seq x y, h, K, Q, a, w =>
    if h.isCt = true then (if (slotsIn h.slots (dsts x) && noRf x) = true then CutT (fun J => pw P x h.l (fun a' w' => onL h.slots a' fun z => J z w') Q a w) (fun z w' => ∀ d : Nat → Value, pw P y h.r K Q (updL a (dsts x) d h.slots z) w') else False)
    else pw P x h.l (pw P y h.r K Q) Q a w
  | .cond c x y, h, K, Q, a, w => match a.eval c with
    | .bool b => brB b (pw P x h.l K Q a w) (pw P y h.r K Q a w)
    | _ => False
  | .block id c, h, K, Q, a, w => pw P c h K (fun e a w => match e with | .exit i => if i = id then K a w else Q (.exit i) a w | e => Q e a w) a w
  | .exit id, _, _, Q, a, w => Q (.exit id) a w
  | .ret, _, _, Q, a, w => Q .ret a w
  | .region _ ops false, h, K, Q, a, w => if h.isZ = true then popsZ P ops K Q ops.toList a w else popsY P ops K ops.toList a w
  | .region _ ops true, h, K, _, a, w =>
    if h.isY = true then
      (if Region.noSelect ops = true ∧ noDef ops.toList = true ∧ sinkOk ops h.m = true ∧ h.plan.depth ≤ h.m then pd P ops (lastY P ops h.m K) h.plan (ups h.m (Array.replicate ops.size false)) [] [] a w.drew else False)
    else if Region.noSelect ops = true ∧ noDef ops.toList = true ∧ h.plan.depth ≤ ops.size then pd P ops K h.plan (Array.replicate ops.size false) [] [] a w.drew else False
  | .loop c, h, _, Q, a, w => if (slotsIn h.slots (dsts c) && noRf c) = true then onL h.slots a fun x0 => LoopT (fun self x w => ∀ d : Nat → Value, pw P c h.l (fun a' w' => onL h.slots a' fun x' => self x' w') Q (updL a (dsts c) d h.slots x) w) x0 w else False
  | .rangeFunc g ps assign body, h, K, Q, a, w =>
    if (noRf assign && noRf body && ps.size == h.rs.length) = true then
      RfT P (a.eval g) h.rs w
        (fun x k W => pw P assign h.l (fun a' W1 => k W1 fun go lv W2 => pw P body h.r (fun _ W3 => go W3) (fun e _ W3 => lvK (exD (exJ body)) lv e W3) a' W2) (fun _ _ _ => False) { tmps := setP ps.toList (encL h.rs x) a.tmps, defers := [] } W)
        (fun D W => K { a with defers := markD D :: a.defers } W)
        ((exD (exJ body)).map fun i => (i, fun D W => Q (unN i) { a with defers := markD D :: a.defers } W))
    else False
  | _, _, _, _, _, _ => False

/-! #### what a run leaves of the slots -/
structure Ag (m : List Nat) (a a' : Act) : Prop where
  size : a'.tmps.size = a.tmps.size
  off : ∀ i, i ∉ m → a'.tmps[i]? = a.tmps[i]?
  def_ : a'.defers = a.defers
theorem Ag.refl (m : List Nat) (a : Act) : Ag m a a := ⟨rfl, fun _ _ => rfl, rfl⟩
theorem Ag.trans {m : List Nat} {a b c : Act} (h : Ag m a b) (k : Ag m b c) : Ag m a c := ⟨k.size.trans h.size, fun i hi => (k.off i hi).trans (h.off i hi), k.def_.trans h.def_⟩
theorem Ag.mono {m m' : List Nat} {a b : Act} (h : Ag m a b) (hm : ∀ i ∈ m, i ∈ m') : Ag m' a b := ⟨h.size, fun i hi => h.off i fun x => hi (hm i x), h.def_⟩
theorem Ag.put (a : Act) (d : Option Tmp) (v : Value) : Ag d.toList a (a.put d v) := by
  cases d with
  | none => exact Ag.refl _ _
  | some d => exact ⟨by simp [Act.put], fun i hi => by simp [Act.put] at *; rw [Array.getElem?_setIfInBounds_ne]; exact fun e => hi e.symm, rfl⟩

theorem ldN_mono : ∀ (cs : List CK) (p : Addr) (i : Nat) (w : World) (k k' : Tvs cs → Prop), (∀ x, k x → k' x) → ldN cs p i w k → ldN cs p i w k'
  | [], _, _, _, _, _, hk, h => hk _ h
  | c :: cs, p, i, w, k, k', hk, h => by
    unfold ldN at *
    split at h
    · exact ldN_mono cs p (i + 1) w _ _ (fun xs h => hk _ h) h
    · exact h.elim
theorem ldW_mono {P : Program} {t : TypeId} {a : Value} {w : World} {k k' : Value → Prop} (hk : ∀ v, k v → k' v) (h : ldW P t a w k) : ldW P t a w k' := by
  unfold ldW at *
  split at h
  case h_2 => exact h.elim
  split at h
  · split at h
    case isFalse => exact h.elim
    rename_i h1 h2
    simp only [h1, h2, if_true]
    exact ldN_mono _ _ _ _ _ _ (fun _ => hk _) h
  · split at h
    case h_2 => exact h.elim
    rename_i h1 _ d hd
    simp only [h1, hd]
    unfold ld1 at *
    split at h
    · rename_i hx; simp only [hx]; exact hk _ h
    · exact h.elim
theorem stN_mono : ∀ (vs : List Value) (p : Addr) (i : Nat) (w : World) (k k' : World → Prop), (∀ x, k x → k' x) → stN vs p i w k → stN vs p i w k'
  | [], _, _, _, _, _, hk, h => hk _ h
  | v :: vs, p, i, w, k, k', hk, h => by
    unfold stN at *
    split at h
    case isFalse => exact h.elim
    rename_i h1
    rw [if_pos h1]
    split at h
    case h_2 => exact h.elim
    rename_i hu
    split at h
    case isTrue => exact h.elim
    rename_i h2
    simp only [hu, h2]
    exact stN_mono vs p (i + 1) _ _ _ hk h
theorem stW_mono {P : Program} {t : TypeId} {a v : Value} {w : World} {k k' : World → Prop} (hk : ∀ v, k v → k' v) (h : stW P t a v w k) : stW P t a v w k' := by
  unfold stW at *
  split at h
  case h_2 => exact h.elim
  cases hg : isAg P t <;> simp only [hg] at h ⊢
  · by_cases hs : (P.info? t).map (·.size) = some 1
    · rw [if_pos hs] at h ⊢; exact stN_mono _ _ _ _ _ _ hk h
    · rw [if_neg hs] at h; exact h.elim
  · by_cases hs : (P.info? t).map (·.size) = some v.cells.size
    · rw [if_pos hs] at h ⊢; exact stN_mono _ _ _ _ _ _ hk h
    · rw [if_neg hs] at h; exact h.elim
theorem evK_mono {P : Program} {s : Sem Next} {k k' : Value → Prop} (hk : ∀ v, k v → k' v) (h : evK P s k) : evK P s k' := by
  unfold evK at *; split at h
  · exact hk _ h
  · exact h.elim
theorem ncK_mono {p : Option Addr} {k k' : Addr → Prop} (hk : ∀ v, k v → k' v) (h : ncK p k) : ncK p k' := by unfold ncK at *; split at h; exact hk _ h; exact h.elim
theorem ixK_mono {b : Option Addr} {n : Nat} {ix : Int} {k k' : Addr → Prop} (hk : ∀ v, k v → k' v) (h : ixK b n ix k) : ixK b n ix k' := by
  unfold ixK at *; split at h
  · split at h
    · rename_i h1; rw [if_pos h1]; exact hk _ h
    · exact h.elim
  · exact h.elim
theorem nzK_mono {b : Int} {p q : Prop} (hk : p → q) (h : nzK b p) : nzK b q := by unfold nzK at *; split at h; exact h.elim; rename_i h1; rw [if_neg h1]; exact hk h
theorem shK_mono {b : Int} {p q : Prop} (hk : p → q) (h : shK b p) : shK b q := by unfold shK at *; split at h; exact h.elim; rename_i h1; rw [if_neg h1]; exact hk h
theorem siK_mono {s : ByteArray} {ix : Int} {k k' : Int → Prop} (hk : ∀ v, k v → k' v) (h : siK s ix k) : siK s ix k' := by unfold siK at *; split at h; exact hk _ h; exact h.elim
theorem slK_mono {l h : Int} {n : Nat} {p q : Prop} (hk : p → q) (hh : slK l h n p) : slK l h n q := by unfold slK at *; split at hh; rename_i h1; rw [if_pos h1]; exact hk hh; exact hh.elim

theorem saK_mono {a b : ByteArray} {p q : Prop} (hk : p → q) (h : saK a b p) : saK a b q := ⟨h.fits, hk h.cont⟩
theorem bsK_mono {P : Program} {x : Value} {w : World} {k k' : ByteArray → World → Prop} (hk : ∀ v w, k v w → k' v w) (h : bsK P x w k) : bsK P x w k' := by
  unfold bsK at *; split at h
  · exact hk _ _ h
  · exact h.elim
theorem rgV_mono {P : Program} {t : TypeId} {x : Value} {w : World} {k k' : Nat → World → Prop} (hk : ∀ v w, k v w → k' v w) (h : rgV P t x w k) : rgV P t x w k' := by
  unfold rgV at *; split at h
  · exact hk _ _ h
  · exact h.elim
theorem nxK_mono {r : Nat} {w : World} {o o' : World → Prop} {m m' : Int → Int → World → Prop} (ho : ∀ w, o w → o' w) (hm : ∀ i c w, m i c w → m' i c w) (h : nxK r w o m) : nxK r w o' m' := by
  unfold nxK at *; split at h
  · split at h
    · rename_i h1; rw [if_pos h1]; exact hm _ _ _ h
    · rename_i h1; rw [if_neg h1]; exact ho _ h
  · exact h.elim
theorem nxV_mono {it : Value} {w : World} {k k' : Value → World → Prop} (hk : ∀ v w, k v w → k' v w) (h : nxV it w k) : nxV it w k' := by
  unfold nxV at *; split at h
  · exact nxK_mono (fun _ => hk _ _) (fun _ _ _ => hk _ _) h
  · exact h.elim
theorem aiK_mono {l : List Int} {n : Nat} {ix : Int} {k k' : Int → Prop} (hk : ∀ v, k v → k' v) (h : aiK l n ix k) : aiK l n ix k' := by
  unfold aiK at *; split at h
  · rename_i h1
    rw [if_pos h1]
    split at h
    · exact hk _ h
    · exact h.elim
  · exact h.elim
theorem aiP_mono {l : List (Option Addr)} {n : Nat} {ix : Int} {k k' : Option Addr → Prop} (hk : ∀ v, k v → k' v) (h : aiP l n ix k) : aiP l n ix k' := by
  unfold aiP at *; split at h
  · rename_i h1
    rw [if_pos h1]
    split at h
    · exact hk _ h
    · exact h.elim
  · exact h.elim
theorem aiV_mono {P : Program} {e : TypeId} {n : Nat} {cs : Array Value} {ix : Int} {k k' : Value → Prop} (hk : ∀ v, k v → k' v) (h : aiV P e n cs ix k) : aiV P e n cs ix k' := by
  unfold aiV at *; split at h
  · rename_i h1
    rw [if_pos h1]
    split at h
    · exact aiK_mono (fun _ => hk _) h
    · split at h
      · exact aiP_mono (fun _ => hk _) h
      · exact h.elim
  · exact h.elim
theorem nlV_mono {P : Program} {op : BinOp} {t : TypeId} {x : Value} {k k' : Value → Prop} (hk : ∀ v, k v → k' v) (h : nlV P op t x k) : nlV P op t x k' := by
  unfold nlV nlK at *
  repeat' split at h
  all_goals first
    | exact hk _ h
    | exact h.elim
theorem taM_mono {P : Program} {t : TypeId} {ok ag : Bool} {cs : List CK} {k k' : Tvs cs → Bool → Prop} (hk : ∀ y b, k y b → k' y b) (h : taM P t ok ag cs k) : taM P t ok ag cs k' := by
  unfold taM at *
  repeat' split at h
  all_goals first
    | exact hk _ _ h
    | exact h.elim
theorem taV_mono {P : Program} {x : Value} {t : TypeId} {ok ag : Bool} {cs : List CK} {k k' : Tvs cs → Bool → Prop} (hk : ∀ y b, k y b → k' y b) (h : taV P x t ok ag cs k) : taV P x t ok ag cs k' := by
  unfold taV at *
  repeat' split at h
  all_goals first
    | exact hk _ _ h
    | exact taM_mono hk h
    | exact h.elim
theorem taW_mono {P : Program} {x : Value} {t : TypeId} {ok : Bool} {k k' : Value → Prop} (hk : ∀ v, k v → k' v) (h : taW P x t ok k) : taW P x t ok k' :=
  taV_mono (fun _ _ => hk _) h
theorem ivK_mono {P : Program} {x : Value} {nm : String} {args : List Value} {w : World} {tup : Bool} {rs : List (Bool × List CK)} {k k' : TR rs → World → Prop} (hk : ∀ r w, k r w → k' r w) (h : ivK P x nm args w tup rs k) : ivK P x nm args w tup rs k' := by
  unfold ivK at *
  split at h
  case h_2 => exact h.elim
  split at h
  case h_2 => exact h.elim
  split at h
  case h_2 => exact h.elim
  unfold clS at *
  refine Calls.mono h ?_
  rintro e w' ⟨r, he, h⟩
  exact ⟨r, he, hk _ _ h⟩
theorem ivW_mono {P : Program} {x : Value} {nm : String} {args : List Value} {ty : TypeId} {w : World} {k k' : Value → World → Prop} (hk : ∀ v w, k v w → k' v w) (h : ivW P x nm args ty w k) : ivW P x nm args ty w k' :=
  ivK_mono (fun _ _ => hk _ _) h
theorem crK_mono {P : Program} {ts : Array TypeId} {ty : TypeId} {x : Value} {w : World} {k k' : World → Prop} (hk : ∀ w, k w → k' w) (h : crK P ts ty x w k) : crK P ts ty x w k' := by
  unfold crK at *
  split at h
  · exact hk _ h
  · exact h.elim
theorem pureW_mono {P : Program} {o : Oper} {ρ : Operand → Value} {k k' : Value → Prop} (hk : ∀ v, k v → k' v) (h : pureW P o ρ k) : pureW P o ρ k' := by
  unfold pureW at *
  repeat' split at h
  all_goals (try simp only [*, if_true])
  all_goals first
    | exact hk _ h
    | exact nlV_mono hk h
    | exact evK_mono hk h
    | exact ncK_mono (fun _ => hk _) h
    | exact ixK_mono (fun _ => hk _) h
    | exact siK_mono (fun _ => hk _) h
    | exact aiV_mono hk h
    | exact nzK_mono (hk _) h
    | exact shK_mono (hk _) h
    | exact slK_mono (hk _) h
    | exact saK_mono (hk _) h
    | exact h.elim
    | (subst_vars; exact nzK_mono (hk _) h)

theorem clW_mono {P : Program} {f : Value} {args : List Value} {ty : TypeId} {w : World} {k k' : Value → World → Prop} (hk : ∀ v w, k v w → k' v w) (h : clW P f args ty w k) : clW P f args ty w k' := by
  unfold clW at *
  split at h
  case h_2 => exact h.elim
  split at h
  case isFalse => exact h.elim
  rename_i hc
  rw [if_pos hc]
  unfold clS at *
  refine Calls.mono h ?_
  rintro e w' ⟨r, he, h⟩
  exact ⟨r, he, hk _ _ h⟩
theorem slOf_mono {r : Result Value} {k k' : (Option Addr × Nat × Nat) → World → Prop} (hk : ∀ v w, k v w → k' v w) (h : slOf r k) : slOf r k' := by
  unfold slOf at *
  split at h
  case h_2 => exact h.elim
  split at h
  case h_2 => exact h.elim
  exact hk _ _ h
theorem efW_mono {P : Program} {ty : TypeId} {r : Result Next} {k k' : Value → World → Prop} (hk : ∀ v w, k v w → k' v w) (h : efW P ty r k) : efW P ty r k' := by
  unfold efW at *
  split at h
  · exact hk _ _ h
  · exact hk _ _ h
  · refine Calls.mono h ?_
    rintro e w' ⟨r, he, h⟩
    exact ⟨r, he, hk _ _ h⟩
  · exact h.elim
theorem maK_mono {P : Program} {t : TypeId} {w : World} {k k' : Nat → World → Prop} (hk : ∀ r w, k r w → k' r w) (h : maK P t w k) : maK P t w k' := by
  unfold maK at *
  split at h
  · exact hk _ _ h
  · exact h.elim
theorem lkV_mono {P : Program} {t : TypeId} {m i : Value} {ok : Bool} {w : World} {k k' : Value → Prop} (hk : ∀ v, k v → k' v) (h : lkV P t m i ok w k) : lkV P t m i ok w k' := by
  unfold lkV at *
  split at h
  case h_2 => exact h.elim
  cases ok
  · obtain ⟨x, hr, h⟩ := h; exact ⟨x, hr, hk _ h⟩
  · obtain ⟨x, b, hr, h⟩ := h; exact ⟨x, b, hr, hk _ h⟩
theorem muK_mono {P : Program} {t : TypeId} {m i v : Value} {w : World} {k k' : World → Prop} (hk : ∀ w, k w → k' w) (h : muK P t m i v w k) : muK P t m i v w k' := by
  unfold muK at *
  split at h
  · exact hk _ h
  · exact h.elim

/-- 'stp' goes on at a put alone. -/
theorem stp_imp {P : Program} {o : Oper} {a : Act} {w : World} {K K' : Act → World → Prop} (hk : ∀ v w', K (a.put o.dst v) w' → K' (a.put o.dst v) w') (h : stp P o a w K) : stp P o a w K' := by
  unfold stp at *
  split at h
  · exact pureW_mono (fun _ => hk _ _) h
  · exact ldW_mono (fun _ => hk _ _) h
  · exact stW_mono (fun _ => hk _ _) h
  · exact clW_mono (fun _ _ => hk _ _) h
  · exact slOf_mono (fun _ _ => hk _ _) h
  · exact efW_mono (fun _ _ => hk _ _) h
  · exact h.elim
  · exact maK_mono (fun _ _ => hk _ _) h
  · exact lkV_mono (fun _ => hk _ _) h
  · exact muK_mono (fun _ => hk _ _) h
  · exact bsK_mono (fun _ _ => hk _ _) h
  · exact slOf_mono (fun _ _ => hk _ _) h
  · exact rgV_mono (fun _ _ => hk _ _) h
  · exact nxV_mono (fun _ _ => hk _ _) h
  · exact taW_mono (fun _ => hk _ _) h
  · exact ivW_mono (fun _ _ => hk _ _) h
  · exact crK_mono (fun _ => hk _ _) h
theorem yiS_mono {P : Program} {l : Nat} {args : List Value} {w : World} {k k' : Bool → World → Prop} (hk : ∀ b w', k b w' → k' b w') (h : yiS P l args w k) : yiS P l args w k' :=
  let ⟨fn, t, a, b, hy, hR⟩ := h; ⟨fn, t, a, b, hy, RoundIn.mono hR fun _ _ ⟨b, e, h⟩ => ⟨b, e, hk _ _ h⟩⟩
theorem stpY_imp {P : Program} {o : Oper} {a : Act} {w : World} {K K' : Act → World → Prop} (hk : ∀ v w', K (a.put o.dst v) w' → K' (a.put o.dst v) w') (h : stpY P o a w K) : stpY P o a w K' := by
  unfold stpY at *
  split at h
  · split at h
    · split at h
      · rename_i h1; rw [if_pos h1]; exact yiS_mono (fun _ _ => hk _ _) h
      · exact h.elim
    · exact stp_imp hk h
  · exact stp_imp hk h
theorem tko_imp {P : Program} {o : Oper} {a : Act} {w : World} {k k' : Value → Prop} (hk : ∀ v, k v → k' v) (h : tko P o a w k) : tko P o a w k' := by
  unfold tko at *
  split at h
  · exact pureW_mono hk h
  · exact ldW_mono hk h
  · exact h.elim

theorem gdo_imp {P : Program} {ops : Array Oper} {o : Oper} {a : Act} {yes no yes' no' : Act → Prop} (hy : yes a → yes' a) (hn : no a → no' a) (h : gdo P ops o a yes no) : gdo P ops o a yes' no' := by
  unfold gdo at *
  split at h
  · exact hy h
  · rename_i j want hg
    split at h
    · exact hn h
    · rename_i d hd
      split at h
      · rename_i c hc
        cases c <;> cases want <;> simp only [brB, set_same hc] at h ⊢ <;> first | exact hn h | exact hy h
      · exact hn h

theorem popsY_ag {P : Program} {ops : Array Oper} {K K' : Act → World → Prop} : ∀ (l : List Oper) (a : Act) (w : World), (∀ a' w', Ag (opsD l) a a' → K a' w' → K' a' w') → popsY P ops K l a w → popsY P ops K' l a w
  | [], a, w, hk, h => hk a w (Ag.refl _ _) h
  | o :: rest, a, w, hk, h => by
    unfold popsY at *
    have hm1 : ∀ i ∈ o.dst.toList, i ∈ opsD (o :: rest) := fun i hi => by
      unfold opsD; cases hd : o.dst with
      | none => rw [hd] at hi; cases hi
      | some d => rw [hd] at hi; simp at hi; subst hi; simp [hd]
    have hm2 : ∀ i ∈ opsD rest, i ∈ opsD (o :: rest) := fun i hi => by
      unfold opsD at *; cases hd : o.dst <;> simp_all
    have step : ∀ v w', popsY P ops K rest (a.put o.dst v) w' → popsY P ops K' rest (a.put o.dst v) w' := fun v w' h =>
      popsY_ag rest _ w' (fun a' w' hA => hk a' w' (((Ag.put a o.dst v).mono hm1).trans (hA.mono hm2))) h
    exact gdo_imp (fun h => stpY_imp step h) (fun h => step undef w h) h

theorem noDef_hd {o : Oper} {l : List Oper} (h : noDef (o :: l) = true) : (∀ c, o.op ≠ .defer c) ∧ noDef l = true := by
  simp only [noDef, Bool.and_eq_true] at h
  exact ⟨fun c hc => by rw [hc] at h; simp at h, h.2⟩
theorem stpZ_imp {P : Program} {o : Oper} {a : Act} {w : World} {K K' : Act → World → Prop} {Q Q' : Exit → Act → World → Prop} (hd : ∀ c, o.op ≠ .defer c) (hk : ∀ v w', K (a.put o.dst v) w' → K' (a.put o.dst v) w') (hq : ∀ e w', Q e a w' → Q' e a w') (h : stpZ P o a w K Q) : stpZ P o a w K' Q' := by
  unfold stpZ at *
  cases hc : cls P o.op <;> rw [hc] at h <;> simp only at h ⊢
  case cl f args =>
    split at h
    · split at h
      · rename_i h1; rw [if_pos h1]
        exact Calls.mono h fun e w' q => q.imp (fun ⟨r, e1, k⟩ => ⟨r, e1, hk _ _ k⟩) fun ⟨v, e1, k⟩ => ⟨v, e1, hq _ _ k⟩
      · exact h.elim
    · exact h.elim
  case pa =>
    split at h
    · exact hq _ _ h
    · exact h.elim
  all_goals first
    | exact stp_imp hk h
    | (split at h
       · rename_i c hc; exact absurd hc (hd c)
       · exact stp_imp hk h)
theorem popsZ_ag {P : Program} {ops : Array Oper} {K K' : Act → World → Prop} {Q Q' : Exit → Act → World → Prop} : ∀ (l : List Oper) (a : Act) (w : World), noDef l = true → (∀ a' w', Ag (opsD l) a a' → K a' w' → K' a' w') → (∀ e a' w', Ag (opsD l) a a' → Q e a' w' → Q' e a' w') → popsZ P ops K Q l a w → popsZ P ops K' Q' l a w
  | [], a, w, _, hk, _, h => hk a w (Ag.refl _ _) h
  | o :: rest, a, w, nd, hk, hq, h => by
    unfold popsZ at *
    obtain ⟨nd1, nd2⟩ := noDef_hd nd
    have hm1 : ∀ i ∈ o.dst.toList, i ∈ opsD (o :: rest) := fun i hi => by
      unfold opsD; cases hd : o.dst with
      | none => rw [hd] at hi; cases hi
      | some d => rw [hd] at hi; simp at hi; subst hi; simp [hd]
    have hm2 : ∀ i ∈ opsD rest, i ∈ opsD (o :: rest) := fun i hi => by
      unfold opsD at *; cases hd : o.dst <;> simp_all
    have step : ∀ v w', popsZ P ops K Q rest (a.put o.dst v) w' → popsZ P ops K' Q' rest (a.put o.dst v) w' := fun v w' h =>
      popsZ_ag rest _ w' nd2 (fun a' w' hA => hk a' w' (((Ag.put a o.dst v).mono hm1).trans (hA.mono hm2))) (fun e a' w' hA => hq e a' w' (((Ag.put a o.dst v).mono hm1).trans (hA.mono hm2))) h
    exact gdo_imp (fun h => stpZ_imp nd1 step (fun e w' h => hq e a w' (Ag.refl _ _) h) h) (fun h => step undef w h) h

theorem pd_ag_step {ops : Array Oper} {K K' : Act → World → Prop} {i : Nat} {o : Oper} {a : Act} (ho : ops[i]? = some o) (hk : ∀ a' w', Ag (opsD ops.toList) a a' → K a' w' → K' a' w') (v : Value) :
    ∀ a' w', Ag (opsD ops.toList) (a.put o.dst v) a' → K a' w' → K' a' w' := by
  have hm : ∀ j ∈ o.dst.toList, j ∈ opsD ops.toList := fun j hj => by
    unfold opsD; rw [List.mem_filterMap]
    refine ⟨o, ?_, by cases hd : o.dst <;> simp_all⟩
    exact Array.mem_toList_iff.2 (Array.mem_of_getElem? ho)
  exact fun a' w' hA => hk a' w' (((Ag.put a o.dst v).mono hm).trans hA)

theorem pd_ag {P : Program} {ops : Array Oper} {K K' : Act → World → Prop} : ∀ (plan : Pl) (listed : Array Bool) (S : List Ent) (D : List Nat) (a : Act) (w : World),
    (∀ a' w', Ag (opsD ops.toList) a a' → K a' w' → K' a' w') → pd P ops K plan listed S D a w → pd P ops K' plan listed S D a w
  | .z, listed, S, D, a, w, hk, h => by
    unfold pd at *
    split at h
    · rename_i h1; rw [if_pos h1]; exact hk a w (Ag.refl _ _) h
    · exact h.elim
  | .tk i p, listed, S, D, a, w, hk, h => by
    unfold pd at *
    split at h
    case h_1 => exact h.elim
    rename_i o ho
    split at h
    case isFalse => exact h.elim
    rename_i h2
    rw [if_pos h2]
    have step := pd_ag_step (K := K) (K' := K') ho hk
    exact gdo_imp (fun h => tko_imp (fun v h => pd_ag p _ _ _ _ w (step v) h) h) (fun h => pd_ag p _ _ _ _ w (step undef) h) h
  | .ef i drop p, listed, S, D, a, w, hk, h => by
    unfold pd at *
    split at h
    case h_1 => exact h.elim
    rename_i o ho
    split at h
    case isFalse => exact h.elim
    rename_i h2
    rw [if_pos h2]
    have step := pd_ag_step (K := K) (K' := K') ho hk
    exact gdo_imp (fun h => stp_imp (fun v w' h => ⟨h.1, pd_ag p _ _ _ _ w' (step v) h.2⟩) h) (fun h => pd_ag p _ _ _ _ w (step undef) h) h
  | .two i j p q, listed, S, D, a, w, hk, h => by
    unfold pd at *
    split at h
    case h_2 => exact h.elim
    rename_i oi oj hoi hoj
    split at h
    case isFalse => exact h.elim
    rename_i h2
    rw [if_pos h2]
    have si := pd_ag_step (K := K) (K' := K') hoi hk
    have sj := pd_ag_step (K := K) (K' := K') hoj hk
    exact ⟨gdo_imp (fun h => stp_imp (fun v w' h => ⟨h.1, pd_ag p _ _ _ _ w' (si v) h.2⟩) h) (fun h => pd_ag p _ _ _ _ w (si undef) h) h.1,
      gdo_imp (fun h => stp_imp (fun v w' h => ⟨h.1, pd_ag q _ _ _ _ w' (sj v) h.2⟩) h) (fun h => pd_ag q _ _ _ _ w (sj undef) h) h.2⟩
  | .thr i j k p q r, listed, S, D, a, w, hk, h => by
    unfold pd at *
    split at h
    case h_2 => exact h.elim
    rename_i oi oj ok hoi hoj hok
    split at h
    case isFalse => exact h.elim
    rename_i h2
    rw [if_pos h2]
    have si := pd_ag_step (K := K) (K' := K') hoi hk
    have sj := pd_ag_step (K := K) (K' := K') hoj hk
    have sk := pd_ag_step (K := K) (K' := K') hok hk
    exact ⟨gdo_imp (fun h => stp_imp (fun v w' h => ⟨h.1, pd_ag p _ _ _ _ w' (si v) h.2⟩) h) (fun h => pd_ag p _ _ _ _ w (si undef) h) h.1,
      gdo_imp (fun h => stp_imp (fun v w' h => ⟨h.1, pd_ag q _ _ _ _ w' (sj v) h.2⟩) h) (fun h => pd_ag q _ _ _ _ w (sj undef) h) h.2.1,
      gdo_imp (fun h => stp_imp (fun v w' h => ⟨h.1, pd_ag r _ _ _ _ w' (sk v) h.2⟩) h) (fun h => pd_ag r _ _ _ _ w (sk undef) h) h.2.2⟩

theorem onL_imp {L : List (Nat × CK)} {a : Act} {k k' : TvL L → Prop} (hk : ∀ x, k x → k' x) (h : onL L a k) : onL L a k' := by
  unfold onL at *; split at h
  · exact hk _ h
  · exact h.elim

theorem updL_ag (a : Act) (m : List Nat) (d : Nat → Value) (L : List (Nat × CK)) (x : TvL L) : Ag (m ++ L.map (·.1)) a (updL a m d L x) := by
  have hX : ∀ (L : List (Nat × CK)) (x : TvL L) (t : Array Value), (setX L x t).size = t.size ∧ ∀ i, i ∉ L.map (·.1) → (setX L x t)[i]? = t[i]? := by
    intro L
    induction L with
    | nil => intro x t; exact ⟨rfl, fun _ _ => rfl⟩
    | cons c L ih =>
      intro x t
      have := ih x.2 (t.setIfInBounds c.1 (enc c.2 x.1))
      refine ⟨by simp [setX, this.1], fun i hi => ?_⟩
      simp only [List.map_cons, List.mem_cons, not_or] at hi
      show (setX L x.2 _)[i]? = _
      rw [this.2 i hi.2, Array.getElem?_setIfInBounds_ne (fun e => hi.1 e.symm)]
  have hD : ∀ (m : List Nat) (t : Array Value), (setD d m t).size = t.size ∧ ∀ i, i ∉ m → (setD d m t)[i]? = t[i]? := by
    intro m
    induction m with
    | nil => intro t; exact ⟨rfl, fun _ _ => rfl⟩
    | cons c m ih =>
      intro t
      have := ih (t.setIfInBounds c (d c))
      refine ⟨by simp [setD, this.1], fun i hi => ?_⟩
      simp only [List.mem_cons, not_or] at hi
      show (setD d m _)[i]? = _
      rw [this.2 i hi.2, Array.getElem?_setIfInBounds_ne (fun e => hi.1 e.symm)]
  refine ⟨by simp [updL, (hX L x _).1, (hD m _).1], fun i hi => ?_, rfl⟩
  simp only [List.mem_append, not_or] at hi
  show (setX L x (setD d m a.tmps))[i]? = _
  rw [(hX L x _).2 i hi.2, (hD m _).2 i hi.1]

theorem updL_in (a : Act) (m : List Nat) (d : Nat → Value) (L : List (Nat × CK)) (x : TvL L) (h : slotsIn L m = true) : Ag m a (updL a m d L x) := by
  refine (updL_ag a m d L x).mono fun i hi => ?_
  rcases List.mem_append.1 hi with hi | hi
  · exact hi
  · obtain ⟨c, hc, rfl⟩ := List.mem_map.1 hi
    unfold slotsIn at h
    rw [List.all_eq_true] at h
    simpa using h c hc

theorem pw_ag {P : Program} : ∀ (c : Code) (h : Hn) (K K' : Act → World → Prop) (Q Q' : Exit → Act → World → Prop) (a : Act) (w : World),
    (∀ a' w', Ag (dsts c) a a' → K a' w' → K' a' w') → (∀ e a' w', Ag (dsts c) a a' → Q e a' w' → Q' e a' w') → noRf c = true → pw P c h K Q a w → pw P c h K' Q' a w
  | .skip, _, _, _, _, _, a, w, hk, _, _, h => hk a w (Ag.refl _ _) h
  | .label _, _, _, _, _, _, a, w, hk, _, _, h => hk a w (Ag.refl _ _) h
  | .seq x y, hn, K, K', Q, Q', a, w, hk, hq, nr, h => by
    have m1 : ∀ i ∈ dsts x, i ∈ dsts (.seq x y) := fun i hi => List.mem_append.2 (.inl hi)
    have m2 : ∀ i ∈ dsts y, i ∈ dsts (.seq x y) := fun i hi => List.mem_append.2 (.inr hi)
    have nx : noRf x = true := by simp only [noRf, Bool.and_eq_true] at nr; exact nr.1
    have ny : noRf y = true := by simp only [noRf, Bool.and_eq_true] at nr; exact nr.2
    unfold pw at *
    split at h
    · rename_i hc
      rw [if_pos hc]
      split at h
      case isFalse => exact h.elim
      rename_i hs
      rw [if_pos hs]
      rw [Bool.and_eq_true] at hs
      obtain ⟨J, hJ, hB⟩ := h
      refine ⟨J, pw_ag x hn.l _ _ Q Q' a w (fun _ _ _ h => h) (fun e a' w' hA => hq e a' w' (hA.mono m1)) nx hJ, ?_⟩
      intro z w' hj d
      have hu := (updL_in a (dsts x) d hn.slots z hs.1).mono m1
      exact pw_ag y hn.r K K' Q Q' _ w' (fun a' w' hA' => hk a' w' (hu.trans (hA'.mono m2))) (fun e a' w' hA' => hq e a' w' (hu.trans (hA'.mono m2))) ny (hB z w' hj d)
    · rename_i hc
      rw [if_neg hc]
      refine pw_ag x hn.l _ _ Q Q' a w ?_ (fun e a' w' hA => hq e a' w' (hA.mono m1)) nx h
      intro a1 w1 hA h1
      exact pw_ag y hn.r K K' Q Q' a1 w1 (fun a' w' hA' => hk a' w' ((hA.mono m1).trans (hA'.mono m2))) (fun e a' w' hA' => hq e a' w' ((hA.mono m1).trans (hA'.mono m2))) ny h1
  | .cond c x y, hn, K, K', Q, Q', a, w, hk, hq, nr, h => by
    have m1 : ∀ i ∈ dsts x, i ∈ dsts (.cond c x y) := fun i hi => List.mem_append.2 (.inl hi)
    have m2 : ∀ i ∈ dsts y, i ∈ dsts (.cond c x y) := fun i hi => List.mem_append.2 (.inr hi)
    have nx : noRf x = true := by simp only [noRf, Bool.and_eq_true] at nr; exact nr.1
    have ny : noRf y = true := by simp only [noRf, Bool.and_eq_true] at nr; exact nr.2
    unfold pw at *
    split at h
    case h_2 => exact h.elim
    exact brB_imp (fun _ h => pw_ag x hn.l K K' Q Q' a w (fun a' w' hA => hk a' w' (hA.mono m1)) (fun e a' w' hA => hq e a' w' (hA.mono m1)) nx h)
      (fun _ h => pw_ag y hn.r K K' Q Q' a w (fun a' w' hA => hk a' w' (hA.mono m2)) (fun e a' w' hA => hq e a' w' (hA.mono m2)) ny h) h
  | .block id c, hn, K, K', Q, Q', a, w, hk, hq, nr, h => by
    unfold pw at *
    refine pw_ag c hn K K' _ _ a w hk ?_ nr h
    intro e a' w' hA h
    cases e with
    | exit i =>
      simp only at h ⊢
      split at h
      · rename_i h1; rw [if_pos h1]; exact hk a' w' hA h
      · rename_i h1; rw [if_neg h1]; exact hq _ a' w' hA h
    | _ => exact hq _ a' w' hA h
  | .exit id, _, _, _, _, _, a, w, _, hq, _, h => hq _ _ _ (Ag.refl _ _) h
  | .ret, _, _, _, _, _, a, w, _, hq, _, h => hq _ _ _ (Ag.refl _ _) h
  | .region _ ops false, hn, K, K', Q, Q', a, w, hk, hq, nr, h => by
    unfold pw at *
    split at h
    · rename_i c; rw [if_pos c]; exact popsZ_ag _ a w nr hk hq h
    · rename_i c; rw [if_neg c]; exact popsY_ag _ a w hk h
  | .region _ ops true, hn, K, K', _, _, a, w, hk, _, _, h => by
    unfold pw at *
    split at h
    · rename_i hy
      rw [if_pos hy]
      split at h
      case isFalse => exact h.elim
      rename_i h1
      rw [if_pos h1]
      refine pd_ag _ _ _ _ a _ (fun a' w' hA hl => ?_) h
      unfold lastY at hl ⊢
      refine popsY_ag _ a' w' (fun a2 w2 hA2 h2 => hk a2 w2 (hA.trans (hA2.mono fun i hi => ?_)) h2) hl
      unfold opsD at hi
      obtain ⟨o', ho', hd⟩ := List.mem_filterMap.1 hi
      show i ∈ opsD ops.toList
      unfold opsD
      exact List.mem_filterMap.2 ⟨o', List.mem_of_mem_drop ho', hd⟩
    · rename_i hy
      rw [if_neg hy]
      split at h
      · rename_i h1; rw [if_pos h1]; exact pd_ag _ _ _ _ a _ hk h
      · exact h.elim
  | .loop c, hn, K, K', Q, Q', a, w, hk, hq, nr, h => by
    unfold pw at *
    split at h
    case isFalse => exact h.elim
    rename_i hs
    rw [if_pos hs]
    refine onL_imp ?_ h
    rintro x0 ⟨I, m, h0, hr⟩
    refine ⟨I, m, h0, fun x w' hI d => ?_⟩
    rw [Bool.and_eq_true] at hs
    exact pw_ag c hn.l _ _ Q Q' _ w' (fun a' w' _ h => h) (fun e a' w' hA => hq e a' w' ((updL_in a _ d _ x hs.1).trans hA)) hs.2 (hr x w' hI d)
  | .rangeFunc .., _, _, _, _, _, _, _, _, _, nr, h => by cases nr
  | .scope .., _, _, _, _, _, _, _, _, _, _, h => h.elim
  | .goto .., _, _, _, _, _, _, _, _, _, _, h => h.elim
  | .refuse .., _, _, _, _, _, _, _, _, _, _, h => h.elim

theorem getD_some {t : Array Value} {i : Nat} {v : Value} (h : t[i]? = some v) : t.getD i undef = v := by
  rw [Array.getD_eq_getD_getElem?, h]; rfl

theorem setX_same : ∀ (L : List (Nat × CK)) (x : TvL L) (t : Array Value), decL L t = some x → setX L x t = t
  | [], _, _, _ => rfl
  | c :: L, x, t, h => by
    unfold decL at h
    split at h
    · rename_i y ys hy hys
      obtain ⟨v, hv, hd⟩ := Option.bind_eq_some_iff.1 hy
      injection h with h
      subst h
      show setX L ys (t.setIfInBounds c.1 (enc c.2 y)) = t
      rw [← dec_some hd, set_same hv]
      exact setX_same L ys t hys
    · cases h

theorem setD_eq : ∀ (m : List Nat) (t t' : Array Value), t'.size = t.size → (∀ i, i ∉ m → t'[i]? = t[i]?) → setD (fun i => t'.getD i undef) m t = t'
  | [], t, t', hs, h => by
    apply Array.ext_getElem?; intro i; exact (h i (by simp)).symm
  | c :: m, t, t', hs, h => by
    show setD _ m (t.setIfInBounds c (t'.getD c undef)) = t'
    refine setD_eq m _ t' (by simp [hs]) fun i hi => ?_
    by_cases hic : c = i
    · subst hic
      rcases Nat.lt_or_ge c t.size with hlt | hge
      · rw [Array.getElem?_setIfInBounds_self_of_lt hlt]
        have hlt' : c < t'.size := by omega
        rw [Array.getElem?_eq_getElem hlt', getD_some (Array.getElem?_eq_getElem hlt')]
      · rw [Array.getElem?_eq_none (by omega), Array.getElem?_eq_none (by rw [Array.size_setIfInBounds]; exact hge)]
    · rw [Array.getElem?_setIfInBounds_ne hic]
      exact h i (by simp; exact ⟨fun e => hic e.symm, hi⟩)

theorem updL_eq {a a' : Act} {m : List Nat} {L : List (Nat × CK)} {x : TvL L} (hA : Ag m a a') (hx : decL L a'.tmps = some x) : updL a m (fun i => a'.tmps.getD i undef) L x = a' := by
  have h1 : setD (fun i => a'.tmps.getD i undef) m a.tmps = a'.tmps := setD_eq m _ _ hA.size hA.off
  unfold updL
  rw [h1, setX_same L x _ hx]
  cases a'; simp [← hA.def_]

/-- What 'pw' says, of the model. -/
def QK (K : Act → World → Prop) (Q : Exit → Act → World → Prop) : Exit → Act → World → Prop
  | .normal, a, w => K a w
  | e, a, w => Q e a w

theorem qn_QK {K : Act → World → Prop} {Q : Exit → Act → World → Prop} : ∀ e a w, qn K e a w → QK K Q e a w := by
  intro e a w h; cases e <;> first | exact h | exact h.elim

theorem popsY_in {P : Program} {ops : Array Oper} {K : Act → World → Prop} {ro : Option Nat} {n : Nat} : ∀ (l : List Oper) (a : Act) (w : World), popsY P ops K l a w → wpListIn (FW ro) n P ops (qn K) l a w
  | [], _, _, h => h
  | o :: rest, a, w, h => by
    unfold popsY at h
    unfold wpListIn
    rcases gdo_spec h with ⟨hw, h⟩ | ⟨hw, h⟩
    · rw [if_pos hw]
      have mono : ∀ K' : Act → World → Prop, (∀ a w, K' a w → wpListIn (FW ro) n P ops (qn K) rest a w) → stp P o a w K' → o.wpIn (FW ro) n P a w (wpListIn (FW ro) n P ops (qn K) rest) (qn K) := fun K' hK h =>
        stp_in (stp_imp (fun v w' h => hK _ _ h) h)
      unfold stpY at h
      split at h
      · rename_i f args hc
        split at h
        · rename_i l fi ca hf
          split at h
          case isFalse => exact h.elim
          rename_i he
          obtain ⟨ts, ho⟩ := cls_cl hc
          have hfi : fi = #[] := Array.eq_empty_of_size_eq_zero he.1
          subst hfi
          obtain ⟨fn, tmps, assign, body, hy, hR⟩ := h
          have hrun : (execOp a.eval o).run P w = .ok (.round l fn tmps assign body) w := by
            have e : (args.toList.map a.eval).toArray = args.map a.eval := by apply Array.ext'; simp
            rw [e] at hy
            simp only [execOp, ho, resolve, Deferred.ofValue, hf, Array.empty_append, Sem.run_bind, Sem.run_pure, Result.andThen, invoke]
            exact hy
          refine ⟨fun _ _ => trivial, ?_⟩
          rw [Oper.semAt_eq _ _ _ (by rw [ho]; intro c hc; cases hc), hrun]
          refine ⟨fun e => (by cases e), RoundIn.mono (roundW hR) ?_⟩
          rintro e w' ⟨b, rfl, hb⟩
          exact popsY_in rest _ _ hb
        · exact mono _ (fun a w => popsY_in rest a w) h
      · exact mono _ (fun a w => popsY_in rest a w) h
    · rw [if_neg (by rw [hw]; simp)]
      exact ⟨fun _ _ => trivial, popsY_in rest _ _ h⟩

theorem stpZ_in {P : Program} {o : Oper} {a : Act} {w : World} {K K' : Act → World → Prop} {Q Q' : Exit → Act → World → Prop} {ro : Option Nat} {n : Nat} (hro : ro = none ∨ ∀ c, o.op ≠ .defer c) (hK : ∀ a w, K a w → K' a w) (hQ : ∀ v a w, Q (paX v) a w → Q' (paX v) a w) (h : stpZ P o a w K Q) : o.wpIn (FW ro) n P a w K' Q' := by
  have old : stp P o a w K → o.wpIn (FW ro) n P a w K' Q' := fun h => stp_in (stp_imp (fun v w' h => hK _ _ h) h)
  unfold stpZ at h
  cases hc : cls P o.op <;> rw [hc] at h <;> simp only at h
  case cl f args =>
    split at h
    · rename_i g fi ca hf
      split at h
      case isFalse => exact h.elim
      rename_i hcal
      obtain ⟨ts, ho⟩ := cls_cl hc
      refine ⟨fun _ _ => trivial, ?_⟩
      rw [Oper.semAt_eq _ _ _ (by rw [ho]; intro c hc; cases hc), run_call w ho hf hcal]
      have e : (fi.toList ++ args.toList.map a.eval ++ ca.toList).toArray = fi ++ args.map a.eval ++ ca := by apply Array.ext'; simp
      unfold clE at h
      rw [e] at h
      refine ⟨fun e => (by cases e), callsW.2 (Calls.mono h ?_)⟩
      rintro e w' (⟨r, rfl, k⟩ | ⟨v, rfl, k⟩)
      · exact hK _ _ k
      · exact hQ _ _ _ k
    · exact h.elim
  case pa =>
    have nd : ∀ c, o.op ≠ .defer c := fun c hd => by rw [hd] at hc; cases hc
    refine ⟨fun _ _ => trivial, ?_⟩
    rw [Oper.semAt_eq _ _ _ nd]
    split at h
    · rename_i v w' hr
      rw [hr]
      exact hQ _ _ _ h
    · exact h.elim
  case ef =>
    split at h
    · rename_i c hd
      rcases hro with rfl | nd
      · refine ⟨fun _ _ => trivial, ?_⟩
        show Oper.uponIn _ _ _ _ _ _ _ ((Oper.semAt none a.eval o).run P w)
        rw [Oper.semAt_none]
        split at h
        · rename_i d w' hr
          rw [hr]
          exact hK _ _ h
        · exact h.elim
      · exact absurd hd (nd c)
    · exact old h
  all_goals exact old h
theorem popsZ_in {P : Program} {ops : Array Oper} {K : Act → World → Prop} {Q : Exit → Act → World → Prop} {ro : Option Nat} {n : Nat} : ∀ (l : List Oper) (a : Act) (w : World), (ro = none ∨ noDef l = true) → popsZ P ops K Q l a w → wpListIn (FW ro) n P ops (QK K Q) l a w
  | [], _, _, _, h => h
  | o :: rest, a, w, hro, h => by
    unfold popsZ at h
    unfold wpListIn
    have h1 : ro = none ∨ ∀ c, o.op ≠ .defer c := hro.imp id fun q => (noDef_hd q).1
    have h2 : ro = none ∨ noDef rest = true := hro.imp id fun q => (noDef_hd q).2
    rcases gdo_spec h with ⟨hw, h⟩ | ⟨hw, h⟩
    · rw [if_pos hw]
      exact stpZ_in h1 (fun a w => popsZ_in rest a w h2) (fun v a w q => q) h
    · rw [if_neg (by rw [hw]; simp)]
      exact ⟨fun _ _ => trivial, popsZ_in rest _ _ h2 h⟩

theorem noDef_spec : ∀ {l : List Oper}, noDef l = true → ∀ o ∈ l, ∀ c, o.op ≠ .defer c
  | [], _, o, ho => by cases ho
  | x :: l, h, o, ho => by
    simp only [noDef, Bool.and_eq_true] at h
    rcases List.mem_cons.1 ho with rfl | ho
    · intro c hc; rw [hc] at h; simp at h
    · exact noDef_spec h.2 o ho

theorem Oper.wpIn_mono' {F : Fence} {n : Nat} {P : Program} {o : Oper} {a : Act} {w : World} {K K' : Act → World → Prop} {Q : Exit → Act → World → Prop} (h : ∀ a w, K a w → K' a w) (hh : o.wpIn F n P a w K Q) : o.wpIn F n P a w K' Q := by
  refine ⟨hh.1, ?_⟩
  have hh := hh.2
  generalize (o.semAt F.round a.eval).run P w = r at *
  cases r with
  | ok nx w' =>
    cases nx <;> simp only [Oper.uponIn] at hh ⊢ <;> first
      | exact h _ _ hh
      | exact ⟨hh.1, CallsIn.mono hh.2 (fun e w'' he => by cases e <;> first | exact h _ _ he | exact he)⟩
      | exact ⟨hh.1, RowsIn.mono hh.2 (fun _ _ he => h _ _ he)⟩
      | exact ⟨hh.1, RoundIn.mono hh.2 (fun e w'' he => by cases e <;> first | exact h _ _ he | exact he)⟩
      | exact hh
  | halt x w' => cases x <;> simp only [Oper.uponIn] at hh ⊢ <;> exact hh

theorem ops_lift {P : Program} {ops : Array Oper} {K : Act → World → Prop} {ro : Option Nat} {n : Nat} (hd : noDef ops.toList = true) : ∀ (l : List Nat) (a : Act) (w : World), wpOps P ops (qn K) l a w → wpOpsIn (FW ro) n P ops (qn K) l a w
  | [], _, _, h => h
  | i :: rest, a, w, h => by
    unfold wpOps at h
    unfold wpOpsIn
    cases ho : ops[i]? with
    | none => simp only [ho] at h ⊢; exact ops_lift hd rest a w h
    | some o =>
      simp only [ho] at h ⊢
      have hnd := noDef_spec hd o (Array.mem_toList_iff.2 (Array.mem_of_getElem? ho))
      split
      · rename_i hw
        rw [if_pos hw] at h
        rcases h with h | ⟨_, a0, w0, h0⟩
        · exact Oper.wpIn_mono' (fun a w => ops_lift hd rest a w) (op_lift h hnd)
        · exact h0.elim
      · rename_i hw
        rw [if_neg hw] at h
        exact ⟨fun _ _ => trivial, ops_lift hd rest _ _ h⟩

/-! #### a region that draws and ends in a yield -/
theorem Oper.wpIn_monoQ {F : Fence} {n : Nat} {P : Program} {o : Oper} {a : Act} {w : World} {K K' K2 K3 : Act → World → Prop} (h : ∀ a w, K2 a w → K' a w) (hh : o.wpIn F n P a w K2 (qn K)) : o.wpIn F n P a w K' (qn K3) := by
  refine ⟨hh.1, ?_⟩
  have hh := hh.2
  have hL : LetsOut (qn K) → LetsOut (qn K3) := fun hl => by
    obtain ⟨_, a0, w0, h0⟩ := (⟨trivial, hl⟩ : True ∧ _)
    exact h0.elim
  generalize (o.semAt F.round a.eval).run P w = r at *
  cases r with
  | ok nx w' =>
    cases nx <;> simp only [Oper.uponIn] at hh ⊢ <;> first
      | exact h _ _ hh
      | exact ⟨hh.1, CallsIn.mono hh.2 (fun e w'' he => by cases e <;> first | exact h _ _ he | exact hL he | exact he)⟩
      | exact ⟨hh.1, RowsIn.mono hh.2 (fun _ _ he => h _ _ he)⟩
      | exact ⟨hh.1, RoundIn.mono hh.2 (fun e w'' he => by cases e <;> first | exact h _ _ he | exact hL he | exact he)⟩
      | exact hh
  | halt x w' => cases x <;> simp only [Oper.uponIn] at hh ⊢ <;> first | exact hh | exact hh.elim
end Go.Eng
namespace Go.Eng
open Go Go.RowKit
set_option linter.unusedVariables false
set_option linter.unusedSimpArgs false
def Clsd (ops : Array Oper) (listed : Array Bool) : Prop := ∀ j i, listed.getD j false = true → waitsD ops j i = true → listed.getD i false = true
theorem getD_eq {listed : Array Bool} {j : Nat} (h : j < listed.size) : listed.getD j true = listed.getD j false := by simp [Array.getD, h]
theorem getD_set {listed : Array Bool} {i j : Nat} (h : i < listed.size) : (listed.setIfInBounds i true).getD j false = if j = i then true else listed.getD j false := by
  by_cases hj : j = i
  · subst hj; simp [Array.getD, h]
  · rw [if_neg hj]; simp only [Array.getD, Array.size_setIfInBounds]
    by_cases hl : j < listed.size
    · simp only [hl, dif_pos]; exact Array.getElem_setIfInBounds_ne hl (fun e => hj e.symm)
    · simp only [hl, dif_neg, not_false_eq_true]
theorem ready_waits {ops : Array Oper} {listed : Array Bool} {j i : Nat} (hr : j ∈ Region.ready .any ops listed) (hw : waitsD ops j i = true) : listed.getD i false = true := by
  obtain ⟨_, o, ho, hall⟩ := mem_ready.1 hr
  unfold waitsD at hw
  rw [ho] at hw
  simp only [List.any_eq_true, Array.mem_toList_iff, Bool.and_eq_true, beq_iff_eq] at hw
  obtain ⟨e, he, hb, rfl⟩ := hw
  exact hall e he hb
theorem Clsd.set {ops : Array Oper} {listed : Array Bool} {j : Nat} (h : Clsd ops listed) (hs : listed.size = ops.size) (hr : j ∈ Region.ready .any ops listed) : Clsd ops (listed.setIfInBounds j true) := by
  have hj : j < listed.size := by
    obtain ⟨_, o, ho, _⟩ := mem_ready.1 hr
    rw [hs]; exact (Array.getElem?_eq_some_iff.1 ho).1
  intro x i hx hw
  rw [getD_set hj] at hx ⊢
  by_cases hi : i = j
  · rw [if_pos hi]
  · rw [if_neg hi]
    by_cases hxj : x = j
    · subst hxj; exact ready_waits hr hw
    · rw [if_neg hxj] at hx; exact h x i hx hw
theorem upsL_get (m : Nat) : ∀ (l : List Bool) (k i : Nat), (upsL m k l)[i]? = (l[i]?).map fun b => b || decide (m ≤ k + i)
  | [], _, _ => by simp [upsL]
  | b :: l, k, 0 => by simp [upsL]
  | b :: l, k, i + 1 => by
    simp only [upsL, List.getElem?_cons_succ]
    rw [upsL_get m l (k + 1) i, show k + 1 + i = k + (i + 1) by omega]
theorem ups_get (m : Nat) (listed : Array Bool) (i : Nat) : (ups m listed)[i]? = (listed[i]?).map fun b => b || decide (m ≤ i) := by
  unfold ups
  rw [List.getElem?_toArray, upsL_get, Nat.zero_add, Array.getElem?_toList]
theorem ups_size (m : Nat) (listed : Array Bool) : (ups m listed).size = listed.size := by
  have : ∀ (l : List Bool) k, (upsL m k l).length = l.length := by
    intro l; induction l with
    | nil => intro k; rfl
    | cons b l ih => intro k; simp [upsL, ih]
  simp [ups, this]
theorem ups_set (m : Nat) (listed : Array Bool) (i : Nat) : (ups m listed).setIfInBounds i true = ups m (listed.setIfInBounds i true) := by
  apply Array.ext_getElem?
  intro j
  rw [ups_get]
  by_cases h : i = j
  · subst h
    by_cases hl : i < listed.size
    · rw [Array.getElem?_setIfInBounds_self_of_lt (by rw [ups_size]; exact hl), Array.getElem?_setIfInBounds_self_of_lt hl]; simp
    · rw [Array.getElem?_eq_none (by rw [Array.size_setIfInBounds, ups_size]; omega), Array.getElem?_eq_none (by rw [Array.size_setIfInBounds]; omega)]; rfl
  · rw [Array.getElem?_setIfInBounds_ne h, Array.getElem?_setIfInBounds_ne h, ups_get]
theorem ups_getD (m : Nat) (listed : Array Bool) (i : Nat) (d : Bool) (h : i < listed.size) : (ups m listed).getD i d = (listed.getD i d || decide (m ≤ i)) := by
  rw [Array.getD_eq_getD_getElem?, Array.getD_eq_getD_getElem?, ups_get, Array.getElem?_eq_getElem h]; rfl
structure Snk (ops : Array Oper) (m : Nat) : Prop where
  lt : m < ops.size
  one : ∀ j, j < m → ∃ i, j < i ∧ i ≤ m ∧ waitsD ops i j = true
  chain : ∀ i, m < i → i < ops.size → waitsD ops i (i - 1) = true
  on : ∀ j o, ops[j]? = some o → ∀ e ∈ o.after, Region.binds .any e = true → e.on < ops.size ∧ e.on < j
theorem sinkOk_spec {ops : Array Oper} {m : Nat} (hk : sinkOk ops m = true) : Snk ops m := by
  unfold sinkOk at hk
  simp only [Bool.and_eq_true, decide_eq_true_eq, List.all_eq_true, List.mem_range, List.any_eq_true, Bool.or_eq_true, Bool.not_eq_true'] at hk
  obtain ⟨⟨⟨⟨h0, h1⟩, h2⟩, h3⟩, h4⟩ := hk
  refine ⟨h0, fun j hj => ?_, fun i hm hi => ?_, fun j o ho e he hb => ?_⟩
  · obtain ⟨i, hi, hji, hw⟩ := h1 j hj
    exact ⟨i, hji, by omega, hw⟩
  · rcases h2 i hi with h | h
    · omega
    · exact h
  · have hlt := (Array.getElem?_eq_some_iff.1 ho).1
    have hon : e.on < ops.size := by
      rcases h3 o (Array.mem_toList_iff.2 (Array.mem_of_getElem? ho)) e (Array.mem_toList_iff.2 he) with h | h
      · rw [hb] at h; cases h
      · exact h
    refine ⟨hon, ?_⟩
    have hwt : waitsD ops j e.on = true := by
      unfold waitsD
      rw [ho]
      simp only [List.any_eq_true, Array.mem_toList_iff, Bool.and_eq_true, beq_iff_eq]
      exact ⟨e, he, hb, rfl⟩
    rcases h4 j hlt e.on hon with h | h
    · rw [hwt] at h; cases h
    · exact h
theorem sink_all {ops : Array Oper} {m : Nat} {listed : Array Bool} (hk : Snk ops m) (hc : Clsd ops listed) (hr : m ∈ Region.ready .any ops listed) : ∀ d j, j + d + 1 = m → listed.getD j false = true := by
  intro d
  induction d using Nat.strongRecOn with
  | ind d ih =>
    intro j hj
    obtain ⟨i, hji, hi, hw⟩ := hk.one j (by omega)
    by_cases he : i = m
    · subst he; exact ready_waits hr hw
    · exact hc i j (ih (m - 1 - i) (by omega) i (by omega)) hw
/-- the least that is not listed may come up -/
theorem least_ready {ops : Array Oper} {m i : Nat} {listed : Array Bool} (hk : Snk ops m) (hs : listed.size = ops.size) (hi : i < ops.size) (h0 : listed.getD i false = false) (hb : ∀ j, j < i → listed.getD j false = true) : i ∈ Region.ready .any ops listed := by
  rw [mem_ready]
  refine ⟨by rw [getD_eq (by omega)]; exact h0, ops[i], Array.getElem?_eq_getElem hi, fun e he hbd => ?_⟩
  exact hb _ (hk.on i _ (Array.getElem?_eq_getElem hi) e he hbd).2
theorem some_ready {ops : Array Oper} {m i : Nat} {listed : Array Bool} (hk : Snk ops m) (hs : listed.size = ops.size) (hm : i < ops.size) (hi : listed.getD i false = false) : Region.ready .any ops listed ≠ [] := by
  intro h0
  have key : ∀ n, n ≤ ops.size → ∀ j, j < n → listed.getD j false = true := by
    intro n
    induction n with
    | zero => intro _ j hj; omega
    | succ n ih =>
      intro hn j hj
      by_cases hjn : j < n
      · exact ih (by omega) j hjn
      · have : j = n := by omega
        subst this
        cases hb : listed.getD j false with
        | true => rfl
        | false =>
          have := least_ready hk hs (by omega) hb (fun x hx => ih (by omega) x hx)
          rw [h0] at this
          cases this
  have := key ops.size (Nat.le_refl _) i hm
  rw [hi] at this
  cases this
theorem lin_step {md : Region.Mode} {ops : Array Oper} {fuel t : Nat} {listed : Array Bool} (hne : Region.ready md ops listed ≠ []) :
    ∃ i, i ∈ Region.ready md ops listed ∧ ∃ t', Region.linearise.go md ops (fuel + 1) t listed [] = i :: Region.linearise.go md ops fuel t' (listed.setIfInBounds i true) [] := by
  have hlt : t % (Region.ready md ops listed).length < (Region.ready md ops listed).length := Nat.mod_lt _ (List.length_pos_iff.2 hne)
  refine ⟨(Region.ready md ops listed)[t % (Region.ready md ops listed).length], List.getElem_mem hlt, t / (Region.ready md ops listed).length, ?_⟩
  conv => lhs; unfold Region.linearise.go
  change (match (Region.ready md ops listed)[t % (Region.ready md ops listed).length]? with
      | some i => Region.linearise.go md ops fuel (t / (Region.ready md ops listed).length) (listed.setIfInBounds i true) [i]
      | none => [].reverse) = _
  rw [List.getElem?_eq_getElem hlt]
  simp only []
  rw [linearise_go_acc, List.reverse_singleton, List.singleton_append]
theorem sfx_lin {ops : Array Oper} {m : Nat} (hk : Snk ops m) : ∀ (d fuel t i : Nat) (listed : Array Bool), i + d = ops.size → m ≤ i → d ≤ fuel → listed.size = ops.size → (∀ j, j < i → listed.getD j false = true) → (∀ j, i ≤ j → j < ops.size → listed.getD j false = false) →
    Region.linearise.go .any ops fuel t listed [] = List.range' i d
  | 0, fuel, t, i, listed, hi, _, _, hs, hb, _ => by
    have hnil : Region.ready .any ops listed = [] := by
      rw [List.eq_nil_iff_forall_not_mem]
      intro j hj
      obtain ⟨h0, o, ho, _⟩ := mem_ready.1 hj
      have hlt := (Array.getElem?_eq_some_iff.1 ho).1
      rw [getD_eq (by omega), hb j (by omega)] at h0
      cases h0
    cases fuel with
    | zero => rfl
    | succ n =>
      unfold Region.linearise.go
      change (match (Region.ready .any ops listed)[t % (Region.ready .any ops listed).length]? with
        | some i => Region.linearise.go .any ops n (t / (Region.ready .any ops listed).length) (listed.setIfInBounds i true) [i]
        | none => [].reverse) = _
      rw [hnil]; rfl
  | d + 1, 0, _, _, _, _, _, hf, _, _, _ => by omega
  | d + 1, fuel + 1, t, i, listed, hi, hm, hf, hs, hb, hu => by
    have hlt : i < ops.size := by omega
    have hri := least_ready hk hs hlt (hu i (Nat.le_refl _) hlt) hb
    obtain ⟨j, hj, t', e⟩ := lin_step (fuel := fuel) (t := t) (List.ne_nil_of_mem hri)
    have hji : j = i := by
      obtain ⟨h0, o, ho, hall⟩ := mem_ready.1 hj
      have hjl := (Array.getElem?_eq_some_iff.1 ho).1
      rw [getD_eq (by omega)] at h0
      rcases Nat.lt_or_ge j i with h | h
      · rw [hb j h] at h0; cases h0
      · rcases Nat.eq_or_lt_of_le h with h | h
        · exact h.symm
        · have := ready_waits hj (hk.chain j (by omega) hjl)
          rw [hu (j - 1) (by omega) (by omega)] at this; cases this
    subst hji
    rw [e, List.range'_succ]
    congr 1
    refine sfx_lin hk d fuel t' (j + 1) _ (by omega) (by omega) (by omega) (by rw [Array.size_setIfInBounds]; exact hs) (fun x hx => ?_) (fun x hx hx2 => ?_)
    · rw [getD_set (by omega)]
      by_cases h : x = j
      · rw [if_pos h]
      · rw [if_neg h]; exact hb x (by omega)
    · rw [getD_set (by omega), if_neg (by omega)]; exact hu x (by omega) hx2
theorem last_sound {P : Program} {ops : Array Oper} {m : Nat} {K : Act → World → Prop} {ro : Option Nat} {n : Nat} (hk : Snk ops m) (hd : noDef ops.toList = true) : ∀ (fuel fl t : Nat) (listed : Array Bool) (a : Act) (w : World),
    listed.size = ops.size → Clsd ops listed → (∀ j, m ≤ j → j < ops.size → listed.getD j false = false) → fuel + (ops.size - m) ≤ fl →
    wpAny P .any ops (qn (lastY P ops m K)) fuel (ups m listed) a w → wpOpsIn (FW ro) n P ops (qn K) (Region.linearise.go .any ops fl t listed []) a w := by
  have hpos := hk.lt
  intro fuel
  induction fuel with
  | zero =>
    intro fl t listed a w hs hc hu hfl h
    obtain ⟨fl, rfl⟩ : ∃ n, fl = n + 1 := ⟨fl - 1, by omega⟩
    obtain ⟨i, hmem, t', e⟩ := lin_step (fuel := fl) (t := t) (some_ready hk hs hpos (hu m (Nat.le_refl _) hpos))
    rw [e]
    obtain ⟨h0, o, ho, hall0⟩ := mem_ready.1 hmem
    have hil := (Array.getElem?_eq_some_iff.1 ho).1
    by_cases him : i < m
    · exfalso
      have : i ∈ Region.ready .any ops (ups m listed) := by
        rw [mem_ready]
        refine ⟨?_, o, ho, fun e he hb => ?_⟩
        · rw [ups_getD m listed i true (by omega), h0, decide_eq_false (by omega)]; rfl
        · have := (hk.on i o ho e he hb).1
          rw [ups_getD m listed e.on false (by omega), hall0 e he hb]; rfl
      rw [h.1] at this
      cases this
    · have him2 : i = m := by
        rcases Nat.eq_or_lt_of_le (Nat.le_of_not_lt him) with h | h
        · exact h.symm
        · have := ready_waits hmem (hk.chain i h hil)
          rw [hu (i - 1) (by omega) (by omega)] at this; cases this
      subst him2
      have hall : ∀ j, j < i → listed.getD j false = true := fun j hj => sink_all hk hc hmem (i - 1 - j) j (by omega)
      have hl : Region.linearise.go .any ops fl t' (listed.setIfInBounds i true) [] = List.range' (i + 1) (ops.size - (i + 1)) :=
        sfx_lin hk (ops.size - (i + 1)) fl t' (i + 1) _ (by omega) (by omega) (by omega) (by rw [Array.size_setIfInBounds]; exact hs) (fun x hx => by
          rw [getD_set (by omega)]
          by_cases h : x = i
          · rw [if_pos h]
          · rw [if_neg h]; exact hall x (by omega)) (fun x hx hx2 => by rw [getD_set (by omega), if_neg (by omega)]; exact hu x (by omega) hx2)
      have hY : lastY P ops i K a w := h.2
      have := popsY_in (ro := ro) (n := n) _ a w hY
      rw [hl, ← List.range'_succ (s := i) (n := ops.size - (i + 1)) (step := 1)]
      have hlen : ops.size - (i + 1) + 1 = (ops.toList.drop i).length := by rw [List.length_drop, Array.length_toList]; omega
      rw [hlen, wpOpsIn_eq_wpListIn (ops := ops) (ops.toList.drop i) i (fun j => by rw [List.getElem?_drop, Array.getElem?_toList])]
      exact this
  | succ fuel ih =>
    intro fl t listed a w hs hc hu hfl h
    obtain ⟨fl, rfl⟩ : ∃ n, fl = n + 1 := ⟨fl - 1, by omega⟩
    obtain ⟨i, hmem, t', e⟩ := lin_step (fuel := fl) (t := t) (some_ready hk hs hpos (hu m (Nat.le_refl _) hpos))
    rw [e]
    obtain ⟨h0, o, ho, hall0⟩ := mem_ready.1 hmem
    have hil := (Array.getElem?_eq_some_iff.1 ho).1
    by_cases him : i < m
    · have h2 : i ∈ Region.ready .any ops (ups m listed) := by
        rw [mem_ready]
        refine ⟨?_, o, ho, fun e he hb => ?_⟩
        · rw [ups_getD m listed i true (by omega), h0, decide_eq_false (by omega)]; rfl
        · have := (hk.on i o ho e he hb).1
          rw [ups_getD m listed e.on false (by omega), hall0 e he hb]; rfl
      have hnd := noDef_spec hd o (Array.mem_toList_iff.2 (Array.mem_of_getElem? ho))
      have hop := h.2 i h2
      have rest : ∀ a' w', wpAny P .any ops (qn (lastY P ops m K)) fuel ((ups m listed).setIfInBounds i true) a' w' → wpOpsIn (FW ro) n P ops (qn K) (Region.linearise.go .any ops fl t' (listed.setIfInBounds i true) []) a' w' := by
        intro a' w' hw
        rw [ups_set] at hw
        refine ih fl t' _ a' w' (by rw [Array.size_setIfInBounds]; exact hs) (hc.set hs hmem) (fun j hj hj2 => ?_) (by omega) hw
        rw [getD_set (by omega), if_neg (by omega)]; exact hu j hj hj2
      rw [wpOpsIn_cons]
      unfold wpOp at hop
      unfold wpOpIn
      simp only [ho] at hop ⊢
      split
      · rename_i hw
        rw [if_pos hw] at hop
        rcases hop with hop | ⟨_, a0, w0, h0⟩
        · exact Oper.wpIn_monoQ rest (op_lift hop hnd)
        · exact h0.elim
      · rename_i hw
        rw [if_neg hw] at hop
        exact ⟨fun _ _ => trivial, rest _ _ hop⟩
    · have him2 : i = m := by
        rcases Nat.eq_or_lt_of_le (Nat.le_of_not_lt him) with h | h
        · exact h.symm
        · have := ready_waits hmem (hk.chain i h hil)
          rw [hu (i - 1) (by omega) (by omega)] at this; cases this
      subst him2
      have hall : ∀ j, j < i → listed.getD j false = true := fun j hj => sink_all hk hc hmem (i - 1 - j) j (by omega)
      have hnil : Region.ready .any ops (ups i listed) = [] := by
        rw [List.eq_nil_iff_forall_not_mem]
        intro j hj
        obtain ⟨h0, o, ho, _⟩ := mem_ready.1 hj
        have hlt := (Array.getElem?_eq_some_iff.1 ho).1
        rw [ups_getD i listed j true (by omega), getD_eq (by omega)] at h0
        rcases Nat.lt_or_ge j i with h | h
        · rw [hall j h] at h0; simp at h0
        · rw [decide_eq_true h] at h0; simp at h0
      have hl : Region.linearise.go .any ops fl t' (listed.setIfInBounds i true) [] = List.range' (i + 1) (ops.size - (i + 1)) :=
        sfx_lin hk (ops.size - (i + 1)) fl t' (i + 1) _ (by omega) (by omega) (by omega) (by rw [Array.size_setIfInBounds]; exact hs) (fun x hx => by
          rw [getD_set (by omega)]
          by_cases h : x = i
          · rw [if_pos h]
          · rw [if_neg h]; exact hall x (by omega)) (fun x hx hx2 => by rw [getD_set (by omega), if_neg (by omega)]; exact hu x (by omega) hx2)
      have hY : lastY P ops i K a w := h.1 hnil
      have := popsY_in (ro := ro) (n := n) _ a w hY
      rw [hl, ← List.range'_succ (s := i) (n := ops.size - (i + 1)) (step := 1)]
      have hlen : ops.size - (i + 1) + 1 = (ops.toList.drop i).length := by rw [List.length_drop, Array.length_toList]; omega
      rw [hlen, wpOpsIn_eq_wpListIn (ops := ops) (ops.toList.drop i) i (fun j => by rw [List.getElem?_drop, Array.getElem?_toList])]
      exact this

theorem encL_len : ∀ (rs : List (Bool × List CK)) (x : TR rs), (encL rs x).length = rs.length
  | [], _ => rfl
  | _ :: rs, x => by simp [encL, encL_len rs x.2]
theorem setP_eq : ∀ (ps : List Tmp) (vs : List Value) (t : Array Value), setP ps vs t = (ps.zip vs).foldl (fun t p => t.setIfInBounds p.1 p.2) t
  | [], _, t => by simp [setP]
  | p :: ps, [], t => by simp [setP]
  | p :: ps, v :: vs, t => by simp only [setP, List.zip_cons_cons, List.foldl_cons]; exact setP_eq ps vs _
theorem setP_arr (ps : Array Tmp) (vs : List Value) (t : Array Value) : (ps.zip vs.toArray).foldl (fun t (p, v) => t.setIfInBounds p v) t = setP ps.toList vs t := by
  rw [setP_eq, ← Array.foldl_toList, Array.toList_zip]

theorem Turn.of_grown {B : Nat} {w w' : World} {row : Option Nat} (g : w.grownBy w' row) (hr : ∀ r, row = some r → B ≤ r ∧ ∃ o : Obj, w.heap[r]? = some o ∧ o.isCells = false) : Turn B w w' :=
  ⟨g.os, g.tape, g.output, g.size, fun k o hk ho => by
    refine (g.block k (Array.getElem?_eq_some_iff.1 hk).1 (fun e => ?_)).trans hk
    obtain ⟨hB, o', ho', hc⟩ := hr k e.symm
    rw [hk] at ho'
    injection ho' with ho'
    subst ho'
    rcases ho with ho | ho
    · omega
    · rw [ho] at hc; cases hc⟩

theorem exN_unN {e : Exit} {i : Nat} (h : exN e = some i) : e = unN i := by
  unfold exN at h
  split at h <;> first | (injection h with h; subst h; rfl) | cases h

/-- the jump that a body asks for -/
def cJ : Code → Option Nat | .ret => some 0 | .exit i => some (i + 1) | _ => none

theorem callFunc_run {P : Program} {g : FuncId} (hc : callable P g = true) (args : Array Value) (w : World) : (callFunc g args).run P w = .ok (.enter g args) w := by
  unfold callable at hc
  split at hc
  case h_2 => cases hc
  rename_i fn hfn
  simp only [Bool.and_eq_true, Bool.not_eq_true'] at hc
  obtain ⟨h1, h2⟩ := hc
  have h3 : fn.body ≠ none := by intro hb; rw [hb] at h2; cases h2
  have h4 : fn.name ≠ "runtime.NumGoroutine" := by simpa using h1
  simp [callFunc, hfn, h4, h3, program, bind, Sem.bind, Sem.run, pure]

theorem rangeFunc_in {P : Program} {g : Operand} {ps : Array Tmp} {assign body : Code} {rs : List (Bool × List CK)} {K : Act → World → Prop} {Q : Exit → Act → World → Prop} {a : Act} {w : World} {n : Nat}
    {rnd : TR rs → (World → ((World → Prop) → (Nat → World → Prop) → World → Prop) → Prop) → World → Prop} {ex : List Nat}
    (pA : TR rs → (Act → World → Prop) → World → Prop) (pB : (World → Prop) → (Nat → World → Prop) → Act → World → Prop)
    (hrnd : ∀ x k W, rnd x k W → pA x (fun a' W1 => k W1 fun go lv W2 => pB go lv a' W2) W)
    (hA : ∀ (l : Nat) x (k : Act → World → Prop) W, pA x k W → assign.wpIn (FW (some l)) 1 P (Exit.then k (fun _ _ _ => False)) { tmps := setP ps.toList (encL rs x) a.tmps, defers := [] } W)
    (hB : ∀ (l : Nat) go lv a' W, pB go lv a' W → body.wpIn (FW (some l)) 1 P (fun e a W => match e with | .normal => go W | e => lvK ex lv e W) a' W)
    (hps : ps.size = rs.length)
    (h : RfT P (a.eval g) rs w rnd (fun D W => K { a with defers := markD D :: a.defers } W) (ex.map fun i => (i, fun D W => Q (unN i) { a with defers := markD D :: a.defers } W))) :
    (Code.rangeFunc g ps assign body).wpIn (FW none) n P (QK K Q) a w := by
  refine wpW (n := 3) ?_
  obtain ⟨V, xs, M, I, Ix, hits, h0, hr, hdone, hstop⟩ := h
  unfold ItS at hits
  split at hits
  case h_2 => exact hits.elim
  rename_i gf fi lb hg
  obtain ⟨rfl, hcal, hseq⟩ := hits
  let I' : List { x : TR rs // V x } → World → Prop := fun pre W => w.heap.size ≤ W.heap.size ∧ ∀ W2, Turn w.heap.size W W2 → I (pre.map (·.1)) W2
  let Ix' : Code → List { x : TR rs // V x } → World → Prop := fun c pre W => ∃ i, cJ c = some i ∧ ex.contains i = true ∧ ∀ W2, Turn w.heap.size W W2 → Ix i (pre.map (·.1)) W2
  have hI'a : ∀ pre W W2, I' pre W → Turn w.heap.size W W2 → I' pre W2 := fun pre W W2 h t => ⟨Nat.le_trans h.1 t.size, fun W3 t' => h.2 W3 (t.trans t')⟩
  have hRk : ∀ W W', Rnd w.heap.size M W W' → KeepsFrom w.heap.size W W' ∧ KpM w.heap.size M W W' := fun W W' r =>
    ⟨⟨r.size, fun k o hk h1 h2 => r.high k o hk h1 h2⟩, fun k o hk hM h1 => r.low k o hk hM h1⟩
  refine wpIn_rangeFunc_ownH (F := FW none) (n := 3) rfl (by decide) hg trivial (callFunc_run hcal) (α := { x : TR rs // V x }) (encs := fun x => (encL rs x.1).toArray)
    (Kp := KpM w.heap.size M) (w0 := w) hseq (fun h1 h2 k o hk hM h => h2 k o hk hM (h1 k o hk hM h)) ?_ (Below.refl _ _) (fun x => by simp [encL_len, hps]) I' Ix' ?_ ?_ ⟨Nat.le_refl _, h0⟩
    (fun x a' W => ∀ W2, Turn w.heap.size W W2 → ∀ pre, I' pre W2 → pre.length < xs.length → ∀ l, body.wpIn (FW (some l)) 1 P (ownPostG w.heap.size (KpM w.heap.size M) I' Ix' (pre ++ [x]) W2) a' W2) ?_ ?_ ?_ ?_ ?_
  · intro W l o o' hl ho hc hw k o2 hk hM h2
    show (W.putObj l o').heap[k]? = _
    rw [World.putObj_heap_other (by omega)]; exact h2
  · exact fun pre W W' row hs g hr => hI'a pre W W' hs (Turn.of_grown g hr)
  · rintro c pre W W' row ⟨i, h1, h2, h3⟩ g hr
    exact ⟨i, h1, h2, fun W2 t => h3 W2 ((Turn.of_grown g hr).trans t)⟩
  · intro x a' s W W' row hs g hr W2 t
    exact hs W2 ((Turn.of_grown g hr).trans t)
  · intro l pre x W K0 hi hK
    have h1 := hA l x.1 _ W (hrnd x.1 _ W (hr x.1 W x.2 hi.1))
    rw [setP_arr]
    refine wpIn_mono h1 ?_
    intro e a' W1 h
    cases e with
    | normal =>
      obtain ⟨t1, ext, hb⟩ := h
      refine hK a' W1 ⟨t1.size, fun k o _ hk _ => ext k o hk⟩ (fun k o _ _ hk => ext k o hk) (hI'a _ _ _ hi t1) ?_
      intro W2 t pre2 hi2 hlen l'
      have h2 := hb W2 t (pre2.map (·.1)) (hi2.2 W2 (Turn.refl _ _)) (by rw [List.length_map]; exact hlen)
      refine wpIn_mono (hB l' _ _ a' W2 h2) ?_
      have em : (pre2 ++ [x]).map (·.1) = pre2.map (·.1) ++ [x.1] := by simp
      have leave : ∀ (e : Exit) (c : Code) (i : Nat) (W3 : World), exN e = some i → cJ c = some i → lvK ex (fun e W3 => Rnd w.heap.size M W2 W3 ∧ ∀ W4, Turn w.heap.size W3 W4 → Ix e (pre2.map (·.1) ++ [x.1]) W4) e W3 →
          KeepsFrom w.heap.size W2 W3 ∧ Ix' c (pre2 ++ [x]) W3 := by
        intro e c i W3 he hc h
        unfold lvK at h
        rw [he] at h
        simp only at h
        split at h
        case isFalse => exact h.elim
        rename_i hex
        refine ⟨(hRk _ _ h.1).1, i, hc, hex, ?_⟩
        rw [em]; exact h.2
      intro e a3 W3 h
      cases e with
      | normal =>
        refine ⟨(hRk _ _ h.1).1, (hRk _ _ h.1).2, Nat.le_trans hi2.1 h.1.size, ?_⟩
        rw [em]; exact h.2
      | ret => exact leave .ret .ret 0 W3 rfl rfl h
      | exit id => exact leave (.exit id) (.exit id) (id + 1) W3 rfl rfl h
      | goto t => exact h.elim
      | panic ch => exact h.elim
      | outgrown => exact h.elim
    | _ => exact h
  · intro l pre x a' W hl _ hi hax hlen
    exact hax W (Turn.refl _ _) pre hi hlen l
  · intro D ys W hD hS hi hk
    have := hi.2 W (Turn.refl _ _)
    rw [hS] at this
    exact hdone D W hD this hk
  · rintro D c pre W hD hSp ⟨i, hc, hex, hi⟩ hk
    have hm := hstop (i, fun D W => Q (unN i) { a with defers := markD D :: a.defers } W) (List.mem_map.2 ⟨i, by simpa using hex, rfl⟩) D _ W hD hSp (hi W (Turn.refl _ _)) hk
    cases c <;> first | (injection hc with hc; subst hc; first | exact wpIn_ret hm | exact wpIn_exit hm) | cases hc

theorem pw_in {P : Program} (hm : P.follows .mixedOrders = true) (ro : Option Nat) {n : Nat} : ∀ (c : Code) (h : Hn) (K : Act → World → Prop) (Q : Exit → Act → World → Prop) (a : Act) (w : World),
    (ro = none ∨ noRf c = true) → pw P c h K Q a w → c.wpIn (FW ro) n P (QK K Q) a w
  | .skip, _, K, Q, a, w, _, h => wpIn_skip h
  | .label _, _, K, Q, a, w, _, h => wpIn_label h
  | .seq x y, hn, K, Q, a, w, nr, h => by
    have nx : ro = none ∨ noRf x = true := nr.imp id fun nr => by simp only [noRf, Bool.and_eq_true] at nr; exact nr.1
    have ny : ro = none ∨ noRf y = true := nr.imp id fun nr => by simp only [noRf, Bool.and_eq_true] at nr; exact nr.2
    unfold pw at h
    refine wpIn_seq ?_
    split at h
    · split at h
      case isFalse => exact h.elim
      rename_i hs
      rw [Bool.and_eq_true] at hs
      obtain ⟨J, hJ, hB⟩ := h
      have h1 : pw P x hn.l (fun a' w' => pw P y hn.r K Q a' w') Q a w := by
        refine pw_ag x hn.l _ _ Q Q a w ?_ (fun _ _ _ _ h => h) hs.2 hJ
        intro a' w' hA hj
        unfold onL at hj
        split at hj
        · rename_i z hz
          have := hB z w' hj (fun i => a'.tmps.getD i undef)
          rwa [updL_eq hA hz] at this
        · exact hj.elim
      refine wpIn_mono (pw_in hm ro x hn.l _ Q a w nx h1) ?_
      intro e a' w' h
      cases e with
      | normal => exact pw_in hm ro y hn.r K Q a' w' ny h
      | _ => exact h
    · refine wpIn_mono (pw_in hm ro x hn.l _ Q a w nx h) ?_
      intro e a' w' h
      cases e with
      | normal => exact pw_in hm ro y hn.r K Q a' w' ny h
      | _ => exact h
  | .cond c x y, hn, K, Q, a, w, nr, h => by
    have nx : ro = none ∨ noRf x = true := nr.imp id fun nr => by simp only [noRf, Bool.and_eq_true] at nr; exact nr.1
    have ny : ro = none ∨ noRf y = true := nr.imp id fun nr => by simp only [noRf, Bool.and_eq_true] at nr; exact nr.2
    unfold pw at h
    split at h
    case h_2 => exact h.elim
    rename_i b hb
    cases b
    · exact wpIn_cond hb (pw_in hm ro y hn.r K Q a w ny h)
    · exact wpIn_cond hb (pw_in hm ro x hn.l K Q a w nx h)
  | .block id c, hn, K, Q, a, w, nr, h => by
    unfold pw at h
    refine wpIn_block (wpIn_mono (pw_in hm ro c hn K _ a w nr h) ?_)
    intro e a' w' h
    cases e with
    | exit i => exact h
    | _ => exact h
  | .exit id, _, _, _, _, _, _, h => wpIn_exit h
  | .ret, _, _, _, _, _, _, h => wpIn_ret h
  | .region _ ops false, hn, K, Q, a, w, nr, h => by
    unfold pw at h
    split at h
    · exact wpIn_region_list (popsZ_in _ a w nr h)
    · exact wpIn_mono (wpIn_region_list (popsY_in _ a w h)) qn_QK
  | .region _ ops true, hn, K, Q, a, w, _, h => by
    unfold pw at h
    split at h
    · split at h
      case isFalse => exact h.elim
      rename_i hc
      obtain ⟨h1, h2, h3, h5⟩ := hc
      have hk := sinkOk_spec h3
      have hlt := hk.lt
      refine wpIn_mono (Q := qn K) (wpIn_region_draw fun t => ?_) qn_QK
      simp only [Region.schedule, hm, Bool.true_or, if_true]
      have hfl : ∀ j, (Array.replicate ops.size false).getD j false = false := fun j => by
        simp only [Array.getD, Array.size_replicate]; split <;> simp
      have hcl : Clsd ops (Array.replicate ops.size false) := fun j i hj _ => by rw [hfl] at hj; cases hj
      have h6 := wpAny_of_C (C := CC ops [] []) _ _ _ _ (pd_sound h1 hn.plan hn.m _ [] [] a _ h5 trivial h)
      exact last_sound (ro := ro) (n := n) hk h2 hn.m ops.size t (Array.replicate ops.size false) a _ (by simp) hcl (fun j _ _ => hfl j) (by omega) h6
    split at h
    case isFalse => exact h.elim
    rename_i hc
    refine wpIn_mono (Q := qn K) (wpIn_region_draw fun t => ?_) qn_QK
    refine ops_lift hc.2.1 _ _ _ ?_
    simp only [Region.schedule, hm, Bool.true_or, if_true]
    refine wpAny_sound ops.size t _ a _ (wpAny_of_C (C := CC ops [] []) _ _ _ _ ?_)
    exact pd_sound hc.1 hn.plan _ _ [] [] a _ hc.2.2 trivial h
  | .loop c, hn, K, Q, a, w, nr, h => by
    unfold pw at h
    split at h
    case isFalse => exact h.elim
    rename_i hs
    rw [Bool.and_eq_true] at hs
    unfold onL at h
    split at h
    case h_2 => exact h.elim
    rename_i x0 hx0
    obtain ⟨I, m, h0, hr⟩ := h
    refine wpIn_loop (fun a' w' => ∃ x, decL hn.slots a'.tmps = some x ∧ I x w' ∧ Ag (dsts c) a a') (fun a' w' => match decL hn.slots a'.tmps with | some x => m x w' | none => 0) ⟨x0, hx0, h0, Ag.refl _ _⟩ ?_
    rintro a1 w1 ⟨x, hx, hI, hA⟩
    have hb := hr x w1 hI (fun i => a1.tmps.getD i undef)
    rw [updL_eq hA hx] at hb
    have hb' := pw_ag c hn.l _ (fun a' w' => onL hn.slots a' (fun x' => I x' w' ∧ m x' w' < m x w1) ∧ Ag (dsts c) a1 a') Q Q a1 w1 (fun a' w' hA' h => ⟨h, hA'⟩) (fun _ _ _ _ h => h) hs.2 hb
    refine wpIn_mono (pw_in hm ro c hn.l _ Q a1 w1 (.inr hs.2) hb') ?_
    intro e a' w' h
    cases e with
    | normal =>
      obtain ⟨h1, hA'⟩ := h
      unfold onL at h1
      split at h1
      case h_2 => exact h1.elim
      rename_i x' hx'
      refine ⟨⟨x', hx', h1.1, hA.trans hA'⟩, ?_⟩
      simp only [hx', hx]
      exact h1.2
    | _ => exact h
  | .rangeFunc g ps assign body, hn, K, Q, a, w, nr, h => by
    obtain rfl : ro = none := nr.resolve_right (fun h => by cases h)
    unfold pw at h
    split at h
    case isFalse => exact h.elim
    rename_i hc
    simp only [Bool.and_eq_true, beq_iff_eq] at hc
    refine rangeFunc_in (ex := exD (exJ body)) (fun x k W => pw P assign hn.l k (fun _ _ _ => False) { tmps := setP ps.toList (encL hn.rs x) a.tmps, defers := [] } W)
      (fun go lv a' W => pw P body hn.r (fun _ W3 => go W3) (fun e _ W3 => lvK (exD (exJ body)) lv e W3) a' W) (fun x k W h => h) ?_ ?_ hc.2 h
    · intro l x k W h
      refine wpIn_mono (pw_in hm (some l) assign hn.l _ _ _ W (.inr hc.1.1) h) ?_
      intro e a' w' h
      cases e <;> exact h
    · intro l go lv a' W h
      refine wpIn_mono (pw_in hm (some l) body hn.r _ _ a' W (.inr hc.1.2) h) ?_
      intro e a' w' h
      cases e <;> exact h
  | .scope .., _, _, _, _, _, _, h => h.elim
  | .goto .., _, _, _, _, _, _, h => h.elim
  | .refuse .., _, _, _, _, _, _, h => h.elim

/-! ### a function -/
def resK (P : Program) : List ResultVar → Act → World → (List Value → Prop) → Prop
  | [], _, _, k => k []
  | .tmp t :: rs, a, w, k => resK P rs a w fun vs => k (a.tmps.getD t undef :: vs)
  | .cell c t :: rs, a, w, k => match a.tmps.getD c undef with
    | .pointer (some p) => ldW P t (.pointer (some p)) w fun v => resK P rs a w fun vs => k (v :: vs)
    | _ => False
def oneV : List Value → Value
  | [v] => v
  | vs => .tuple vs.toArray
def finK (P : Program) (fn : Func) (R : Value → World → Prop) (a : Act) (w : World) : Prop := resK P fn.results.toList a w fun vs => R (oneV vs) w
/-- A mark is come to: its block is shut. -/
def tkK (D : Nat) (w : World) (k : World → Prop) : Prop := Mark w D ∧ k (w.putObj D (.deferred none))
def tkL : List Deferred → World → (World → Prop) → Prop
  | [], w, k => k w
  | d :: ds, w, k => match d.target with | .collected D => tkK D w fun w' => tkL ds w' k | _ => False
def finM (P : Program) (fn : Func) (R : Value → World → Prop) (a : Act) (w : World) : Prop := tkL a.defers w fun w' => finK P fn R a w'
def wpF (P : Program) (fn : Func) (h : Hn) (args : List Value) (w : World) (R : Value → World → Prop) : Prop :=
  match fn.body with
  | none => False
  | some c => pw P c h (finM P fn R) (fun e a w => match e with | .ret => finM P fn R a w | _ => False)
      { tmps := (args ++ List.replicate (fn.ntmps - args.length) undef).toArray, defers := [] } w

theorem resK_spec {P : Program} {a : Act} {w : World} : ∀ (rs : List ResultVar) (k : List Value → Prop), resK P rs a w k →
    ∃ vs, k vs ∧ (rs.mapM fun r => (match r with | .tmp t => pure (a.tmps.getD t undef) | .cell c t => do loadVar t (← asAddr (a.tmps.getD c undef)) : Sem Value)).run P w = .ok vs w
  | [], k, h => ⟨[], h, rfl⟩
  | .tmp t :: rs, k, h => by
    obtain ⟨vs, hk, hr⟩ := resK_spec rs _ h
    refine ⟨_, hk, ?_⟩
    simp only [List.mapM_cons]
    refine (run_bind (Sem.pure (a.tmps.getD t undef)) _ w rfl).trans ?_
    refine (run_bind _ _ w hr).trans rfl
  | .cell c t :: rs, k, h => by
    unfold resK at h
    split at h
    case h_2 => exact h.elim
    rename_i p hp
    obtain ⟨v, h1, hrun⟩ := ldW_spec h
    obtain ⟨vs, hk, hr⟩ := resK_spec rs _ h1
    refine ⟨_, hk, ?_⟩
    simp only [List.mapM_cons]
    have hl : (loadVar t p).run P w = .ok v w := by
      have := hrun w (fun _ _ => rfl)
      simp only [Instr.loadAt, Instr.sureAddr] at this
      exact (run_bind (Sem.pure p) _ w rfl).symm.trans this
    rw [hp]
    refine (run_bind (Sem.pure p >>= fun q => loadVar t q) _ w ((run_bind (Sem.pure p) _ w rfl).trans hl)).trans ?_
    refine (run_bind _ _ w hr).trans rfl

theorem results_run {P : Program} {fn : Func} {a : Act} {w : World} {R : Value → World → Prop} (h : finK P fn R a w) : ∃ v, (results fn a.tmps).run P w = .ok v w ∧ R v w := by
  obtain ⟨vs, hk, hr⟩ := resK_spec _ _ h
  refine ⟨_, ?_, hk⟩
  unfold results
  rw [← Array.toArray_toList (xs := fn.results), List.mapM_toArray]
  have hm : (List.toArray <$> (fn.results.toList.mapM fun r => (match r with | .tmp t => pure (a.tmps.getD t undef) | .cell c t => do loadVar t (← asAddr (a.tmps.getD c undef)) : Sem Value))).run P w = .ok vs.toArray w := by
    rw [Sem.run_map, hr]; rfl
  refine (run_bind _ _ w hm).trans ?_
  match vs with
  | [] => rfl
  | [v] => rfl
  | v :: u :: vs => rfl

theorem leavesM {P : Program} {fn : Func} {a : Act} {R : Ending → World → Prop} {k : World → Prop} (hk : ∀ w, k w → ∃ v, (results fn a.tmps).run P w = .ok v w ∧ R (.returned v) w) :
    ∀ (ds : List Deferred) (w : World), tkL ds w k → LeavesInM (FW none) 3 P fn a.tmps R ds .returning w
  | [], w, h => hk w h
  | d :: ds, w, h => by
    unfold tkL at h
    split at h
    case h_2 => exact h.elim
    rename_i D hD
    obtain ⟨hm, h⟩ := h
    exact ⟨by simp, .inl ⟨D, _, hD, run_takeDeferred hm, leavesM hk ds _ h⟩⟩

theorem wpF_sound {P : Program} (hm : P.follows .mixedOrders = true) {f : FuncId} {fn : Func} (hf : P.funcs[f]? = some fn) (h : Hn) {args : List Value} {w : World} {R : Value → World → Prop} (hw : wpF P fn h args w R) :
    Calls P f args.toArray w fun e w' => ∃ v, e = .returned v ∧ R v w' := by
  unfold wpF at hw
  split at hw
  case h_1 => exact hw.elim
  rename_i c hc
  refine callsW.1 (callsIn_of_wp_marks (F := FW none) (n := 3) hf hc trivial ?_ rfl)
  have e : args.toArray ++ Array.replicate (fn.ntmps - args.toArray.size) undef = (args ++ List.replicate (fn.ntmps - args.length) undef).toArray := by
    apply Array.ext'; simp
  rw [e]
  refine wpIn_mono (pw_in hm none c h _ _ _ w (.inl rfl) hw) ?_
  intro e a' w' h
  have key : finM P fn R a' w' → LeavesInM (FW none) 3 P fn a'.tmps (fun e w' => ∃ v, e = .returned v ∧ R v w') a'.defers .returning w' := fun h =>
    leavesM (fun w h => by obtain ⟨v, hr, hR⟩ := results_run h; exact ⟨v, hr, v, rfl, hR⟩) _ _ h
  cases e with
  | normal => exact key h
  | ret => exact key h
  | _ => exact h.elim

/-! ### a function that may panic -/
def paK (ch : List PanicEntry) (Z : Value → World → Prop) (w : World) : Prop :=
  match ch with
  | [e] => (match e.recovered, e.goexit with | false, false => Z e.v w | _, _ => False)
  | _ => False
def finZ (a : Act) (ch : List PanicEntry) (Z : Value → World → Prop) (w : World) : Prop := match a.defers with | [] => paK ch Z w | _ => False
def wpFZ (P : Program) (fn : Func) (h : Hn) (args : List Value) (w : World) (R : Value → World → Prop) (Z : Value → World → Prop) : Prop :=
  match fn.body with
  | none => False
  | some c => pw P c h (finM P fn R) (fun e a w => match e with | .ret => finM P fn R a w | .panic ch => finZ a ch Z w | _ => False)
      { tmps := (args ++ List.replicate (fn.ntmps - args.length) undef).toArray, defers := [] } w
theorem paK_spec {ch : List PanicEntry} {Z : Value → World → Prop} {w : World} (h : paK ch Z w) : ∃ v, ch = [{ v, recovered := false }] ∧ Z v w := by
  unfold paK at h
  split at h
  · rename_i e
    split at h
    · rename_i h1 h2
      obtain ⟨v, r, g⟩ := e
      simp only at h1 h2 h
      subst h1 h2
      exact ⟨v, rfl, h⟩
    · exact h.elim
  · exact h.elim
theorem wpFZ_sound {P : Program} (hm : P.follows .mixedOrders = true) {f : FuncId} {fn : Func} (hf : P.funcs[f]? = some fn) (h : Hn) {args : List Value} {w : World} {R Z : Value → World → Prop} (hw : wpFZ P fn h args w R Z) :
    Calls P f args.toArray w fun e w' => (∃ v, e = .returned v ∧ R v w') ∨ ∃ v, e = .panicked [{ v, recovered := false }] ∧ Z v w' := by
  unfold wpFZ at hw
  split at hw
  case h_1 => exact hw.elim
  rename_i c hc
  refine callsW.1 (callsIn_of_wp_marks (F := FW none) (n := 3) hf hc trivial ?_ rfl)
  have e : args.toArray ++ Array.replicate (fn.ntmps - args.toArray.size) undef = (args ++ List.replicate (fn.ntmps - args.length) undef).toArray := by
    apply Array.ext'; simp
  rw [e]
  refine wpIn_mono (pw_in hm none c h _ _ _ w (.inl rfl) hw) ?_
  intro e a' w' h
  have key : finM P fn R a' w' → LeavesInM (FW none) 3 P fn a'.tmps (fun e w' => (∃ v, e = .returned v ∧ R v w') ∨ ∃ v, e = .panicked [{ v, recovered := false }] ∧ Z v w') a'.defers .returning w' := fun h =>
    leavesM (fun w h => by obtain ⟨v, hr, hR⟩ := results_run h; exact ⟨v, hr, .inl ⟨v, rfl, hR⟩⟩) _ _ h
  cases e with
  | normal => exact key h
  | ret => exact key h
  | panic ch =>
    have h : finZ a' ch Z w' := h
    unfold finZ at h
    split at h
    · rename_i hd
      obtain ⟨v, rfl, hz⟩ := paK_spec h
      show LeavesInM (FW none) 3 P fn a'.tmps _ a'.defers (.panicking [{ v, recovered := false }]) w'
      rw [hd]
      exact .inr ⟨v, rfl, hz⟩
    · exact h.elim
  | _ => exact h.elim

/-! ### words of the printed texts -/
def Ret (R : Value → World → Prop) (e : Ending) (w' : World) : Prop := ∃ v, e = .returned v ∧ R v w'
def alK (cs : List Value) (t : TypeId) (w : World) (k : Addr → World → Prop) : Prop := k ⟨w.heap.size, 0, none⟩ (w.alloc (.cells cs.toArray t))
def drK (w : World) (k : World → Prop) : Prop := k w.drew
def bitsX (op : BinOp) (k : IntKind) (x y : Int) : Int :=
  let a := BitVec.ofInt k.bits x
  let b := BitVec.ofInt k.bits y
  match op with
  | .and => k.wrap (a &&& b).toNat
  | .or => k.wrap (a ||| b).toNat
  | .xor => k.wrap (a ^^^ b).toNat
  | _ => k.wrap (a &&& ~~~b).toNat
def shlX (k : IntKind) (x y : Int) : Int := k.wrap (x * 2 ^ (min y.toNat k.bits))
def shrX (k : IntKind) (x y : Int) : Int := x.fdiv (2 ^ (min y.toNat k.bits))

/-! ### typed results: a typed result is its value -/
theorem enc_inj {c : CK} {x y : Tv c} (h : enc c x = enc c y) : x = y := by
  cases c <;> simp only [enc] at h
  case sl => obtain ⟨a, n, m⟩ := x; obtain ⟨b, k, l⟩ := y; simp at h; obtain ⟨rfl, rfl, rfl⟩ := h; rfl
  case a => injection h with h; injection h with h
  all_goals first | exact h | (injection h)
theorem encs_inj : ∀ (cs : List CK) (x y : Tvs cs), encs cs x = encs cs y → x = y
  | [], _, _, _ => rfl
  | c :: cs, x, y, h => by
    simp only [encs, List.cons.injEq] at h
    exact Prod.ext (enc_inj h.1) (encs_inj cs _ _ h.2)
def shOk (rs : List (Bool × List CK)) : Bool := rs.all fun x => x.1 || x.2.length == 1
theorem enc1_inj {ag : Bool} {cs : List CK} {x y : Tvs cs} (hs : (ag || cs.length == 1) = true) (h : enc1 ag cs x = enc1 ag cs y) : x = y := by
  cases ag
  · match cs, hs, x, y, h with
    | [c], _, x, y, h => exact encs_inj [c] x y (by simp [enc1, encs] at h ⊢; exact h)
  · simp only [enc1, if_true, Value.agg.injEq] at h
    exact encs_inj cs x y (by simpa using congrArg Array.toList h)
theorem encL_inj : ∀ (rs : List (Bool × List CK)) (x y : TR rs), shOk rs = true → encL rs x = encL rs y → x = y
  | [], _, _, _, _ => rfl
  | c :: rs, x, y, hs, h => by
    simp only [shOk, List.all_cons, Bool.and_eq_true] at hs
    simp only [encL, List.cons.injEq] at h
    exact Prod.ext (enc1_inj hs.1 h.1) (encL_inj rs _ _ hs.2 h.2)
theorem encL_length : ∀ (rs : List (Bool × List CK)) (x : TR rs), (encL rs x).length = rs.length
  | [], _ => rfl
  | _ :: rs, x => by simp [encL, encL_length rs x.2]
theorem encR_inj {tup : Bool} {rs : List (Bool × List CK)} {x y : TR rs} (hs : shOk rs = true) (ht : (tup || rs.length == 1) = true) (h : encR tup rs x = encR tup rs y) : x = y := by
  cases tup
  · match rs, ht, x, y, hs, h with
    | [c], _, x, y, hs, h => exact encL_inj [c] x y hs (by simp [encR, encL] at h ⊢; exact h)
  · simp only [encR, if_true, Value.tuple.injEq] at h
    exact encL_inj rs x y hs (by simpa using congrArg Array.toList h)

theorem ok_of {P : Program} (hm : P.follows .mixedOrders = true) {f : FuncId} {fn : Func} (hf : P.funcs[f]? = some fn) {h : Hn} {args : List Value} {w : World} {tup : Bool} {rs : List (Bool × List CK)}
    (wpT : (TR rs → World → Prop) → Prop) (heq : ∀ R, wpF P fn h args w R = wpT fun r w => R (encR tup rs r) w) (hs : (shOk rs && (tup || rs.length == 1)) = true) {k : TR rs → World → Prop} (hk : wpT k) :
    clS P f args w tup rs k := by
  rw [Bool.and_eq_true] at hs
  have e : (fun (r : TR rs) (w : World) => ∃ r', encR tup rs r = encR tup rs r' ∧ k r' w) = k := by
    funext r w
    exact propext ⟨fun ⟨r', h1, h2⟩ => encR_inj hs.1 hs.2 h1 ▸ h2, fun h => ⟨r, rfl, h⟩⟩
  have hw : wpF P fn h args w fun v w' => ∃ r, v = encR tup rs r ∧ k r w' := by
    rw [heq, e]; exact hk
  refine Calls.mono (wpF_sound hm hf h hw) ?_
  rintro e w' ⟨v, rfl, r, rfl, h⟩
  exact ⟨r, rfl, h⟩

/-- 'ok_of' as the short print calls it: what the kernel can see it sees alone. -/
theorem oks {P : Program} (hm : P.follows .mixedOrders = true) {f : FuncId} {fn : Func} (hf : P.funcs[f]? = some fn) (h : Hn) {args : List Value} {w : World} {tup : Bool} {rs : List (Bool × List CK)} {wpT : (TR rs → World → Prop) → Prop} {k : TR rs → World → Prop}
    (heq : ∀ R, wpF P fn h args w R = wpT fun r w => R (encR tup rs r) w := by intro R; kernel_rfl) (hs : (shOk rs && (tup || rs.length == 1)) = true := by rfl) (hk : wpT k) : clS P f args w tup rs k :=
  ok_of hm hf wpT heq hs hk
theorem ok_ofZ {P : Program} (hm : P.follows .mixedOrders = true) {f : FuncId} {fn : Func} (hf : P.funcs[f]? = some fn) {h : Hn} {args : List Value} {w : World} {tup : Bool} {rs : List (Bool × List CK)}
    (wpT : (TR rs → World → Prop) → (Value → World → Prop) → Prop) (heq : ∀ R Z, wpFZ P fn h args w R Z = wpT (fun r w => R (encR tup rs r) w) Z) (hs : (shOk rs && (tup || rs.length == 1)) = true) {k : TR rs → World → Prop} {kp : Value → World → Prop} (hk : wpT k kp) :
    clE P f args w tup rs k kp := by
  rw [Bool.and_eq_true] at hs
  have e : (fun (r : TR rs) (w : World) => ∃ r', encR tup rs r = encR tup rs r' ∧ k r' w) = k := by
    funext r w
    exact propext ⟨fun ⟨r', h1, h2⟩ => encR_inj hs.1 hs.2 h1 ▸ h2, fun h => ⟨r, rfl, h⟩⟩
  have hw : wpFZ P fn h args w (fun v w' => ∃ r, v = encR tup rs r ∧ k r w') kp := by
    rw [heq, e]; exact hk
  refine Calls.mono (wpFZ_sound hm hf h hw) ?_
  rintro e w' (⟨v, rfl, r, rfl, h⟩ | h)
  · exact .inl ⟨r, rfl, h⟩
  · exact .inr h
theorem oksZ {P : Program} (hm : P.follows .mixedOrders = true) {f : FuncId} {fn : Func} (hf : P.funcs[f]? = some fn) (h : Hn) {args : List Value} {w : World} {tup : Bool} {rs : List (Bool × List CK)} {wpT : (TR rs → World → Prop) → (Value → World → Prop) → Prop} {k : TR rs → World → Prop} {kp : Value → World → Prop}
    (heq : ∀ R Z, wpFZ P fn h args w R Z = wpT (fun r w => R (encR tup rs r) w) Z := by intro R Z; kernel_rfl) (hs : (shOk rs && (tup || rs.length == 1)) = true := by rfl) (hk : wpT k kp) : clE P f args w tup rs k kp :=
  ok_ofZ hm hf wpT heq hs hk
theorem clE_of {P : Program} {f : FuncId} {args : List Value} {w : World} {tup : Bool} {rs : List (Bool × List CK)} {k : TR rs → World → Prop} {kp : Value → World → Prop} (h : clS P f args w tup rs k) : clE P f args w tup rs k kp :=
  Calls.mono h fun _ _ h => .inl h
theorem clS_mono {P : Program} {f : FuncId} {args : List Value} {w : World} {tup : Bool} {rs : List (Bool × List CK)} {k k' : TR rs → World → Prop} (hk : ∀ r w', k r w' → k' r w') (h : clS P f args w tup rs k) : clS P f args w tup rs k' :=
  Calls.mono h fun _ _ ⟨r, he, h⟩ => ⟨r, he, hk _ _ h⟩
/-! ### short names of printed texts -/
abbrev KI : CK := .i .i64
abbrev KU : CK := .i .u16
abbrev iV (n : Int) : Value := .int .i64 n
abbrev uV (n : Int) : Value := .int .u16 n
abbrev hd (k : Nat) (p : Addr) (w : World) : Ent := (k, p, (w.cell? p).getD undef)
abbrev wI : Int → Int := IntKind.wrap .i64
abbrev wU : Int → Int := IntKind.wrap .u16
abbrev wL : Int → Int := IntKind.wrap .u64
abbrev WP : Type := World → Prop
abbrev NP : Type := Nat → Prop
def hs : Nat → Hn → Hn
  | 0, h => h
  | k + 1, h => .s .n (hs k h)
def ks : List Nat → Pl → Pl
  | [], p => p
  | i :: l, p => .tk i (ks l p)
abbrev agV (cs : List CK) (x : Tvs cs) : Value := .agg (encs cs x).toArray
end Go.Eng
