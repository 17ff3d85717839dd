/- The engine, part R: from a law's contract to its row, whatever the types of the arguments are. Conditions: the law's answer is one bool; no package variable is named. -/
import Derived.Test.YtfbegkddkdenbaaGreatDoorEngB
import Derived.WalkKit
import Derived.ProofKit
import Derived.OpenShut
import Derived.Carry
import Derived.HandedShaped
import Derived.ChangeSlices
import Derived.Deep.Strs
import Derived.Test.YtfbegkddkdenbaaGreatDoorEngU
namespace Go.Eng
open Go Go.ChangeShapes Go.WideShapes Go.ChangeAt Go.RowKit Go.WideElems Go.Deep
set_option linter.unusedVariables false

theorem law_calls {P : Program} {g : FuncId} {args : List Value} {w : World} (h : clS P g args w false [(false, [.b])] (Holds w)) :
    Calls P g args.toArray w fun e w' => e = .returned (.bool true) ∧ Below w.heap.size w w' := by
  refine Calls.mono h fun e w' ⟨r, he, hr, hg⟩ => ?_
  subst hr
  exact ⟨he, hg.below⟩

theorem trodAll_stays {H : Type} {enc : TypeId × Value → H} {P : Program} (hl : laidOutB P = true) {W W' : World} (hb : Below W.heap.size W W') :
    ∀ {ts : List TypeId} {vs : List Value} {ds : List (DataW H)} {ps : List MemPlace}, ts.all (fun t => P.readableRec t && decide (t < P.types.size)) = true →
      DataW.TrodAll enc P W 0 (fun _ => true) true ts vs ds ps → (∀ x ∈ ps, x.block < W.heap.size) → DataW.TrodAll enc P W' 0 (fun b => decide (b < W.heap.size)) true ts vs ds ps
  | [], vs, ds, ps, _, h, _ => by
    obtain ⟨rfl, rfl, rfl⟩ := trodAll_nil h
    exact trodAll_mk0
  | t :: ts, vs, ds, ps, hr, h, hlt => by
    obtain ⟨v, vs', d, ds', p, q, rfl, rfl, rfl, h1, h2⟩ := trodAll_cons h
    simp only [List.all_cons, Bool.and_eq_true, decide_eq_true_eq] at hr
    exact trodAll_cons_mk (Below.trod hl hr.1.1 hr.1.2 h1 hb fun x hx => hlt x (List.mem_append_left _ hx))
      (trodAll_stays hl hb (by simpa using hr.2) h2 fun x hx => hlt x (List.mem_append_right _ hx))
theorem trodAll_length {H : Type} {enc : TypeId × Value → H} {P : Program} {W : World} {b : Nat} {sp : Nat → Bool} {hd : Bool} :
    ∀ {ts : List TypeId} {vs : List Value} {ds : List (DataW H)} {ps : List MemPlace}, DataW.TrodAll enc P W b sp hd ts vs ds ps → ds.length = ts.length
  | [], _, _, _, h => by obtain ⟨rfl, rfl, rfl⟩ := trodAll_nil h; rfl
  | t :: ts, _, _, _, h => by
    obtain ⟨v, vs', d, ds', p, q, rfl, rfl, rfl, h1, h2⟩ := trodAll_cons h
    simp [trodAll_length h2]

/-- THE ROW's STEP: from 'it answers true and leaves what was there' to the row. -/
theorem law_lifted {C : Checked} {os : Os} (started : os.Started) {H : Type} {enc : TypeId × Value → H} {f : FuncId} {fn : Func} {s : ChangeSpec} {conds : List PathCond} {tb : TypeId}
    (own : ownKnob C.prog.godebug = none) (noInit : C.prog.inits.idxOf? f = none) (hfn : C.prog.funcs[f]? = some fn)
    (witness : ∃ (w : World) (tape : Tape) (i : Input), w.os = os ∧ (w.forCall tape i).Shaped C.prog ∧ i.vars = [] ∧ Input.okWide C.prog (w.forCall tape i) .any w.heap.size f i ∧
      s.pre6 enc C.prog fn conds false (w.forCall tape i).memory i.args ∧ ({} : Assume).holds C.prog (lone (Frame.enter C.prog f i.args .normal) [] (w.forCall tape i)))
    (hl : laidOutB C.prog = true) (hvars : s.vars = []) (hread : fn.params.toList.all (fun t => C.prog.readableRec t && decide (t < C.prog.types.size)) = true)
    (hres : fn.resultTypes = #[tb]) (hbool : C.prog.underlying tb = some .bool)
    (hspec : ∀ ds : List (DataW H), ds.length = fn.params.toList.length → (s.fn H ds).results = [.lit (.bool true)] ∧ (s.fn H ds).args = ds ∧ (s.fn H ds).vars = [])
    (law : ∀ (W : World) (base : Nat) (args : Array Value) (ds : List (DataW H)) (ps : List MemPlace),
      (∀ (j : Nat) t v, fn.params[j]? = some t → args[j]? = some v → Value.okWide C.prog W .any base t v) →
      DataW.TrodAll enc C.prog W 0 (fun _ => true) true fn.params.toList args.toList ds ps → (∀ x ∈ ps, x.block < W.heap.size) → W.ShapedOpen C.prog →
      Calls C.prog f args W fun e W' => e = .returned (.bool true) ∧ Below W.heap.size W W') :
    ReturnsInHanded {} C os f .any (s.pre6 enc C.prog fn conds false) (s.post enc C.prog fn false true false false) := by
  refine returnsInHanded_of_change_shaped (C := C) own started noInit hfn witness ?_
  intro W base args ds gs before hval hW _ _ hsh _
  have hW' := hW
  obtain ⟨p, q, hA, hV, rfl, _, _⟩ := hW
  rw [hvars] at hV
  obtain ⟨rfl, rfl⟩ := trodVars_none hV
  have hlt : ∀ x ∈ p, x.block < W.heap.size := fun x hx => by simpa using hW'.lt x (List.mem_append_left _ hx)
  refine (law W base args ds p hval hA hlt hsh).mono fun e W' ⟨he, hg⟩ => ?_
  subst he
  have hs := hspec ds (trodAll_length hA)
  refine ⟨_, rfl, ds, [], p ++ [], [], p, [], hW', ?_, ?_, ?_, hg.frame _, fun h => by cases h⟩
  · rw [List.append_nil, hs.1, hres]
    exact trodAll_mk1 (shut_bool hbool _)
  · rw [List.append_nil, hs.2.1]
    exact trodAll_stays hl hg hread hA hlt
  · rw [List.append_nil, hvars, hs.2.2]; rfl
theorem i64_of {n : Int} (h : (Lit.int .i64 n).wf = true) : I64 n := by
  simp [Lit.wf, IntKind.min, IntKind.max, IntKind.signed, IntKind.bits] at h
  unfold I64
  omega
theorem open_i64 {H : Type} {enc : TypeId × Value → H} {P : Program} {w : World} {base b0 : Nat} {spare : Nat → Bool} {held : Bool} {r : Reach} {t : TypeId} {v : Value} {d : DataW H} {ps : List MemPlace} (ht : P.underlying t = some (.int .i64)) (hval : Value.okWide P w r b0 t v)
    (hd : DataW.Trod enc P w base spare held t v d ps) : ∃ n, v = .int .i64 n ∧ I64 n := by
  obtain ⟨n, e, _, _, h⟩ := open_int ht hval hd
  exact ⟨n, e, i64_of h⟩

/-- a struct of three ints, its cells next to each other -/
def isE3 (P : Program) (e : TypeId) : Bool :=
  match P.underlying e with
  | some (.struct fs) => match fs.toList with
    | [f0, f1, f2] => P.cellsOf e == 3 && f0.offset == 0 && f1.offset == 1 && f2.offset == 2 && P.cellsOf f0.type == 1 && P.cellsOf f1.type == 1 && P.cellsOf f2.type == 1 &&
      isI64 f0.type && isI64 f1.type && isI64 f2.type
    | _ => false
  | _ => false
where isI64 (t : TypeId) : Bool := match P.underlying t with | some (.int .i64) => true | _ => false
theorem isI64_of {P : Program} {t : TypeId} (h : isE3.isI64 P t = true) : P.underlying t = some (.int .i64) := by
  unfold isE3.isI64 at h; split at h
  · assumption
  · cases h
theorem open_e3 {H : Type} {enc : TypeId × Value → H} {P : Program} {w : World} {base : Nat} {spare : Nat → Bool} {held : Bool} {e : TypeId} {fuel : Nat} {cs : List Value} {x : DataW H × List MemPlace} (he : isE3 P e = true)
    (h : DataW.trod enc P w base spare held fuel e cs = some x) : ∃ a b c, cs = [.int .i64 a, .int .i64 b, .int .i64 c] ∧ I64 a ∧ I64 b ∧ I64 c := by
  unfold isE3 at he
  split at he
  · rename_i fs hu
    split at he
    case h_2 => cases he
    rename_i f0 f1 f2 hfs
    obtain rfl : fs = #[f0, f1, f2] := by cases fs; simp at hfs; subst hfs; rfl
    simp only [Bool.and_eq_true, beq_iff_eq] at he
    obtain ⟨⟨⟨⟨⟨⟨⟨⟨⟨hc, o0⟩, o1⟩, o2⟩, c0⟩, c1⟩, c2⟩, i0⟩, i1⟩, i2⟩ := he
    obtain ⟨y0, y1, y2, n, _, hl, h0, h1, h2⟩ := trod_struct3 hu h
    rw [hc] at hl
    match cs, hl with
    | [u0, u1, u2], _ =>
      rw [o0, c0] at h0
      rw [o1, c1] at h1
      rw [o2, c2] at h2
      obtain ⟨a, ea, _, wa⟩ := DataW.trod_int (isI64_of i0) h0
      obtain ⟨b, eb, _, wb⟩ := DataW.trod_int (isI64_of i1) h1
      obtain ⟨c, ec, _, wc⟩ := DataW.trod_int (isI64_of i2) h2
      simp at ea eb ec
      subst ea eb ec
      exact ⟨a, b, c, rfl, i64_of wa, i64_of wb, i64_of wc⟩
  · cases he
theorem collect3 {w : World} {a : Addr} : ∀ (n : Nat), (∀ i, i < n → ∃ e : E3, (I64 e.1 ∧ I64 e.2.1 ∧ I64 e.2.2) ∧ w.cell? (a.add (i * 3)) = some (.int .i64 e.1) ∧ w.cell? (a.add (i * 3 + 1)) = some (.int .i64 e.2.1) ∧ w.cell? (a.add (i * 3 + 2)) = some (.int .i64 e.2.2)) →
    ∃ es : List E3, es.length = n ∧ (∀ e ∈ es, I64 e.1 ∧ I64 e.2.1 ∧ I64 e.2.2) ∧ ∀ k v, (flat3 es)[k]? = some v → w.cell? (a.add k) = some v
  | 0, _ => ⟨[], rfl, by simp, fun k v h => by cases h⟩
  | n + 1, h => by
    obtain ⟨es, hl, h1, h2⟩ := collect3 n fun i hi => h i (by omega)
    obtain ⟨e, e1, e2, e3, e4⟩ := h n (by omega)
    refine ⟨es ++ [e], by simp [hl], ?_, ?_⟩
    · intro x hx
      rcases List.mem_append.1 hx with hx | hx
      · exact h1 x hx
      · simp at hx; subst hx; exact e1
    · intro k v hk
      rw [flat3_append] at hk
      by_cases hlt : k < (flat3 es).length
      · rw [List.getElem?_append_left hlt] at hk; exact h2 k v hk
      · rw [List.getElem?_append_right (by omega), flat3_length, hl] at hk
        rw [flat3_length, hl] at hlt
        obtain ⟨j, rfl⟩ : ∃ j, k = n * 3 + j := ⟨k - n * 3, by omega⟩
        rw [Nat.add_sub_cancel_left] at hk
        rcases j with _ | _ | _ | j
        · simp [flat3] at hk; subst hk; exact e2
        · simp [flat3] at hk; subst hk; exact e3
        · simp [flat3] at hk; subst hk; exact e4
        · simp [flat3] at hk
theorem open_ents {H : Type} {enc : TypeId × Value → H} {P : Program} {w : World} {base b0 : Nat} {spare : Nat → Bool} {held : Bool} {r : Reach} {t e : TypeId} {v : Value} {d : DataW H} {ps : List MemPlace} (ht : P.underlying t = some (.slice e)) (he : isE3 P e = true) (hc : P.cellsOf e = 3)
    (hval : Value.okWide P w r b0 t v) (hd : DataW.Trod enc P w base spare held t v d ps) : ∃ (s : Sl) (es : List E3), v = .slice s.1 s.2.1 s.2.2 ∧ Ents w s es ∧ (∀ e ∈ es, I64 e.1 ∧ I64 e.2.1 ∧ I64 e.2.2) := by
  obtain ⟨a, len, cap, rfl⟩ := okWide_slice ht hval
  obtain ⟨fuel, hf⟩ := hd
  rcases open_slice ht hf with ⟨hcs, _⟩ | ⟨a', len', cap', m, n, D, Pl, hcs, _, hle, _, hm, _, hx⟩
  · simp [Value.cells] at hcs
    obtain ⟨rfl, rfl, rfl⟩ := hcs
    exact ⟨(none, 0, 0), [], rfl, ⟨rfl, fun h => absurd rfl h⟩, by simp⟩
  · simp [Value.cells] at hcs
    obtain ⟨rfl, rfl, rfl⟩ := hcs
    obtain ⟨es, h1, h2, h3⟩ := collect3 (w := w) (a := a') len fun i hi => by
      obtain ⟨cs', q1, q2⟩ := hx i (by rw [hm]; split <;> omega)
      obtain ⟨x, y, z, rfl, e1, e2, e3⟩ := open_e3 he q2
      rw [hc] at q1
      obtain ⟨_, _, hcell⟩ := World.cells?_some q1
      have g0 := hcell 0 (by omega)
      have g1 := hcell 1 (by omega)
      have g2 := hcell 2 (by omega)
      rw [Eng.add_add] at g0 g1 g2
      exact ⟨(x, y, z), ⟨e1, e2, e3⟩, g0, g1, g2⟩
    exact ⟨(some a', len, cap), es, rfl, ⟨by rw [flat3_length, h1], fun _ => ⟨a', rfl, h3⟩⟩, h2⟩

def isE2 (P : Program) (e : TypeId) : Bool :=
  match P.underlying e with
  | some (.struct fs) => match fs.toList with
    | [f0, f1] => P.cellsOf e == 2 && f0.offset == 0 && f1.offset == 1 && P.cellsOf f0.type == 1 && P.cellsOf f1.type == 1 && isE3.isI64 P f0.type && isE3.isI64 P f1.type
    | _ => false
  | _ => false
theorem open_s2 {H : Type} {enc : TypeId × Value → H} {P : Program} {w : World} {base b0 : Nat} {spare : Nat → Bool} {held : Bool} {r : Reach} {e : TypeId} {v : Value} {d : DataW H} {ps : List MemPlace} (he : isE2 P e = true)
    (hval : Value.okWide P w r b0 e v) (hd : DataW.Trod enc P w base spare held e v d ps) : ∃ a b, v = .agg #[.int .i64 a, .int .i64 b] ∧ I64 a ∧ I64 b := by
  unfold isE2 at he
  split at he
  · rename_i fs hu
    split at he
    case h_2 => cases he
    rename_i f0 f1 hfs
    obtain rfl : fs = #[f0, f1] := by cases fs; simp at hfs; subst hfs; rfl
    simp only [Bool.and_eq_true, beq_iff_eq] at he
    obtain ⟨⟨⟨⟨⟨⟨hc, o0⟩, o1⟩, c0⟩, c1⟩, i0⟩, i1⟩ := he
    obtain ⟨cs, rfl, hcs⟩ := okWide_struct hu hval
    obtain ⟨fuel, hf⟩ := hd
    obtain ⟨xs, n, _, _, hl, hxl, hff⟩ := DataW.trod_struct hu hf
    have h0 := hff 0 f0 rfl
    have h1 := hff 1 f1 rfl
    obtain ⟨l⟩ := cs
    rw [hc] at hcs
    match l, hcs with
    | [u0, u1], _ =>
      match xs, hxl with
      | [y0, y1], _ =>
        simp [Value.cells, o0, c0] at h0
        simp [Value.cells, o1, c1] at h1
        obtain ⟨a, ea, _, wa⟩ := DataW.trod_int (isI64_of i0) h0
        obtain ⟨b, eb, _, wb⟩ := DataW.trod_int (isI64_of i1) h1
        simp at ea eb
        subst ea eb
        exact ⟨a, b, rfl, i64_of wa, i64_of wb⟩
  · cases he
/-- a struct of three ints, handed by value -/
theorem open_s3 {H : Type} {enc : TypeId × Value → H} {P : Program} {w : World} {base b0 : Nat} {spare : Nat → Bool} {held : Bool} {r : Reach} {e : TypeId} {v : Value} {d : DataW H} {ps : List MemPlace} (he : isE3 P e = true)
    (hval : Value.okWide P w r b0 e v) (hd : DataW.Trod enc P w base spare held e v d ps) : ∃ x : E3, v = .agg #[.int .i64 x.1, .int .i64 x.2.1, .int .i64 x.2.2] ∧ I64 x.1 ∧ I64 x.2.1 ∧ I64 x.2.2 := by
  have hu : ∃ fs, P.underlying e = some (.struct fs) := by
    unfold isE3 at he
    split at he
    · rename_i fs hu; exact ⟨fs, hu⟩
    · cases he
  obtain ⟨fs, hu⟩ := hu
  obtain ⟨cs, rfl, hcs⟩ := okWide_struct hu hval
  obtain ⟨fuel, hf⟩ := hd
  obtain ⟨a, b, c, hl, i0, i1, i2⟩ := open_e3 he hf
  have : cs = #[.int .i64 a, .int .i64 b, .int .i64 c] := by
    obtain ⟨l⟩ := cs
    simp [Value.cells] at hl
    subst hl; rfl
  subst this
  exact ⟨(a, b, c), rfl, i0, i1, i2⟩
/-- a slice of ints -/
theorem collect1 {w : World} {a : Addr} : ∀ (n : Nat), (∀ i, i < n → ∃ x : Int, I64 x ∧ w.cell? (a.add i) = some (.int .i64 x)) →
    ∃ xs : List Int, xs.length = n ∧ (∀ x ∈ xs, I64 x) ∧ ∀ k v, (xs.map (Value.int .i64))[k]? = some v → w.cell? (a.add k) = some v
  | 0, _ => ⟨[], rfl, by simp, fun k v h => by simp at h⟩
  | n + 1, h => by
    obtain ⟨xs, hl, h1, h2⟩ := collect1 n fun i hi => h i (by omega)
    obtain ⟨x, e1, e2⟩ := h n (by omega)
    refine ⟨xs ++ [x], by simp [hl], ?_, ?_⟩
    · intro y hy
      rcases List.mem_append.1 hy with hy | hy
      · exact h1 y hy
      · simp at hy; subst hy; exact e1
    · intro k v hk
      rw [List.map_append] at hk
      by_cases hlt : k < (xs.map (Value.int .i64)).length
      · rw [List.getElem?_append_left hlt] at hk; exact h2 k v hk
      · rw [List.getElem?_append_right (by omega), List.length_map, hl] at hk
        rw [List.length_map, hl] at hlt
        obtain ⟨j, rfl⟩ : ∃ j, k = n + j := ⟨k - n, by omega⟩
        rw [Nat.add_sub_cancel_left] at hk
        rcases j with _ | j
        · simp at hk; subst hk; exact e2
        · simp at hk
theorem open_is {H : Type} {enc : TypeId × Value → H} {P : Program} {w : World} {base b0 : Nat} {spare : Nat → Bool} {held : Bool} {r : Reach} {t e : TypeId} {v : Value} {d : DataW H} {ps : List MemPlace} (ht : P.underlying t = some (.slice e)) (he : P.underlying e = some (.int .i64)) (hc : P.cellsOf e = 1)
    (hval : Value.okWide P w r b0 t v) (hd : DataW.Trod enc P w base spare held t v d ps) : ∃ (s : Sl) (xs : List Int), v = .slice s.1 s.2.1 s.2.2 ∧ Row w s 1 (xs.map (Value.int .i64)) ∧ (∀ x ∈ xs, I64 x) := by
  obtain ⟨a, len, cap, rfl⟩ := okWide_slice ht hval
  obtain ⟨fuel, hf⟩ := hd
  rcases open_slice ht hf with ⟨hcs, _⟩ | ⟨a', len', cap', m, n, D, Pl, hcs, _, hle, _, hm, _, hx⟩
  · simp [Value.cells] at hcs
    obtain ⟨rfl, rfl, rfl⟩ := hcs
    exact ⟨(none, 0, 0), [], rfl, ⟨rfl, fun h => absurd rfl h⟩, by simp⟩
  · simp [Value.cells] at hcs
    obtain ⟨rfl, rfl, rfl⟩ := hcs
    obtain ⟨xs, h1, h2, h3⟩ := collect1 (w := w) (a := a') len fun i hi => by
      obtain ⟨cs', q1, q2⟩ := hx i (by rw [hm]; split <;> omega)
      obtain ⟨x, rfl, _, wx⟩ := DataW.trod_int he q2
      rw [hc] at q1
      obtain ⟨_, _, hcell⟩ := World.cells?_some q1
      have g0 := hcell 0 (by omega)
      rw [Eng.add_add, Nat.mul_one] at g0
      exact ⟨x, i64_of wx, g0⟩
    exact ⟨(some a', len, cap), xs, rfl, ⟨by simp [h1], fun _ => ⟨a', rfl, h3⟩⟩, h2⟩
end Go.Eng
/- The engine, part W: arguments and rows whose cells are all ints. Conditions: none. -/
namespace Go.Eng
open Go Go.ChangeShapes Go.WideShapes Go.ChangeAt Go.RowKit Go.WideElems Go.Deep
set_option linter.unusedVariables false
set_option linter.unusedSimpArgs false

/-- the kinds of a type that is ints alone -/
def flatFs (g : TypeId → Option (List IntKind)) (P : Program) : Nat → List Field → Option (List IntKind)
  | _, [] => some []
  | o, f :: fs => match g f.type with
    | some ks => if f.offset = o ∧ P.cellsOf f.type = ks.length then (flatFs g P (o + ks.length) fs).map (ks ++ ·) else none
    | none => none
def flatK (P : Program) : Nat → TypeId → Option (List IntKind)
  | 0, _ => none
  | n + 1, t => match P.underlying t with
    | some (.int k) => some [k]
    | some (.struct fs) => match flatFs (flatK P n) P 0 fs.toList with
      | some ks => if P.cellsOf t = ks.length then some ks else none
      | none => none
    | _ => none
def tvI : (ks : List IntKind) → List Int → Tvs (ks.map CK.i)
  | [], _ => ()
  | _ :: ks, [] => (0, tvI ks [])
  | _ :: ks, x :: xs => (x, tvI ks xs)
/-- each int is one of its kind -/
def RgT : (ks : List IntKind) → Tvs (ks.map CK.i) → Prop
  | [], _ => True
  | k :: ks, x => (Lit.int k x.1).wf = true ∧ RgT ks x.2
def OkI (ks : List IntKind) (cs : List Value) : Prop := ∃ x : Tvs (ks.map CK.i), cs = encs (ks.map CK.i) x ∧ RgT ks x
theorem OkI.nil : OkI [] [] := ⟨(), rfl, trivial⟩
theorem OkI.append : ∀ {k1 k2 : List IntKind} {c1 c2 : List Value}, OkI k1 c1 → OkI k2 c2 → OkI (k1 ++ k2) (c1 ++ c2)
  | [], k2, c1, c2, h1, h2 => by obtain ⟨x, rfl, _⟩ := h1; exact h2
  | k :: k1, k2, c1, c2, h1, h2 => by
    obtain ⟨x, rfl, h3, h4⟩ := h1
    obtain ⟨y, e, r⟩ := OkI.append (k1 := k1) (k2 := k2) ⟨x.2, rfl, h4⟩ h2
    exact ⟨(x.1, y), by show enc (CK.i k) x.1 :: (encs (k1.map CK.i) x.2 ++ c2) = enc (CK.i k) x.1 :: encs ((k1 ++ k2).map CK.i) y; rw [e], h3, r⟩
section
variable {H : Type} {enc : TypeId × Value → H} {P : Program} {w : World} {base : Nat} {spare : Nat → Bool} {held : Bool}
theorem flatFs_open {g : TypeId → Option (List IntKind)} {fuel : Nat} (IH : ∀ t ks cs y, g t = some ks → DataW.trod enc P w base spare held fuel t cs = some y → OkI ks cs) {cs : List Value} : ∀ (fs : List Field) (o : Nat) (ks : List IntKind),
    flatFs g P o fs = some ks → (∀ f ∈ fs, ∃ y, DataW.trod enc P w base spare held fuel f.type ((cs.drop f.offset).take (P.cellsOf f.type)) = some y) → cs.length = o + ks.length → OkI ks (cs.drop o)
  | [], o, ks, h, _, hl => by
    simp only [flatFs, Option.some.injEq] at h
    subst h
    rw [List.drop_of_length_le (by simp at hl; omega)]
    exact OkI.nil
  | f :: fs, o, ks, h, hf, hl => by
    unfold flatFs at h
    split at h
    case h_2 => cases h
    rename_i k1 hk
    split at h
    case isFalse => cases h
    rename_i hc
    obtain ⟨k2, h2, rfl⟩ := Option.map_eq_some_iff.1 h
    obtain ⟨y, hy⟩ := hf f (by simp)
    have o1 := IH _ _ _ _ hk hy
    rw [hc.1, hc.2] at o1
    have o2 := flatFs_open IH fs (o + k1.length) k2 h2 (fun f h => hf f (by simp [h])) (by rw [List.length_append] at hl; omega)
    have := o1.append o2
    rwa [← List.drop_drop, List.take_append_drop] at this
theorem flat_open : ∀ (n : Nat) (t : TypeId) (ks : List IntKind) (fuel : Nat) (cs : List Value) (y : DataW H × List MemPlace), flatK P n t = some ks → DataW.trod enc P w base spare held fuel t cs = some y → OkI ks cs
  | 0, _, _, _, _, _, h, _ => by cases h
  | n + 1, t, ks, fuel, cs, y, h, hd => by
    unfold flatK at h
    split at h
    · rename_i k hu
      injection h with h; subst h
      obtain ⟨x, rfl, _, wx⟩ := DataW.trod_int hu hd
      exact ⟨(x, ()), rfl, wx, trivial⟩
    · rename_i fs hu
      split at h
      case h_2 => cases h
      rename_i ks' hfs
      split at h
      case isFalse => cases h
      rename_i hc
      injection h with h; subst h
      obtain ⟨xs, m, rfl, _, hl, hxl, hff⟩ := DataW.trod_struct hu hd
      have := flatFs_open (cs := cs) (fun t ks cs y h1 h2 => flat_open n t ks m cs y h1 h2) fs.toList 0 ks' hfs (fun f hf => ?_) (by rw [hl, hc, Nat.zero_add])
      · simpa using this
      · obtain ⟨i, hi, he⟩ := List.getElem_of_mem hf
        have h1 := hff i f (by rw [← he]; simp)
        have h2 : i < xs.length := by rw [hxl]; simpa using hi
        exact ⟨xs[i], by rw [h1]; exact List.getElem?_eq_getElem h2⟩
    · cases h
def isSt (P : Program) (t : TypeId) : Bool := match P.underlying t with | some (.struct _) => true | _ => false
/-- a struct of ints, handed by value -/
theorem open_st {e : TypeId} {v : Value} {d : DataW H} {ps : List MemPlace} {b0 : Nat} {r : Reach} {ks : List IntKind} (hs : isSt P e = true) (hk : flatK P 8 e = some ks) (hval : Value.okWide P w r b0 e v) (hd : DataW.Trod enc P w base spare held e v d ps) :
    ∃ x : Tvs (ks.map CK.i), v = .agg (encs (ks.map CK.i) x).toArray ∧ RgT ks x := by
  have hu : ∃ fs, P.underlying e = some (.struct fs) := by
    unfold isSt at hs
    split at hs
    · rename_i fs hu; exact ⟨fs, hu⟩
    · cases hs
  obtain ⟨fs, hu⟩ := hu
  obtain ⟨cs, rfl, hcs⟩ := okWide_struct hu hval
  obtain ⟨fuel, hf⟩ := hd
  obtain ⟨x, hx, hr⟩ := flat_open 8 e ks fuel _ _ hk hf
  refine ⟨x, ?_, hr⟩
  have : cs.toList = encs (ks.map CK.i) x := by simpa [Value.cells] using hx
  rw [← this]
end
/-! ### slices of such -/
/-- The slice holds these rows of ints. -/
def RowsT (w : World) (s : Sl) (cs : List CK) (xs : List (Tvs cs)) : Prop := Row w s cs.length (xs.flatMap (encs cs))
theorem flat_len {cs : List CK} (xs : List (Tvs cs)) : (xs.flatMap (encs cs)).length = xs.length * cs.length := by
  induction xs with
  | nil => simp
  | cons x xs ih => rw [List.flatMap_cons, List.length_append, encs_length, ih, List.length_cons, Nat.add_mul, Nat.one_mul]; omega
theorem flat_get {cs : List CK} : ∀ {xs : List (Tvs cs)} {i : Nat} {x : Tvs cs}, xs[i]? = some x → ∀ j v, (encs cs x)[j]? = some v → (xs.flatMap (encs cs))[i * cs.length + j]? = some v
  | [], i, x, h => by cases h
  | y :: xs, 0, x, h => by
    intro j v hj
    simp at h; subst h
    rw [List.flatMap_cons, Nat.zero_mul, Nat.zero_add, List.getElem?_append_left (List.getElem?_eq_some_iff.1 hj).1]; exact hj
  | y :: xs, i + 1, x, h => by
    intro j v hj
    rw [List.flatMap_cons, List.getElem?_append_right (by rw [encs_length, Nat.add_mul]; omega), encs_length, show (i + 1) * cs.length + j - cs.length = i * cs.length + j by rw [Nat.add_mul]; omega]
    exact flat_get (by simpa using h) j v hj
theorem RowsT.len {w : World} {s : Sl} {cs : List CK} {xs : List (Tvs cs)} (h : RowsT w s cs xs) (h0 : 0 < cs.length) : s.2.1 = xs.length := by
  have h1 := Row.len h
  rw [flat_len] at h1
  exact Nat.eq_of_mul_eq_mul_right h0 h1
theorem RowsT.gro {w w' : World} {s : Sl} {cs : List CK} {xs : List (Tvs cs)} (h : RowsT w s cs xs) (u : Gro w w') : RowsT w' s cs xs := Row.gro h u
theorem RowsT.addr {w : World} {s : Sl} {cs : List CK} {xs : List (Tvs cs)} (h : RowsT w s cs xs) (h0 : 0 < cs.length) {i : Nat} {x : Tvs cs} (hi : xs[i]? = some x) : ∃ a, s.1 = some a := by
  refine Row.addr h ?_
  have := (List.getElem?_eq_some_iff.1 hi).1
  rw [flat_len]
  exact Nat.mul_pos (by omega) h0
theorem RowsT.ix {w : World} {s : Sl} {cs : List CK} {xs : List (Tvs cs)} (h : RowsT w s cs xs) (h0 : 0 < cs.length) {z : Int} {i : Nat} {x : Tvs cs} (hz : z = i) (hi : xs[i]? = some x) {k : Addr → Prop} (hk : ∀ a, s.1 = some a → k a) : ixK s.1 s.2.1 z k := by
  subst hz
  obtain ⟨a, ha⟩ := h.addr h0 hi
  have := (List.getElem?_eq_some_iff.1 hi).1
  have hl := h.len h0
  rw [ha, ixK_eq (by omega)]
  exact hk a ha
theorem ldN_of {w : World} : ∀ (cs : List CK) (x : Tvs cs) (p : Addr) (i : Nat) (k : Tvs cs → Prop), (∀ j v, (encs cs x)[j]? = some v → w.cell? (p.add (i + j)) = some v) → (∀ c (y : Tv c), dec c (enc c y) = some y) → k x → ldN cs p i w k
  | [], x, p, i, k, _, _, hk => hk
  | c :: cs, x, p, i, k, h, hd, hk => by
    have h0 := h 0 (enc c x.1) rfl
    rw [Nat.add_zero] at h0
    unfold ldN
    rw [h0, Option.bind_some, hd]
    exact ldN_of cs x.2 p (i + 1) (fun xs => k (x.1, xs)) (fun j v hj => by rw [show i + 1 + j = i + (j + 1) by omega]; exact h (j + 1) v hj) hd hk
theorem dec_enc' (c : CK) (x : Tv c) : dec c (enc c x) = some x := by
  cases c <;> simp [enc, dec, decI, decB, decS, decP, decSl, decM, decA]
theorem RowsT.ldN {w : World} {s : Sl} {cs : List CK} {xs : List (Tvs cs)} (h : RowsT w s cs xs) {a : Addr} (ha : s.1 = some a) {i : Nat} {x : Tvs cs} (hi : xs[i]? = some x) {k : Tvs cs → Prop} (hk : k x) :
    ldN cs (a.add (((i : Int)).toNat * cs.length)) 0 w k := by
  refine ldN_of cs x _ 0 k (fun j v hj => ?_) dec_enc' hk
  rw [add_add, Int.toNat_natCast, Nat.zero_add]
  exact Row.ld h ha (flat_get hi j v hj)
theorem collectT {w : World} {a : Addr} {ks : List IntKind} : ∀ (n : Nat), (∀ i, i < n → ∃ x : Tvs (ks.map CK.i), RgT ks x ∧ ∀ j v, (encs (ks.map CK.i) x)[j]? = some v → w.cell? (a.add (i * ks.length + j)) = some v) →
    ∃ xs : List (Tvs (ks.map CK.i)), xs.length = n ∧ (∀ x ∈ xs, RgT ks x) ∧ ∀ k v, (xs.flatMap (encs (ks.map CK.i)))[k]? = some v → w.cell? (a.add k) = some v
  | 0, _ => ⟨[], rfl, by simp, fun k v h => by cases h⟩
  | n + 1, h => by
    obtain ⟨xs, hl, h1, h2⟩ := collectT n fun i hi => h i (by omega)
    obtain ⟨x, hr, hx⟩ := h n (by omega)
    refine ⟨xs ++ [x], by simp [hl], ?_, ?_⟩
    · intro y hy
      rcases List.mem_append.1 hy with hy | hy
      · exact h1 y hy
      · simp at hy; subst hy; exact hr
    · intro k v hk
      rw [List.flatMap_append] at hk
      have hlen : (xs.flatMap (encs (ks.map CK.i))).length = n * ks.length := by rw [flat_len, hl, List.length_map]
      by_cases hlt : k < n * ks.length
      · rw [List.getElem?_append_left (by omega)] at hk; exact h2 k v hk
      · rw [List.getElem?_append_right (by omega), hlen] at hk
        have := hx (k - n * ks.length) v (by simpa using hk)
        rwa [show n * ks.length + (k - n * ks.length) = k by omega] at this
theorem open_rows {H : Type} {enc : TypeId × Value → H} {P : Program} {w : World} {base b0 : Nat} {spare : Nat → Bool} {held : Bool} {r : Reach} {t e : TypeId} {v : Value} {d : DataW H} {ps : List MemPlace} {ks : List IntKind} (ht : P.underlying t = some (.slice e)) (hk : flatK P 8 e = some ks) (hc : P.cellsOf e = ks.length)
    (hval : Value.okWide P w r b0 t v) (hd : DataW.Trod enc P w base spare held t v d ps) : ∃ (s : Sl) (xs : List (Tvs (ks.map CK.i))), v = .slice s.1 s.2.1 s.2.2 ∧ RowsT w s (ks.map CK.i) xs ∧ (∀ x ∈ xs, RgT ks x) := by
  obtain ⟨a, len, cap, rfl⟩ := okWide_slice ht hval
  obtain ⟨fuel, hf⟩ := hd
  rcases open_slice ht hf with ⟨hcs, _⟩ | ⟨a', len', cap', m, n, D, Pl, hcs, _, hle, _, hm, _, hx⟩
  · simp [Value.cells] at hcs
    obtain ⟨rfl, rfl, rfl⟩ := hcs
    exact ⟨(none, 0, 0), [], rfl, ⟨by simp, fun h => absurd rfl h⟩, by simp⟩
  · simp [Value.cells] at hcs
    obtain ⟨rfl, rfl, rfl⟩ := hcs
    obtain ⟨xs, h1, h2, h3⟩ := collectT (w := w) (a := a') (ks := ks) len fun i hi => by
      obtain ⟨cs', q1, q2⟩ := hx i (by rw [hm]; split <;> omega)
      obtain ⟨x, rfl, hr⟩ := flat_open 8 e ks _ _ _ hk q2
      rw [hc] at q1
      obtain ⟨_, _, hcell⟩ := World.cells?_some q1
      refine ⟨x, hr, fun j v hj => ?_⟩
      obtain ⟨h0, h00⟩ := List.getElem?_eq_some_iff.1 hj
      have := hcell j (by rw [encs_length, List.length_map] at h0; exact h0)
      rw [Eng.add_add] at this
      rw [this]
      exact hj
    exact ⟨(some a', len, cap), xs, rfl, ⟨by rw [flat_len, h1], fun _ => ⟨a', rfl, h3⟩⟩, h2⟩

/-- an int of a kind -/
theorem open_k {H : Type} {enc : TypeId × Value → H} {P : Program} {w : World} {base b0 : Nat} {spare : Nat → Bool} {held : Bool} {r : Reach} {t : TypeId} {v : Value} {d : DataW H} {ps : List MemPlace} {k : IntKind} (ht : P.underlying t = some (.int k)) (hval : Value.okWide P w r b0 t v)
    (hd : DataW.Trod enc P w base spare held t v d ps) : ∃ n, v = .int k n ∧ (Lit.int k n).wf = true := by
  obtain ⟨n, e, _, _, h⟩ := open_int ht hval hd
  exact ⟨n, e, h⟩
def U16 (n : Int) : Prop := 0 ≤ n ∧ n ≤ 65535
theorem u16_of {n : Int} (h : (Lit.int .u16 n).wf = true) : U16 n := by
  simp [Lit.wf, IntKind.min, IntKind.max, IntKind.signed, IntKind.bits] at h
  unfold U16
  omega
theorem wu16 (n : Int) : IntKind.wrap .u16 n = n % 65536 := by simp [IntKind.wrap, IntKind.bits, IntKind.signed]
theorem w16_in {n : Int} (h : U16 n) : IntKind.wrap .u16 n = n := by unfold U16 at h; rw [wu16]; omega
theorem wi16 (n : Int) : IntKind.wrap .i16 n = (n + 32768) % 65536 - 32768 := by
  simp [IntKind.wrap, IntKind.bits, IntKind.signed]
  split <;> omega
/-! ### arguments of any shape -/
/-- what a type's cells are: ints, bools, strings, slices of a shape; a struct is a chain of parts. -/
inductive Shp where
  | i (k : IntKind) | b | s | sl (n : Nat) (e : Shp) | nil | cons (n : Nat) (f r : Shp)
def Okc (w : World) : Shp → List Value → Prop
  | .i k, cs => ∃ m, cs = [.int k m] ∧ (Lit.int k m).wf = true
  | .b, cs => ∃ x, cs = [.bool x]
  | .s, cs => ∃ x, cs = [.string x] ∧ x.size ≤ maxLen
  | .nil, cs => cs = []
  | .cons n f r, cs => ∃ c1 c2, cs = c1 ++ c2 ∧ c1.length = n ∧ Okc w f c1 ∧ Okc w r c2
  | .sl n e, cs => ∃ s : Sl, cs = [.slice s.1 s.2.1 s.2.2] ∧ s.2.1 ≤ s.2.2 ∧ s.2.2 ≤ maxLen ∧ ∃ rows : List (List Value), rows.length = s.2.1 ∧ Row w s n rows.flatten ∧ ∀ r ∈ rows, r.length = n ∧ Okc w e r
def shpFs (g : TypeId → Option (Nat × Shp)) (P : Program) : Nat → List Field → Option (Nat × Shp)
  | o, [] => some (o, .nil)
  | o, f :: fs => match g f.type with
    | some (n, q) => if f.offset = o ∧ P.cellsOf f.type = n then (match shpFs g P (o + n) fs with | some (m, r) => some (m, .cons n q r) | none => none) else none
    | none => none
def shp (P : Program) : Nat → TypeId → Option (Nat × Shp)
  | 0, _ => none
  | n + 1, t => match P.underlying t with
    | some (.int k) => some (1, .i k)
    | some .bool => some (1, .b)
    | some .string => some (1, .s)
    | some (.slice e) => match shp P n e with | some (m, q) => if P.cellsOf e = m then some (1, .sl m q) else none | none => none
    | some (.struct fs) => match shpFs (shp P n) P 0 fs.toList with | some (m, q) => if P.cellsOf t = m then some (m, q) else none | none => none
    | _ => none
theorem flatten_get {n : Nat} : ∀ {rows : List (List Value)}, (∀ r ∈ rows, r.length = n) → ∀ {k : Nat} {v : Value}, rows.flatten[k]? = some v → ∃ i j r, i < rows.length ∧ j < n ∧ k = i * n + j ∧ rows[i]? = some r ∧ r[j]? = some v
  | [], _, k, v, h => by simp at h
  | r :: rows, hl, k, v, h => by
    have hr := hl r (by simp)
    rw [List.flatten_cons] at h
    by_cases hk : k < n
    · rw [List.getElem?_append_left (by omega)] at h
      exact ⟨0, k, r, by simp, hk, by omega, rfl, h⟩
    · rw [List.getElem?_append_right (by omega), hr] at h
      obtain ⟨i, j, q, h1, h2, h3, h4, h5⟩ := flatten_get (fun q hq => hl q (by simp [hq])) h
      exact ⟨i + 1, j, q, by simp; omega, h2, by rw [Nat.add_mul]; omega, by simpa using h4, h5⟩
section
variable {H : Type} {enc : TypeId × Value → H} {P : Program} {w : World} {base : Nat} {spare : Nat → Bool} {held : Bool}
theorem collectR {a : Addr} {n : Nat} {Q : List Value → Prop} : ∀ (m : Nat), (∀ i, i < m → ∃ r : List Value, r.length = n ∧ Q r ∧ ∀ j, j < n → w.cell? (a.add (i * n + j)) = r[j]?) →
    ∃ rows : List (List Value), rows.length = m ∧ (∀ r ∈ rows, r.length = n ∧ Q r) ∧ ∀ i r, rows[i]? = some r → ∀ j, j < n → w.cell? (a.add (i * n + j)) = r[j]?
  | 0, _ => ⟨[], rfl, by simp, fun i r h => by simp at h⟩
  | m + 1, h => by
    obtain ⟨rows, hl, h1, h2⟩ := collectR m fun i hi => h i (by omega)
    obtain ⟨r, e1, e2, e3⟩ := h m (by omega)
    refine ⟨rows ++ [r], by simp [hl], ?_, ?_⟩
    · intro x hx
      rcases List.mem_append.1 hx with hx | hx
      · exact h1 x hx
      · simp at hx; subst hx; exact ⟨e1, e2⟩
    · intro i x hx
      by_cases hi : i < rows.length
      · rw [List.getElem?_append_left hi] at hx; exact h2 i x hx
      · rw [List.getElem?_append_right (by omega)] at hx
        have hi2 : i - rows.length = 0 := by
          rcases Nat.eq_zero_or_pos (i - rows.length) with h | h
          · exact h
          · rw [List.getElem?_eq_none (by simp only [List.length_cons, List.length_nil]; omega)] at hx; cases hx
        rw [hi2] at hx
        simp at hx
        subst hx
        have : i = m := by omega
        subst this; exact e3
theorem shpFs_open {g : TypeId → Option (Nat × Shp)} {fuel : Nat} (IH : ∀ t n q cs y, g t = some (n, q) → DataW.trod enc P w base spare held fuel t cs = some y → Okc w q cs) {cs : List Value} : ∀ (fs : List Field) (o m : Nat) (q : Shp),
    shpFs g P o fs = some (m, q) → (∀ f ∈ fs, ∃ y, DataW.trod enc P w base spare held fuel f.type ((cs.drop f.offset).take (P.cellsOf f.type)) = some y) → cs.length = m → o ≤ m ∧ Okc w q (cs.drop o)
  | [], o, m, q, h, _, hl => by
    simp only [shpFs, Option.some.injEq, Prod.mk.injEq] at h
    obtain ⟨rfl, rfl⟩ := h
    exact ⟨Nat.le_refl _, by show _ = _; rw [List.drop_of_length_le (by omega)]⟩
  | f :: fs, o, m, q, h, hf, hl => by
    unfold shpFs at h
    split at h
    case h_2 => cases h
    rename_i n q1 hk
    split at h
    case isFalse => cases h
    rename_i hc
    split at h
    case h_2 => cases h
    rename_i m' r hr
    simp only [Option.some.injEq, Prod.mk.injEq] at h
    obtain ⟨rfl, rfl⟩ := h
    obtain ⟨y, hy⟩ := hf f (by simp)
    have o1 := IH _ _ _ _ _ hk hy
    rw [hc.1, hc.2] at o1
    obtain ⟨l2, o2⟩ := shpFs_open IH fs (o + n) m' r hr (fun f h => hf f (by simp [h])) hl
    refine ⟨by omega, (cs.drop o).take n, (cs.drop o).drop n, (List.take_append_drop _ _).symm, ?_, o1, ?_⟩
    · rw [List.length_take, List.length_drop]; omega
    · rwa [List.drop_drop]
theorem shp_open : ∀ (n : Nat) (t : TypeId) (m : Nat) (q : Shp) (fuel : Nat) (cs : List Value) (y : DataW H × List MemPlace), shp P n t = some (m, q) → DataW.trod enc P w base spare held fuel t cs = some y → Okc w q cs
  | 0, _, _, _, _, _, _, h, _ => by cases h
  | n + 1, t, m, q, fuel, cs, y, h, hd => by
    unfold shp at h
    split at h
    · rename_i k hu
      simp only [Option.some.injEq, Prod.mk.injEq] at h
      obtain ⟨rfl, rfl⟩ := h
      obtain ⟨x, rfl, _, wx⟩ := DataW.trod_int hu hd
      exact ⟨x, rfl, wx⟩
    · rename_i hu
      simp only [Option.some.injEq, Prod.mk.injEq] at h
      obtain ⟨rfl, rfl⟩ := h
      obtain ⟨x, rfl, _⟩ := DataW.trod_bool hu hd
      exact ⟨x, rfl⟩
    · rename_i hu
      simp only [Option.some.injEq, Prod.mk.injEq] at h
      obtain ⟨rfl, rfl⟩ := h
      obtain ⟨x, rfl, _, hx⟩ := DataW.trod_string hu hd
      exact ⟨x, rfl, hx⟩
    · rename_i e hu
      split at h
      case h_2 => cases h
      rename_i m' q' he
      split at h
      case isFalse => cases h
      rename_i hc
      simp only [Option.some.injEq, Prod.mk.injEq] at h
      obtain ⟨rfl, rfl⟩ := h
      rcases open_slice hu hd with ⟨hcs, _⟩ | ⟨a', len', cap', mm, nn, D, Pl, hcs, _, hle, hcm, hm, _, hx⟩
      · exact ⟨(none, 0, 0), hcs, Nat.le_refl _, Nat.zero_le _, [], rfl, ⟨by simp, fun h => absurd rfl h⟩, by simp⟩
      · obtain ⟨rows, h1, h2, h3⟩ := collectR (w := w) (a := a') (n := m') (Q := Okc w q') len' fun i hi => by
          obtain ⟨cs', q1, q2⟩ := hx i (by rw [hm]; split <;> omega)
          have := shp_open n e m' q' _ _ _ he q2
          rw [hc] at q1
          obtain ⟨_, hl, hcell⟩ := World.cells?_some q1
          refine ⟨cs', hl, this, fun j hj => ?_⟩
          have := hcell j hj
          rwa [Eng.add_add] at this
        refine ⟨(some a', len', cap'), hcs, hle, hcm, rows, h1, ⟨?_, fun _ => ⟨a', rfl, fun k v hk => ?_⟩⟩, h2⟩
        · have : ∀ l : List (List Value), (∀ r ∈ l, r.length = m') → l.flatten.length = l.length * m' := by
            intro l
            induction l with
            | nil => simp
            | cons r l ih => intro hl; rw [List.flatten_cons, List.length_append, hl r (by simp), ih (fun q hq => hl q (by simp [hq])), List.length_cons, Nat.add_mul]; omega
          rw [this rows (fun r hr => (h2 r hr).1), h1]
        · obtain ⟨i, j, r, g1, g2, g3, g4, g5⟩ := flatten_get (fun r hr => (h2 r hr).1) hk
          subst g3
          rw [h3 i r g4 j g2, g5]
    · rename_i fs hu
      split at h
      case h_2 => cases h
      rename_i m' q' hfs
      split at h
      case isFalse => cases h
      rename_i hc
      simp only [Option.some.injEq, Prod.mk.injEq] at h
      obtain ⟨rfl, rfl⟩ := h
      obtain ⟨xs, mm, rfl, _, hl, hxl, hff⟩ := DataW.trod_struct hu hd
      have := shpFs_open (cs := cs) (fun t n' q cs y h1 h2 => shp_open n t n' q mm cs y h1 h2) fs.toList 0 m' q' hfs (fun f hf => ?_) (by rw [hl, hc])
      · simpa using this.2
      · obtain ⟨i, hi, he⟩ := List.getElem_of_mem hf
        have h1 := hff i f (by rw [← he]; simp)
        have h2 : i < xs.length := by rw [hxl]; simpa using hi
        exact ⟨xs[i], by rw [h1]; exact List.getElem?_eq_getElem h2⟩
    · cases h
theorem open_okst {e : TypeId} {v : Value} {d : DataW H} {ps : List MemPlace} {b0 : Nat} {r : Reach} {n : Nat} {q : Shp} (hs : isSt P e = true) (hk : shp P 9 e = some (n, q)) (hval : Value.okWide P w r b0 e v) (hd : DataW.Trod enc P w base spare held e v d ps) :
    ∃ cs : List Value, v = .agg cs.toArray ∧ Okc w q cs := by
  have hu : ∃ fs, P.underlying e = some (.struct fs) := by
    unfold isSt at hs
    split at hs
    · rename_i fs hu; exact ⟨fs, hu⟩
    · cases hs
  obtain ⟨fs, hu⟩ := hu
  obtain ⟨cs, rfl, hcs⟩ := okWide_struct hu hval
  obtain ⟨fuel, hf⟩ := hd
  exact ⟨cs.toList, by simp, by simpa [Value.cells] using shp_open 9 e n q fuel _ _ hk hf⟩
theorem open_str {t : TypeId} {v : Value} {d : DataW H} {ps : List MemPlace} {b0 : Nat} {r : Reach} (ht : P.underlying t = some .string) (hval : Value.okWide P w r b0 t v) (hd : DataW.Trod enc P w base spare held t v d ps) :
    ∃ s : ByteArray, v = .string s ∧ s.size ≤ maxLen := by
  obtain ⟨s, rfl⟩ := okWide_string ht hval
  obtain ⟨fuel, hf⟩ := hd
  obtain ⟨s', h, _, hs⟩ := DataW.trod_string ht hf
  simp [Value.cells] at h
  subst h
  exact ⟨s, rfl, hs⟩
theorem open_oksl {t e : TypeId} {v : Value} {d : DataW H} {ps : List MemPlace} {b0 : Nat} {r : Reach} {n : Nat} {q : Shp} (ht : P.underlying t = some (.slice e)) (hk : shp P 9 t = some (1, .sl n q)) (hval : Value.okWide P w r b0 t v) (hd : DataW.Trod enc P w base spare held t v d ps) :
    ∃ s : Sl, v = .slice s.1 s.2.1 s.2.2 ∧ Okc w (.sl n q) [.slice s.1 s.2.1 s.2.2] := by
  obtain ⟨a, len, cap, rfl⟩ := okWide_slice ht hval
  obtain ⟨fuel, hf⟩ := hd
  exact ⟨(a, len, cap), rfl, by simpa [Value.cells] using shp_open 9 t 1 _ fuel _ _ hk hf⟩
end
theorem typed_rows {cs : List CK} {Q : List Value → Prop} {R : Tvs cs → Prop} : ∀ (rows : List (List Value)), (∀ r ∈ rows, ∃ x : Tvs cs, r = encs cs x ∧ R x) → ∃ xs : List (Tvs cs), rows.flatten = xs.flatMap (encs cs) ∧ xs.length = rows.length ∧ ∀ x ∈ xs, R x
  | [], _ => ⟨[], rfl, rfl, by simp⟩
  | r :: rows, h => by
    obtain ⟨x, rfl, hx⟩ := h r (by simp)
    obtain ⟨xs, e, hl, hR⟩ := typed_rows (Q := Q) rows fun q hq => h q (by simp [hq])
    exact ⟨x :: xs, by rw [List.flatten_cons, List.flatMap_cons, e], by simp [hl], fun y hy => by
      rcases List.mem_cons.1 hy with rfl | hy
      · exact hx
      · exact hR y hy⟩
end Go.Eng
