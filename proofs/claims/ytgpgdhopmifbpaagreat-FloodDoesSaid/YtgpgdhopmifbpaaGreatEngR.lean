/- The engine, part R: from a law's contract to its row, whatever the types of the arguments are. Conditions: the law's answer is one bool; no package variable is named. -/
import Derived.Test.YtgpgdhopmifbpaaGreatEngT
import Derived.WalkKit
import Derived.ProofKit
import Derived.OpenShut
import Derived.Carry
import Derived.HandedShaped
import Derived.ChangeSlices
import Derived.Deep.Strs
namespace Go.Eng
open Go Go.ChangeShapes Go.WideShapes Go.ChangeAt Go.RowKit Go.WideElems Go.Deep
set_option linter.unusedVariables false

theorem law_calls {P : Program} {g : FuncId} {args : List Value} {w : World} (h : clS P g args w false [(false, [.b])] (Holds w)) :
    Calls P g args.toArray w fun e w' => e = .returned (.bool true) ∧ Below w.heap.size w w' := by
  refine Calls.mono h fun e w' ⟨r, he, hr, hg⟩ => ?_
  subst hr
  exact ⟨he, hg.below⟩

theorem trodAll_stays {H : Type} {enc : TypeId × Value → H} {P : Program} (hl : laidOutB P = true) {W W' : World} (hb : Below W.heap.size W W') :
    ∀ {ts : List TypeId} {vs : List Value} {ds : List (DataW H)} {ps : List MemPlace}, ts.all (fun t => P.readableRec t && decide (t < P.types.size)) = true →
      DataW.TrodAll enc P W 0 (fun _ => true) true ts vs ds ps → (∀ x ∈ ps, x.block < W.heap.size) → DataW.TrodAll enc P W' 0 (fun b => decide (b < W.heap.size)) true ts vs ds ps
  | [], vs, ds, ps, _, h, _ => by
    obtain ⟨rfl, rfl, rfl⟩ := trodAll_nil h
    exact trodAll_mk0
  | t :: ts, vs, ds, ps, hr, h, hlt => by
    obtain ⟨v, vs', d, ds', p, q, rfl, rfl, rfl, h1, h2⟩ := trodAll_cons h
    simp only [List.all_cons, Bool.and_eq_true, decide_eq_true_eq] at hr
    exact trodAll_cons_mk (Below.trod hl hr.1.1 hr.1.2 h1 hb fun x hx => hlt x (List.mem_append_left _ hx))
      (trodAll_stays hl hb (by simpa using hr.2) h2 fun x hx => hlt x (List.mem_append_right _ hx))
theorem trodAll_length {H : Type} {enc : TypeId × Value → H} {P : Program} {W : World} {b : Nat} {sp : Nat → Bool} {hd : Bool} :
    ∀ {ts : List TypeId} {vs : List Value} {ds : List (DataW H)} {ps : List MemPlace}, DataW.TrodAll enc P W b sp hd ts vs ds ps → ds.length = ts.length
  | [], _, _, _, h => by obtain ⟨rfl, rfl, rfl⟩ := trodAll_nil h; rfl
  | t :: ts, _, _, _, h => by
    obtain ⟨v, vs', d, ds', p, q, rfl, rfl, rfl, h1, h2⟩ := trodAll_cons h
    simp [trodAll_length h2]

/-- THE ROW's STEP: from 'it answers true and leaves what was there' to the row. -/
theorem law_lifted {C : Checked} {os : Os} (started : os.Started) {H : Type} {enc : TypeId × Value → H} {f : FuncId} {fn : Func} {s : ChangeSpec} {conds : List PathCond} {tb : TypeId}
    (own : ownKnob C.prog.godebug = none) (noInit : C.prog.inits.idxOf? f = none) (hfn : C.prog.funcs[f]? = some fn)
    (witness : ∃ (w : World) (tape : Tape) (i : Input), w.os = os ∧ (w.forCall tape i).Shaped C.prog ∧ i.vars = [] ∧ Input.okWide C.prog (w.forCall tape i) .any w.heap.size f i ∧
      s.pre6 enc C.prog fn conds false (w.forCall tape i).memory i.args ∧ ({} : Assume).holds C.prog (lone (Frame.enter C.prog f i.args .normal) [] (w.forCall tape i)))
    (hl : laidOutB C.prog = true) (hvars : s.vars = []) (hread : fn.params.toList.all (fun t => C.prog.readableRec t && decide (t < C.prog.types.size)) = true)
    (hres : fn.resultTypes = #[tb]) (hbool : C.prog.underlying tb = some .bool)
    (hspec : ∀ ds : List (DataW H), ds.length = fn.params.toList.length → (s.fn H ds).results = [.lit (.bool true)] ∧ (s.fn H ds).args = ds ∧ (s.fn H ds).vars = [])
    (law : ∀ (W : World) (base : Nat) (args : Array Value) (ds : List (DataW H)) (ps : List MemPlace),
      (∀ (j : Nat) t v, fn.params[j]? = some t → args[j]? = some v → Value.okWide C.prog W .any base t v) →
      DataW.TrodAll enc C.prog W 0 (fun _ => true) true fn.params.toList args.toList ds ps → (∀ x ∈ ps, x.block < W.heap.size) → W.ShapedOpen C.prog →
      Calls C.prog f args W fun e W' => e = .returned (.bool true) ∧ Below W.heap.size W W') :
    ReturnsInHanded {} C os f .any (s.pre6 enc C.prog fn conds false) (s.post enc C.prog fn false true false false) := by
  refine returnsInHanded_of_change_shaped (C := C) own started noInit hfn witness ?_
  intro W base args ds gs before hval hW _ _ hsh _
  have hW' := hW
  obtain ⟨p, q, hA, hV, rfl, _, _⟩ := hW
  rw [hvars] at hV
  obtain ⟨rfl, rfl⟩ := trodVars_none hV
  have hlt : ∀ x ∈ p, x.block < W.heap.size := fun x hx => by simpa using hW'.lt x (List.mem_append_left _ hx)
  refine (law W base args ds p hval hA hlt hsh).mono fun e W' ⟨he, hg⟩ => ?_
  subst he
  have hs := hspec ds (trodAll_length hA)
  refine ⟨_, rfl, ds, [], p ++ [], [], p, [], hW', ?_, ?_, ?_, hg.frame _, fun h => by cases h⟩
  · rw [List.append_nil, hs.1, hres]
    exact trodAll_mk1 (shut_bool hbool _)
  · rw [List.append_nil, hs.2.1]
    exact trodAll_stays hl hg hread hA hlt
  · rw [List.append_nil, hvars, hs.2.2]; rfl
theorem i64_of {n : Int} (h : (Lit.int .i64 n).wf = true) : I64 n := by
  simp [Lit.wf, IntKind.min, IntKind.max, IntKind.signed, IntKind.bits] at h
  unfold I64
  omega
theorem open_i64 {H : Type} {enc : TypeId × Value → H} {P : Program} {w : World} {base b0 : Nat} {spare : Nat → Bool} {held : Bool} {r : Reach} {t : TypeId} {v : Value} {d : DataW H} {ps : List MemPlace} (ht : P.underlying t = some (.int .i64)) (hval : Value.okWide P w r b0 t v)
    (hd : DataW.Trod enc P w base spare held t v d ps) : ∃ n, v = .int .i64 n ∧ I64 n := by
  obtain ⟨n, e, _, _, h⟩ := open_int ht hval hd
  exact ⟨n, e, i64_of h⟩

/-- a struct of three ints, its cells next to each other -/
def isE3 (P : Program) (e : TypeId) : Bool :=
  match P.underlying e with
  | some (.struct fs) => match fs.toList with
    | [f0, f1, f2] => P.cellsOf e == 3 && f0.offset == 0 && f1.offset == 1 && f2.offset == 2 && P.cellsOf f0.type == 1 && P.cellsOf f1.type == 1 && P.cellsOf f2.type == 1 &&
      isI64 f0.type && isI64 f1.type && isI64 f2.type
    | _ => false
  | _ => false
where isI64 (t : TypeId) : Bool := match P.underlying t with | some (.int .i64) => true | _ => false
theorem isI64_of {P : Program} {t : TypeId} (h : isE3.isI64 P t = true) : P.underlying t = some (.int .i64) := by
  unfold isE3.isI64 at h; split at h
  · assumption
  · cases h
theorem open_e3 {H : Type} {enc : TypeId × Value → H} {P : Program} {w : World} {base : Nat} {spare : Nat → Bool} {held : Bool} {e : TypeId} {fuel : Nat} {cs : List Value} {x : DataW H × List MemPlace} (he : isE3 P e = true)
    (h : DataW.trod enc P w base spare held fuel e cs = some x) : ∃ a b c, cs = [.int .i64 a, .int .i64 b, .int .i64 c] ∧ I64 a ∧ I64 b ∧ I64 c := by
  unfold isE3 at he
  split at he
  · rename_i fs hu
    split at he
    case h_2 => cases he
    rename_i f0 f1 f2 hfs
    obtain rfl : fs = #[f0, f1, f2] := by cases fs; simp at hfs; subst hfs; rfl
    simp only [Bool.and_eq_true, beq_iff_eq] at he
    obtain ⟨⟨⟨⟨⟨⟨⟨⟨⟨hc, o0⟩, o1⟩, o2⟩, c0⟩, c1⟩, c2⟩, i0⟩, i1⟩, i2⟩ := he
    obtain ⟨y0, y1, y2, n, _, hl, h0, h1, h2⟩ := trod_struct3 hu h
    rw [hc] at hl
    match cs, hl with
    | [u0, u1, u2], _ =>
      rw [o0, c0] at h0
      rw [o1, c1] at h1
      rw [o2, c2] at h2
      obtain ⟨a, ea, _, wa⟩ := DataW.trod_int (isI64_of i0) h0
      obtain ⟨b, eb, _, wb⟩ := DataW.trod_int (isI64_of i1) h1
      obtain ⟨c, ec, _, wc⟩ := DataW.trod_int (isI64_of i2) h2
      simp at ea eb ec
      subst ea eb ec
      exact ⟨a, b, c, rfl, i64_of wa, i64_of wb, i64_of wc⟩
  · cases he
theorem collect3 {w : World} {a : Addr} : ∀ (n : Nat), (∀ i, i < n → ∃ e : E3, (I64 e.1 ∧ I64 e.2.1 ∧ I64 e.2.2) ∧ w.cell? (a.add (i * 3)) = some (.int .i64 e.1) ∧ w.cell? (a.add (i * 3 + 1)) = some (.int .i64 e.2.1) ∧ w.cell? (a.add (i * 3 + 2)) = some (.int .i64 e.2.2)) →
    ∃ es : List E3, es.length = n ∧ (∀ e ∈ es, I64 e.1 ∧ I64 e.2.1 ∧ I64 e.2.2) ∧ ∀ k v, (flat3 es)[k]? = some v → w.cell? (a.add k) = some v
  | 0, _ => ⟨[], rfl, by simp, fun k v h => by cases h⟩
  | n + 1, h => by
    obtain ⟨es, hl, h1, h2⟩ := collect3 n fun i hi => h i (by omega)
    obtain ⟨e, e1, e2, e3, e4⟩ := h n (by omega)
    refine ⟨es ++ [e], by simp [hl], ?_, ?_⟩
    · intro x hx
      rcases List.mem_append.1 hx with hx | hx
      · exact h1 x hx
      · simp at hx; subst hx; exact e1
    · intro k v hk
      rw [flat3_append] at hk
      by_cases hlt : k < (flat3 es).length
      · rw [List.getElem?_append_left hlt] at hk; exact h2 k v hk
      · rw [List.getElem?_append_right (by omega), flat3_length, hl] at hk
        rw [flat3_length, hl] at hlt
        obtain ⟨j, rfl⟩ : ∃ j, k = n * 3 + j := ⟨k - n * 3, by omega⟩
        rw [Nat.add_sub_cancel_left] at hk
        rcases j with _ | _ | _ | j
        · simp [flat3] at hk; subst hk; exact e2
        · simp [flat3] at hk; subst hk; exact e3
        · simp [flat3] at hk; subst hk; exact e4
        · simp [flat3] at hk
theorem open_ents {H : Type} {enc : TypeId × Value → H} {P : Program} {w : World} {base b0 : Nat} {spare : Nat → Bool} {held : Bool} {r : Reach} {t e : TypeId} {v : Value} {d : DataW H} {ps : List MemPlace} (ht : P.underlying t = some (.slice e)) (he : isE3 P e = true) (hc : P.cellsOf e = 3)
    (hval : Value.okWide P w r b0 t v) (hd : DataW.Trod enc P w base spare held t v d ps) : ∃ (s : Sl) (es : List E3), v = .slice s.1 s.2.1 s.2.2 ∧ Ents w s es ∧ (∀ e ∈ es, I64 e.1 ∧ I64 e.2.1 ∧ I64 e.2.2) := by
  obtain ⟨a, len, cap, rfl⟩ := okWide_slice ht hval
  obtain ⟨fuel, hf⟩ := hd
  rcases open_slice ht hf with ⟨hcs, _⟩ | ⟨a', len', cap', m, n, D, Pl, hcs, _, hle, _, hm, _, hx⟩
  · simp [Value.cells] at hcs
    obtain ⟨rfl, rfl, rfl⟩ := hcs
    exact ⟨(none, 0, 0), [], rfl, ⟨rfl, fun h => absurd rfl h⟩, by simp⟩
  · simp [Value.cells] at hcs
    obtain ⟨rfl, rfl, rfl⟩ := hcs
    obtain ⟨es, h1, h2, h3⟩ := collect3 (w := w) (a := a') len fun i hi => by
      obtain ⟨cs', q1, q2⟩ := hx i (by rw [hm]; split <;> omega)
      obtain ⟨x, y, z, rfl, e1, e2, e3⟩ := open_e3 he q2
      rw [hc] at q1
      obtain ⟨_, _, hcell⟩ := World.cells?_some q1
      have g0 := hcell 0 (by omega)
      have g1 := hcell 1 (by omega)
      have g2 := hcell 2 (by omega)
      rw [Eng.add_add] at g0 g1 g2
      exact ⟨(x, y, z), ⟨e1, e2, e3⟩, g0, g1, g2⟩
    exact ⟨(some a', len, cap), es, rfl, ⟨by rw [flat3_length, h1], fun _ => ⟨a', rfl, h3⟩⟩, h2⟩

def isE2 (P : Program) (e : TypeId) : Bool :=
  match P.underlying e with
  | some (.struct fs) => match fs.toList with
    | [f0, f1] => P.cellsOf e == 2 && f0.offset == 0 && f1.offset == 1 && P.cellsOf f0.type == 1 && P.cellsOf f1.type == 1 && isE3.isI64 P f0.type && isE3.isI64 P f1.type
    | _ => false
  | _ => false
theorem open_s2 {H : Type} {enc : TypeId × Value → H} {P : Program} {w : World} {base b0 : Nat} {spare : Nat → Bool} {held : Bool} {r : Reach} {e : TypeId} {v : Value} {d : DataW H} {ps : List MemPlace} (he : isE2 P e = true)
    (hval : Value.okWide P w r b0 e v) (hd : DataW.Trod enc P w base spare held e v d ps) : ∃ a b, v = .agg #[.int .i64 a, .int .i64 b] ∧ I64 a ∧ I64 b := by
  unfold isE2 at he
  split at he
  · rename_i fs hu
    split at he
    case h_2 => cases he
    rename_i f0 f1 hfs
    obtain rfl : fs = #[f0, f1] := by cases fs; simp at hfs; subst hfs; rfl
    simp only [Bool.and_eq_true, beq_iff_eq] at he
    obtain ⟨⟨⟨⟨⟨⟨hc, o0⟩, o1⟩, c0⟩, c1⟩, i0⟩, i1⟩ := he
    obtain ⟨cs, rfl, hcs⟩ := okWide_struct hu hval
    obtain ⟨fuel, hf⟩ := hd
    obtain ⟨xs, n, _, _, hl, hxl, hff⟩ := DataW.trod_struct hu hf
    have h0 := hff 0 f0 rfl
    have h1 := hff 1 f1 rfl
    obtain ⟨l⟩ := cs
    rw [hc] at hcs
    match l, hcs with
    | [u0, u1], _ =>
      match xs, hxl with
      | [y0, y1], _ =>
        simp [Value.cells, o0, c0] at h0
        simp [Value.cells, o1, c1] at h1
        obtain ⟨a, ea, _, wa⟩ := DataW.trod_int (isI64_of i0) h0
        obtain ⟨b, eb, _, wb⟩ := DataW.trod_int (isI64_of i1) h1
        simp at ea eb
        subst ea eb
        exact ⟨a, b, rfl, i64_of wa, i64_of wb⟩
  · cases he
/-- a struct of three ints, handed by value -/
theorem open_s3 {H : Type} {enc : TypeId × Value → H} {P : Program} {w : World} {base b0 : Nat} {spare : Nat → Bool} {held : Bool} {r : Reach} {e : TypeId} {v : Value} {d : DataW H} {ps : List MemPlace} (he : isE3 P e = true)
    (hval : Value.okWide P w r b0 e v) (hd : DataW.Trod enc P w base spare held e v d ps) : ∃ x : E3, v = .agg #[.int .i64 x.1, .int .i64 x.2.1, .int .i64 x.2.2] ∧ I64 x.1 ∧ I64 x.2.1 ∧ I64 x.2.2 := by
  have hu : ∃ fs, P.underlying e = some (.struct fs) := by
    unfold isE3 at he
    split at he
    · rename_i fs hu; exact ⟨fs, hu⟩
    · cases he
  obtain ⟨fs, hu⟩ := hu
  obtain ⟨cs, rfl, hcs⟩ := okWide_struct hu hval
  obtain ⟨fuel, hf⟩ := hd
  obtain ⟨a, b, c, hl, i0, i1, i2⟩ := open_e3 he hf
  have : cs = #[.int .i64 a, .int .i64 b, .int .i64 c] := by
    obtain ⟨l⟩ := cs
    simp [Value.cells] at hl
    subst hl; rfl
  subst this
  exact ⟨(a, b, c), rfl, i0, i1, i2⟩
/-- a slice of ints -/
theorem collect1 {w : World} {a : Addr} : ∀ (n : Nat), (∀ i, i < n → ∃ x : Int, I64 x ∧ w.cell? (a.add i) = some (.int .i64 x)) →
    ∃ xs : List Int, xs.length = n ∧ (∀ x ∈ xs, I64 x) ∧ ∀ k v, (xs.map (Value.int .i64))[k]? = some v → w.cell? (a.add k) = some v
  | 0, _ => ⟨[], rfl, by simp, fun k v h => by simp at h⟩
  | n + 1, h => by
    obtain ⟨xs, hl, h1, h2⟩ := collect1 n fun i hi => h i (by omega)
    obtain ⟨x, e1, e2⟩ := h n (by omega)
    refine ⟨xs ++ [x], by simp [hl], ?_, ?_⟩
    · intro y hy
      rcases List.mem_append.1 hy with hy | hy
      · exact h1 y hy
      · simp at hy; subst hy; exact e1
    · intro k v hk
      rw [List.map_append] at hk
      by_cases hlt : k < (xs.map (Value.int .i64)).length
      · rw [List.getElem?_append_left hlt] at hk; exact h2 k v hk
      · rw [List.getElem?_append_right (by omega), List.length_map, hl] at hk
        rw [List.length_map, hl] at hlt
        obtain ⟨j, rfl⟩ : ∃ j, k = n + j := ⟨k - n, by omega⟩
        rw [Nat.add_sub_cancel_left] at hk
        rcases j with _ | j
        · simp at hk; subst hk; exact e2
        · simp at hk
theorem open_is {H : Type} {enc : TypeId × Value → H} {P : Program} {w : World} {base b0 : Nat} {spare : Nat → Bool} {held : Bool} {r : Reach} {t e : TypeId} {v : Value} {d : DataW H} {ps : List MemPlace} (ht : P.underlying t = some (.slice e)) (he : P.underlying e = some (.int .i64)) (hc : P.cellsOf e = 1)
    (hval : Value.okWide P w r b0 t v) (hd : DataW.Trod enc P w base spare held t v d ps) : ∃ (s : Sl) (xs : List Int), v = .slice s.1 s.2.1 s.2.2 ∧ Row w s 1 (xs.map (Value.int .i64)) ∧ (∀ x ∈ xs, I64 x) := by
  obtain ⟨a, len, cap, rfl⟩ := okWide_slice ht hval
  obtain ⟨fuel, hf⟩ := hd
  rcases open_slice ht hf with ⟨hcs, _⟩ | ⟨a', len', cap', m, n, D, Pl, hcs, _, hle, _, hm, _, hx⟩
  · simp [Value.cells] at hcs
    obtain ⟨rfl, rfl, rfl⟩ := hcs
    exact ⟨(none, 0, 0), [], rfl, ⟨rfl, fun h => absurd rfl h⟩, by simp⟩
  · simp [Value.cells] at hcs
    obtain ⟨rfl, rfl, rfl⟩ := hcs
    obtain ⟨xs, h1, h2, h3⟩ := collect1 (w := w) (a := a') len fun i hi => by
      obtain ⟨cs', q1, q2⟩ := hx i (by rw [hm]; split <;> omega)
      obtain ⟨x, rfl, _, wx⟩ := DataW.trod_int he q2
      rw [hc] at q1
      obtain ⟨_, _, hcell⟩ := World.cells?_some q1
      have g0 := hcell 0 (by omega)
      rw [Eng.add_add, Nat.mul_one] at g0
      exact ⟨x, i64_of wx, g0⟩
    exact ⟨(some a', len, cap), xs, rfl, ⟨by simp [h1], fun _ => ⟨a', rfl, h3⟩⟩, h2⟩
end Go.Eng
