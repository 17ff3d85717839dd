/- The reader of leaps: first, leap, last, read: what a line does to it, or which error it panics with. Conditions: none. -/
import Derived.Test.YtfbegkddkdenbaaGreatDoorLcA
namespace Go.Proofs.YtfbegkddkdenbaaGreatDoor
open Go.Eng Go
set_option linter.unusedVariables false
set_option linter.unusedSimpArgs false

theorem lit_start : (⟨#[115, 116, 97, 114, 116]⟩ : ByteArray) = ofL startL := rfl
theorem lit_leap : (⟨#[108, 101, 97, 112]⟩ : ByteArray) = ofL leapL := rfl
theorem lit_end : (⟨#[101, 110, 100]⟩ : ByteArray) = ofL endL := rfl
theorem lit_p1 : (⟨#[43, 49]⟩ : ByteArray) = ofL p1L := rfl
theorem lit_m1 : (⟨#[45, 49]⟩ : ByteArray) = ofL m1L := rfl
theorem lit_nil : (⟨#[]⟩ : ByteArray) = ofL [] := rfl
abbrev PostR (b base : Nat) (i : Int) (w : World) (st : RS ⊕ Int) (R : TR [] → World → Prop) (Z : Value → World → Prop) : Prop :=
  match st with
  | .inr e => ∀ w', Fr b base w w' → Z (flt e i) w'
  | .inl r' => ∀ w', RdW w' b base i r' → Fr b base w w' → R () w'
theorem list3 {ws : List Bs} (h : ws.length = 3) : ∃ a b c, ws = [a, b, c] := by
  match ws, h with
  | [a, b, c], _ => exact ⟨a, b, c, rfl⟩
theorem list2 {ws : List Bs} (h : ws.length = 2) : ∃ a b, ws = [a, b] := by
  match ws, h with
  | [a, b], _ => exact ⟨a, b, rfl⟩
theorem stW0_no {r : RS} {ws : List Bs} (h : ws.length ≠ 3) : stW0 r ws = .inr 3 := by
  unfold stW0
  split
  · exact absurd rfl h
  · rfl
theorem stW1_no {r : RS} {ws : List Bs} (h : ws.length ≠ 3) : stW1 r ws = .inr 3 := by
  unfold stW1
  split
  · exact absurd rfl h
  · rfl
theorem stW2_no {r : RS} {ws : List Bs} (h : ws.length ≠ 2) : stW2 r ws = .inr 3 := by
  unfold stW2
  split
  · exact absurd rfl h
  · rfl
/-- a store into the reader's own block -/
theorem rd_st {b base : Nat} {w w' : World} {s : Sl} {e : TypeId} {ls : L2} (h : OwnE e w base s ls) (u : Upd (fun x => x = b) w w') (hb : b < base) : OwnE e w' base s ls :=
  OwnR.upd h u fun a ha hx => by have := (OwnR.blk h ha).1; omega
theorem stW0_none {r : RS} {x y : Bs} (hn : dayW x = none) : stW0 r [startL, x, y] = .inr 3 := by unfold stW0; simp only [hn]; split <;> rfl
theorem stW0_some {r : RS} {x y : Bs} {d : Int} (hp : plainL y) (hn : dayW x = some d) : stW0 r [startL, x, y] = .inl ⟨1, ⟨d, valD y, r.t.en, r.t.ls⟩⟩ := by
  unfold stW0; simp only [hn]; rw [if_pos ⟨trivial, hp⟩]
theorem stW0_bad {r : RS} {a x y : Bs} (h : ¬ (a = startL ∧ plainL y)) : stW0 r [a, x, y] = .inr 3 := by
  show (if a = startL ∧ plainL y then _ else _) = _
  rw [if_neg h]
theorem stW1_bad {r : RS} {a x y : Bs} (h : ¬ (y = p1L ∨ y = m1L)) : stW1 r [a, x, y] = .inr 3 := by
  show (if y = p1L ∨ y = m1L then _ else _) = _
  rw [if_neg h]
theorem stW1_none {r : RS} {a x y : Bs} (hn : dayW x = none) : stW1 r [a, x, y] = .inr 3 := by unfold stW1; simp only [hn]; split <;> rfl
theorem stW1_some {r : RS} {a x y : Bs} {d : Int} (hp : y = p1L ∨ y = m1L) (hn : dayW x = some d) : stW1 r [a, x, y] = if r.t.ls.length = 64 then .inr 6 else if d < r.t.st ∨ late r.t.ls d then .inr 12 else .inl ⟨1, ⟨r.t.st, r.t.ah, r.t.en, r.t.ls ++ [(d, if y = p1L then 1 else -1)]⟩⟩ := by
  unfold stW1; simp only [hn]; rw [if_pos hp]
theorem stW2_bad {r : RS} {a x : Bs} (h : ¬ a = endL) : stW2 r [a, x] = .inr 3 := by
  show (if a = endL then _ else _) = _
  rw [if_neg h]
theorem stW2_none {r : RS} {a x : Bs} (hn : dayW x = none) : stW2 r [a, x] = .inr 3 := by unfold stW2; simp only [hn]; split <;> rfl
theorem stW2_some {r : RS} {a x : Bs} {d : Int} (hp : a = endL) (hn : dayW x = some d) : stW2 r [a, x] = if d ≤ r.t.st ∨ late r.t.ls d then .inr 12 else .inl ⟨2, ⟨r.t.st, r.t.ah, d, r.t.ls⟩⟩ := by
  unfold stW2; simp only [hn]; rw [if_pos hp]
theorem clE_to {g : FuncId} {args : List Value} {w : World} {tup : Bool} {rs : List (Bool × List CK)} {K K' : TR rs → World → Prop} {Z : Value → World → Prop} (h : clE Tryz.prog g args w tup rs K Z) (hk : ∀ r w, K r w → K' r w) : clE Tryz.prog g args w tup rs K' Z :=
  Calls.mono h fun e w h => h.elim (fun ⟨r, e, h⟩ => .inl ⟨r, e, hk _ _ h⟩) .inr
theorem fail_cl {w : World} {b : Nat} {i e : Int} {cs : List Value} (hB : Blk w b (.int .i64 i :: cs)) {R : TR [] → World → Prop} {Z : Value → World → Prop} (h : Z (flt e i) w) :
    clE Tryz.prog F.leap_reader_fail [.pointer (some ⟨b, 0, none⟩), .int .i64 e] w true [] R fun v w => Z v w := leap_reader_fail.cl hB h
theorem RowS.ix {w : World} {s : Sl} {ls : List Bs} (h : RowS w s ls) {z : Int} {i : Nat} {l : Bs} (hz : z = i) (hi : ls[i]? = some l) {k : Addr → Prop} (hk : ∀ a, s.1 = some a → k a) : ixK s.1 s.2.1 z k := by
  subst hz
  have hlt := (List.getElem?_eq_some_iff.1 hi).1
  obtain ⟨a, ha⟩ := Row.addr h (by rw [List.length_map]; omega)
  have hl := h.len'
  rw [ha, ixK_eq (by omega)]
  exact hk a ha
theorem RowS.cell {w : World} {s : Sl} {ls : List Bs} (h : RowS w s ls) {a : Addr} (ha : s.1 = some a) {z : Int} {i : Nat} {l : Bs} (hz : z = i) (hi : ls[i]? = some l) : w.cell? (a.add (z.toNat * 1)) = some (.string (ofL l)) := by
  subst hz
  rw [Int.toNat_natCast, Nat.mul_one]
  exact Row.ld h ha (by rw [List.getElem?_map, hi]; rfl)
set_option maxRecDepth 20000 in
set_option maxHeartbeats 1000000 in
theorem leap_reader_first.cl {w : World} {b base : Nat} {i : Int} {r : RS} (hd : RdW w b base i r) (hb : b < base) {s : Sl} {ws : List Bs} (hR : RowS w s ws) (hS : ∀ a, s.1 = some a → a.block ≠ b)
    {R : TR [] → World → Prop} {Z : Value → World → Prop} (h : PostR b base i w (stW0 r ws) R Z) :
    clE Tryz.prog F.leap_reader_first [.pointer (some ⟨b, 0, none⟩), .slice s.1 s.2.1 s.2.2] w true [] R Z := by
  obtain ⟨sl, hB, hO⟩ := hd
  refine leap_reader_first.ok ?_
  unfold leap_reader_first.wp
  have hl := hR.len'
  have bad : stW0 r ws = .inr 3 → ∀ {w'}, Gro w w' → Z (flt 3 i) w' := fun e w' g => by rw [e] at h; exact h w' (Fr.gro g)
  refine CutT.by (fun _ W => Gro w W ∧ ∃ x y, ws = [startL, x, y] ∧ plainL y) ?_ ?_
  · refine brN (fun c => fail_cl hB (bad (stW0_no ?_) (Gro.refl _))) fun c => ?_
    · have c : (s.2.1 : Int) ≠ 3 := c; omega
    have c : (s.2.1 : Int) = 3 := c
    obtain ⟨x0, x1, x2, rfl⟩ := list3 (ws := ws) (by omega)
    refine hR.get (i := 0) rfl rfl ?_
    rw [lit_start, beqS]
    refine brNot (fun c2 => fail_cl hB (bad (stW0_bad fun h => (of_decide_eq_false c2) h.1) (Gro.refl _))) fun c2 => ?_
    have c2 : x0 = startL := of_decide_eq_true c2
    subst c2
    refine hR.get (i := 2) rfl rfl (leap_plain.cl fun w17 u17 => brNot (fun c3 => fail_cl (hB.gro u17) (bad (stW0_bad fun h => (of_decide_eq_false c3) h.2) u17)) fun c3 => ?_)
    exact ⟨u17, x1, x2, rfl, of_decide_eq_true c3⟩
  · rintro _ w3 ⟨g3, x, y, rfl, hp⟩ _
    have B3 := hB.gro g3
    have R3 : RowS w3 s [startL, x, y] := hR.gro g3
    refine R3.get (i := 1) rfl rfl (leap_reader_date.cl B3 (fun hn w' u => ?_) fun n hn w' u => ?_)
    · exact bad (stW0_none hn) (g3.trans u)
    · rw [stW0_some hp hn] at h
      have g4 := g3.trans u
      have B4 := hB.gro g4
      rw [ncK_eq]
      refine B4.s1 2 (by simp) fun w27 k27 u27 => ?_
      have R27 : RowS w27 s [startL, x, y] := (hR.gro g4).upd u27 fun a ha => hS a ha
      refine R27.get (i := 2) rfl rfl (strconv_Atoi.cl hp fun w31 u31 => ?_)
      rw [ncK_eq]
      refine (k27.gro u31).s1 3 (by simp) fun w33 k33 u33 => ?_
      rw [ncK_eq]
      refine k33.s1 1 (by simp) fun w35 k35 u35 => ?_
      have fr : Fr b base w w35 := Fr.trans' (Fr.trans' (Fr.trans' (Fr.gro g4) (Fr.blk u27)) (Fr.gro u31)) (Fr.trans' (Fr.blk u33) (Fr.blk u35))
      exact h w35 ⟨sl, k35, rd_st (rd_st (OwnR.gro (rd_st (OwnR.gro hO g4) u27 hb) u31) u33 hb) u35 hb⟩ fr
/-- the day behind the last one -/
theorem late_iff {ls : L2} {d : Int} {x : P2} (hx : ls[ls.length - 1]? = some x) : late ls d ↔ d ≤ x.1 :=
  ⟨fun ⟨y, h1, h2⟩ => by rw [hx] at h1; injection h1 with h1; subst h1; exact h2, fun h => ⟨x, hx, h⟩⟩
theorem late_nil {d : Int} : ¬ late [] d := fun ⟨y, h1, _⟩ => by cases h1
theorem w64_pred {n : Nat} (h0 : 0 < n) (h : n ≤ 1000) : IntKind.wrap .i64 ((n : Int) - 1) = ((n - 1 : Nat) : Int) := by rw [w64_in (by unfold I64; omega)]; omega
set_option maxRecDepth 20000 in
set_option maxHeartbeats 1000000 in
theorem leap_reader_last.cl {w : World} {b base : Nat} {i : Int} {r : RS} (hd : RdW w b base i r) (hn64 : r.t.ls.length ≤ 64) (hb : b < base) {s : Sl} {ws : List Bs} (hR : RowS w s ws) (hS : ∀ a, s.1 = some a → a.block ≠ b)
    {R : TR [] → World → Prop} {Z : Value → World → Prop} (h : PostR b base i w (stW2 r ws) R Z) :
    clE Tryz.prog F.leap_reader_last [.pointer (some ⟨b, 0, none⟩), .slice s.1 s.2.1 s.2.2] w true [] R Z := by
  obtain ⟨sl, hB, hO⟩ := hd
  refine leap_reader_last.ok ?_
  unfold leap_reader_last.wp
  have hl := hR.len'
  have bad : stW2 r ws = .inr 3 → ∀ {w'}, Gro w w' → Z (flt 3 i) w' := fun e w' g => by rw [e] at h; exact h w' (Fr.gro g)
  refine CutT.by (fun _ W => Gro w W ∧ ∃ x, ws = [endL, x]) ?_ ?_
  · refine brN (fun c => fail_cl hB (bad (stW2_no ?_) (Gro.refl _))) fun c => ?_
    · have c : (s.2.1 : Int) ≠ 2 := c; omega
    have c : (s.2.1 : Int) = 2 := c
    obtain ⟨x0, x1, rfl⟩ := list2 (ws := ws) (by omega)
    refine hR.get (i := 0) rfl rfl ?_
    rw [lit_end, beqS]
    refine brNot (fun c2 => fail_cl hB (bad (stW2_bad (of_decide_eq_false c2)) (Gro.refl _))) fun c2 => ?_
    have c2 : x0 = endL := of_decide_eq_true c2
    subst c2
    exact ⟨Gro.refl _, x1, rfl⟩
  · rintro _ w3 ⟨g3, x, rfl⟩ _
    have B3 := hB.gro g3
    have R3 : RowS w3 s [endL, x] := hR.gro g3
    refine R3.get (i := 1) rfl rfl (leap_reader_date.cl B3 (fun hn w' u => ?_) fun n hn w' u => ?_)
    · exact bad (stW2_none hn) (g3.trans u)
    · rw [stW2_some rfl hn] at h
      have g4 := g3.trans u
      have B4 := hB.gro g4
      rw [ncK_eq]
      refine B4.s1 4 (by simp) fun w19 k19 u19 => ?_
      rw [ncK_eq]
      refine k19.c1 5 (c := .sl) (x := sl) rfl ?_
      rw [drK_eq]
      have k22 := k19.drew
      have O22 := OwnR.gro (rd_st (OwnR.gro hO g4) u19 hb) (Gro.drew w19)
      have fr : Fr b base w w19.drew := Fr.trans' (Fr.trans' (Fr.gro g4) (Fr.blk u19)) (Fr.gro (Gro.drew w19))
      generalize w19.drew = w22 at k22 O22 fr
      have hlen := OwnE.rows (e := T.leap_Leap) O22 |>.len
      rw [ncK_eq]
      refine k22.i1 4 rfl ?_
      rw [ncK_eq]
      refine k22.i1 2 rfl ?_
      have bad2 : (n ≤ r.t.st ∨ late r.t.ls n) → Z (flt 12 i) w22 := fun c => by rw [if_pos c] at h; exact h w22 fr
      have good : ¬ (n ≤ r.t.st ∨ late r.t.ls n) → ∀ w', Blk w' b (cR i ⟨2, ⟨r.t.st, r.t.ah, n, r.t.ls⟩⟩ sl) → Upd (fun x => x = b) w22 w' → R () w' := fun c w' k u => by
        rw [if_neg c] at h
        exact h w' ⟨sl, k, rd_st O22 u hb⟩ (Fr.trans' fr (Fr.blk u))
      refine brD (fun c => fail_cl k22 (bad2 (.inl c))) fun c1 => ?_
      have c1 : ¬ n ≤ r.t.st := c1
      refine brD (fun c => ?_) fun c => ?_
      · have c : (sl.2.1 : Int) > 0 := c
        have hx : r.t.ls[r.t.ls.length - 1]? = some (r.t.ls[r.t.ls.length - 1]'(by omega)) := List.getElem?_eq_getElem _
        generalize r.t.ls[r.t.ls.length - 1]'(by omega) = x at hx
        rw [ncK_eq]
        refine k22.i1 4 rfl ?_
        rw [ncK_eq]
        refine k22.c1 5 (c := .sl) (x := sl) rfl ?_
        have ew := w64_pred (n := sl.2.1) (by omega) (by omega)
        rw [show IntKind.wrap .i64 ((sl.2.1 : Int) - 1) = ((r.t.ls.length - 1 : Nat) : Int) from by rw [ew, hlen]]
        refine (OwnE.rows O22).ix rfl hx fun a ha => (OwnE.rows O22).f0 ha hx rfl (brD (fun c2 => fail_cl k22 (bad2 (.inr ((late_iff hx).2 c2)))) fun c2 => ?_)
        rw [ncK_eq]
        refine k22.s1 1 (by simp) fun w46 k46 u46 => good (fun hh => ?_) w46 k46 u46
        rcases hh with hh | hh
        · exact c1 hh
        · exact c2 ((late_iff hx).1 hh)
      · have c : ¬ (sl.2.1 : Int) > 0 := c
        have : r.t.ls = [] := List.eq_nil_of_length_eq_zero (by omega)
        rw [ncK_eq]
        refine k22.s1 1 (by simp) fun w46 k46 u46 => good (fun hh => ?_) w46 k46 u46
        rw [this] at hh
        rcases hh with hh | hh
        · exact c1 hh
        · exact late_nil hh
end Go.Proofs.YtfbegkddkdenbaaGreatDoor
