/- The reader of leaps: a leap's line; any line. Conditions: none. -/
import Derived.Test.YtfbegkddkdenbaaGreatDoorLcB
namespace Go.Proofs.YtfbegkddkdenbaaGreatDoor
open Go.Eng Go
set_option linter.unusedVariables false
set_option linter.unusedSimpArgs false

abbrev stepsL : List (Bs × Int) := [(p1L, 1), (m1L, Int.negSucc 0)]
theorem sget_steps (y : Bs) : (sget stepsL y = 0 ↔ ¬ (y = p1L ∨ y = m1L)) ∧ ((y = p1L ∨ y = m1L) → sget stepsL y = if y = p1L then 1 else -1) := by
  unfold stepsL sget sget sget
  by_cases h1 : y = p1L
  · rw [if_pos h1]; simp [h1]
  · rw [if_neg h1]
    by_cases h2 : y = m1L
    · rw [if_pos h2]; subst h2; decide
    · rw [if_neg h2]; simp [h1, h2]
theorem OwnE.snoc {P : Program} {t ty e : TypeId} {w : World} {base b : Nat} {s : Sl} {ls : L2} {x : P2} {k : Sl → World → Prop} (ht : P.underlying t = some (.slice e)) (hi : infoOk P e 2 = true) (h : OwnE e w base s ls) (hB : Blk w b [.int .i64 x.1, .int .i64 x.2]) (hn : ls.length ≤ 1000000) (hbase : base ≤ w.heap.size)
    (hk : ∀ s' w', OwnE e w' base s' (ls ++ [x]) → Upd (fun b => ∃ a, s.1 = some a ∧ a.block = b) w w' → k s' w') :
    slOf ((Builtin.append_ #[t, t] ty #[.slice s.1 s.2.1 s.2.2, .slice (some ⟨b, 0, none⟩) 1 1]).run P w) k := by
  refine ap_own (s := s) (x := (some ⟨b, 0, none⟩, 1, 1)) (e := e) (size := 2) (base := base) (n := ls.length) (xs := (ls.map t2).flatMap (encs K2)) (news := encs K2 (t2 x)) ht hi (by decide) h
    ⟨rfl, fun _ => ⟨_, rfl, hB.news⟩⟩ ?_ (by show ls.length + 1 ≤ _; omega) hbase fun s' w16 o16 u16 hb => ?_
  · intro u hu
    simp only [t2, encs, enc, List.mem_cons, List.not_mem_nil, or_false] at hu
    rcases hu with rfl | rfl <;> rfl
  · refine hk s' w16 ?_ u16
    unfold OwnE
    rw [List.length_append, List.map_append, List.flatMap_append]
    simpa using o16
set_option maxRecDepth 20000 in
set_option maxHeartbeats 1000000 in
theorem leap_reader_leap.cl {w : World} {b base : Nat} {i : Int} {r : RS} {sl : Sl} (hB : Blk w b (cR i r sl)) (hO : OwnE T.leap_Leap w base sl r.t.ls) (hn64 : r.t.ls.length ≤ 64) (hb : b < base) (hbase : base ≤ w.heap.size) {s : Sl} {ws : List Bs} (hR : RowS w s ws) (hS : ∀ a, s.1 = some a → a.block ≠ b ∧ ∀ a0, sl.1 = some a0 → a0.block ≠ a.block)
    (hq : r.q = 1) {R : TR [] → World → Prop} {Z : Value → World → Prop} (h : PostR b base i w (stW1 r ws) R Z) :
    clE Tryz.prog F.leap_reader_leap [.pointer (some ⟨b, 0, none⟩), .slice s.1 s.2.1 s.2.2] w true [] R Z := by
  refine leap_reader_leap.ok ?_
  unfold leap_reader_leap.wp
  rw [lit_p1, lit_m1]
  have hl := hR.len'
  have tM : Tryz.prog.underlying T.map_string_int = some (.map T.string T.int) := by kernel_rfl
  have tS : Tryz.prog.underlying T.string = some .string := by kernel_rfl
  have tI : ∀ w, (zeroValue T.int).run Tryz.prog w = .ok (.int .i64 0) w := fun w => by kernel_rfl
  refine mkS_by fun m w2 em M2 u2 => muS_by M2 tM tS (by intro p hp; cases hp) fun w3 M3 u3 => muS_by M3 tM tS (by intro p hp; simp at hp; subst hp; decide) fun w4 M4 u4 => ?_
  have M4 : MapS w4 m stepsL := M4
  have g4 : Gro w w4 := Upd.trans (Upd.trans u2 u3 fun j hj h => by omega) u4 fun j hj h => by omega
  have bad : stW1 r ws = .inr 3 → ∀ {w'}, Gro w w' → Z (flt 3 i) w' := fun e w' g => by rw [e] at h; exact h w' (Fr.gro g)
  refine CutT.by (fun _ W => w4 = W ∧ ∃ a x y, ws = [a, x, y] ∧ (y = p1L ∨ y = m1L)) ?_ ?_
  · refine brN (fun c => fail_cl (hB.gro g4) (bad (stW1_no ?_) g4)) fun c => ?_
    · have c : (s.2.1 : Int) ≠ 3 := c; omega
    have c : (s.2.1 : Int) = 3 := c
    obtain ⟨x0, x1, x2, rfl⟩ := list3 (ws := ws) (by omega)
    have R4 : RowS w4 s [x0, x1, x2] := hR.gro g4
    refine R4.get (i := 2) rfl rfl (lkS_by M4 tM tS tI (brE (fun c2 => fail_cl (hB.gro g4) (bad (stW1_bad ((sget_steps x2).1.1 c2)) g4)) fun c2 => ⟨rfl, x0, x1, x2, rfl, ?_⟩))
    by_cases hy : x2 = p1L ∨ x2 = m1L
    · exact hy
    · exact absurd ((sget_steps x2).1.2 hy) c2
  rintro _ _ ⟨rfl, a, x, y, rfl, hy⟩ _
  have R4 : RowS w4 s [a, x, y] := hR.gro g4
  refine R4.get (i := 1) rfl rfl (leap_reader_date.cl (hB.gro g4) (fun hn w' u => bad (stW1_none hn) (g4.trans u)) fun n hn w22 u22 => ?_)
  rw [stW1_some hy hn] at h
  have g22 := g4.trans u22
  have B22 := hB.gro g22
  have O22 := OwnR.gro hO g22
  have hlen := OwnE.rows (e := T.leap_Leap) O22 |>.len
  refine CutT.by (fun _ W => w22 = W ∧ r.t.ls.length ≠ 64) ?_ ?_
  · rw [ncK_eq]
    refine B22.c1 5 (c := .sl) (x := sl) rfl (brE (fun c => fail_cl B22 ?_) fun c => ⟨rfl, fun e => c (by show (sl.2.1 : Int) = 64; omega)⟩)
    have c : (sl.2.1 : Int) = 64 := c
    rw [if_pos (by omega)] at h
    exact h w22 (Fr.gro g22)
  rintro _ _ ⟨rfl, hn2⟩ _
  rw [if_neg hn2] at h
  have bad2 : (n < r.t.st ∨ late r.t.ls n) → Z (flt 12 i) w22 := fun c => by rw [if_pos c] at h; exact h w22 (Fr.gro g22)
  refine CutT.by (fun _ W => w22 = W ∧ ¬ (n < r.t.st ∨ late r.t.ls n)) ?_ ?_
  · rw [ncK_eq]
    refine B22.c1 5 (c := .sl) (x := sl) rfl ?_
    rw [ncK_eq]
    refine B22.i1 2 rfl (brD (fun c => fail_cl B22 (bad2 (.inl c))) fun c1 => ?_)
    have c1 : ¬ n < r.t.st := c1
    refine brD (fun c => ?_) fun c => ?_
    · have c : (sl.2.1 : Int) > 0 := c
      have hx : r.t.ls[r.t.ls.length - 1]? = some (r.t.ls[r.t.ls.length - 1]'(by omega)) := List.getElem?_eq_getElem _
      generalize r.t.ls[r.t.ls.length - 1]'(by omega) = z at hx
      rw [ncK_eq]
      refine B22.c1 5 (c := .sl) (x := sl) rfl ?_
      have ew := w64_pred (n := sl.2.1) (by omega) (by omega)
      rw [show IntKind.wrap .i64 ((sl.2.1 : Int) - 1) = ((r.t.ls.length - 1 : Nat) : Int) from by rw [ew, hlen]]
      refine (OwnE.rows O22).ix rfl hx fun a ha => (OwnE.rows O22).f0 ha hx rfl (brD (fun c2 => fail_cl B22 (bad2 (.inr ((late_iff hx).2 c2)))) fun c2 => ⟨rfl, fun hh => ?_⟩)
      rcases hh with hh | hh
      · exact c1 hh
      · exact c2 ((late_iff hx).1 hh)
    · have c : ¬ (sl.2.1 : Int) > 0 := c
      have : r.t.ls = [] := List.eq_nil_of_length_eq_zero (by omega)
      refine ⟨rfl, fun hh => ?_⟩
      rw [this] at hh
      rcases hh with hh | hh
      · exact c1 hh
      · exact late_nil hh
  rintro _ _ ⟨rfl, ho⟩ _
  rw [if_neg ho] at h
  have M22 := M4.upd u22 (fun x => x)
  have R22 : RowS w22 s [a, x, y] := R4.gro u22
  rw [drK_eq]
  have g51 := g22.trans (Gro.drew w22)
  have B51 := B22.drew
  have O51 := OwnR.gro O22 (Gro.drew w22)
  have M51 := M22.upd (Gro.drew w22) (fun x => x)
  have R51 : RowS w22.drew s [a, x, y] := R22.gro (Gro.drew w22)
  generalize w22.drew = w51 at g51 B51 O51 M51 R51
  rw [ncK_eq]
  refine B51.c1 5 (c := .sl) (x := sl) rfl (R51.ix (i := 2) rfl rfl fun aa ha => ?_)
  have hcell := R51.cell ha (z := 2) (i := 2) rfl rfl
  have hblk := hS aa ha
  refine ld1_cell hcell rfl (lkS_by M51 tM tS tI ?_)
  rw [(sget_steps y).2 hy]
  refine ⟨⟨by rw [hcell]; rfl, B51.hold (Gro.refl _) (fun x => x) 5 (by simp), trivial⟩, alK_by fun p57 w58 e58 k58 u58 => ⟨⟨?_, B51.hold u58 (fun x => x) 5 (by simp), trivial⟩, ?_⟩⟩
  · rw [cell_gro hcell u58, hcell]; rfl
  have O58 := OwnR.gro O51 u58
  have B58 := B51.gro u58
  have l51 := B51.lt
  have s51 := g51.size
  have s58 := u58.size
  refine OwnE.snoc (x := (n, if y = p1L then 1 else -1)) (ls := r.t.ls) (base := base) (e := T.leap_Leap) (by kernel_rfl) (by kernel_rfl) O58 k58 (by omega) (by omega) fun s' w60 O60 u60 => ?_
  have hown : ∀ a0, sl.1 = some a0 → base ≤ a0.block := fun a0 h0 => (OwnR.blk O58 h0).1
  have B60 := B58.upd u60 fun ⟨a0, h0, h1⟩ => by have := hown a0 h0; omega
  refine ⟨⟨?_, trivial⟩, ?_⟩
  · rw [cell_upd (cell_gro hcell u58) u60 (fun ⟨a0, h0, h1⟩ => hblk.2 a0 h0 (by rw [add_block] at h1; exact h1)), hcell]; rfl
  rw [ncK_eq]
  refine B60.sN 5 [.slice s'.1 s'.2.1 s'.2.2] (by simp) rfl fun w62 k62 u62 => ⟨trivial, ?_⟩
  have fr : Fr b base w w62 := Fr.trans' (Fr.trans' (Fr.gro (g51.trans u58)) (u60.mono fun j ⟨a0, h0, h1⟩ => .inr (by have := hown a0 h0; omega))) (Fr.blk u62)
  refine h w62 ⟨s', ?_, rd_st O60 u62 hb⟩ fr
  have e : splice (cR i r sl) 5 [.slice s'.1 s'.2.1 s'.2.2] = cR i ⟨1, ⟨r.t.st, r.t.ah, r.t.en, r.t.ls ++ [(n, if y = p1L then 1 else -1)]⟩⟩ s' := by simp [cR, splice, hq]
  rw [← e]; exact k62

theorem pcs_head {l : Bs} {a : UInt8} : ∃ x xs, pcs a l = x :: xs := by
  cases h : pcs a l with
  | nil => exact absurd h (pcs_ne a l)
  | cons x xs => exact ⟨x, xs, rfl⟩
set_option maxRecDepth 20000 in
set_option maxHeartbeats 1000000 in
theorem leap_reader_read.cl {w : World} {b base : Nat} {i : Int} {r : RS} (hd : RdW w b base i r) (hI : RI r) (hi : 0 ≤ i) (hi2 : i ≤ 1000000) (hb : b < base) (hbase : base ≤ w.heap.size) {l : Bs} (hl : l.length < 4000000000)
    {R : TR [] → World → Prop} {Z : Value → World → Prop} (h : PostR b base (i + 1) w (stepL r l) R Z) :
    clE Tryz.prog F.leap_reader_read [.pointer (some ⟨b, 0, none⟩), .string (ofL l)] w true [] R Z := by
  obtain ⟨sl, hB, hO⟩ := hd
  refine leap_reader_read.ok ?_
  unfold leap_reader_read.wp
  rw [ncK_eq]
  refine hB.i0 rfl ?_
  rw [ncK_eq, w64_in (n := i + 1) (by unfold I64; omega), lit_nil]
  refine hB.s0 (by simp) fun w4 k4 u4 => ?_
  have k4 : Blk w4 b (cR (i + 1) r sl) := k4
  have O4 := rd_st hO u4 hb
  have f4 : Fr b base w w4 := Fr.blk u4
  refine brS (fun c => ?_) fun c => ?_
  · subst c
    exact h w4 ⟨sl, k4, O4⟩ f4
  obtain ⟨x, l', rfl⟩ : ∃ x l', l = x :: l' := by cases l with | nil => exact absurd rfl c | cons x l' => exact ⟨x, l', rfl⟩
  refine siK_by (i := 0) rfl rfl (brE (fun c2 => ?_) fun c2 => ?_)
  · have c2 : (x.toNat : Int) = 35 := c2
    have : x = 35 := UInt8.toNat_inj.1 (by show x.toNat = 35; omega)
    subst this
    have e : stepL r (35 :: l') = .inl r := by unfold stepL; rw [if_pos (.inr rfl)]
    rw [e] at h
    exact h w4 ⟨sl, k4, O4⟩ f4
  have c2 : (x.toNat : Int) ≠ 35 := c2
  have e : stepL r (x :: l') = stepW r (pcs 32 (x :: l')) := by
    unfold stepL; rw [if_neg]
    rintro (h | h)
    · cases h
    · simp at h; subst h; exact c2 rfl
  rw [e] at h
  refine strings_Split.cl hl fun s w7 R7 hs u7 => ?_
  have k7 := k4.gro u7
  have O7 := OwnR.gro O4 u7
  have f7 : Fr b base w w7 := Fr.trans' f4 (Fr.gro u7)
  have l4 := k4.lt
  have hS1 : ∀ a, s.1 = some a → a.block ≠ b := fun a ha => by rw [hs] at ha; injection ha with ha; subst ha; show w4.heap.size ≠ b; omega
  have hS2 : ∀ a, s.1 = some a → a.block ≠ b ∧ ∀ a0, sl.1 = some a0 → a0.block ≠ a.block := fun a ha => ⟨hS1 a ha, fun a0 h0 => by
    have := (OwnR.blk O4 h0).2.1
    rw [hs] at ha; injection ha with ha; subst ha; show a0.block ≠ w4.heap.size; omega⟩
  obtain ⟨y, ys, hy⟩ := pcs_head (l := x :: l') (a := 32)
  have post : ∀ st, stepW r (pcs 32 (x :: l')) = st → PostR b base (i + 1) w7 st R Z := fun st hst => by
    rw [hst] at h
    cases st with
    | inr e => exact fun w' u => h w' (Fr.trans' f7 u)
    | inl r' => exact fun w' hr u => h w' hr (Fr.trans' f7 u)
  have n64 := hI.n
  have sz7 := f7.size
  rw [ncK_eq]
  refine k7.i1 1 rfl (brE (fun c3 => ?_) fun c3 => ?_)
  · have c3 : (r.q : Int) = 0 := c3
    have := post (stW0 r (pcs 32 (x :: l'))) (by unfold stepW; rw [if_pos (by omega)])
    exact leap_reader_first.cl ⟨sl, k7, O7⟩ hb R7 hS1 (R := fun r w => R r w) (Z := fun v w => Z v w) this
  have c3 : (r.q : Int) ≠ 0 := c3
  refine CutT.by (fun z W => w7 = W ∧ z.1 = decide (r.q = 1 ∧ y = leapL)) ?_ ?_
  · rw [ncK_eq]
    refine k7.i1 1 rfl (brE (fun c4 => ?_) fun c4 => ⟨rfl, ?_⟩)
    · have c4 : (r.q : Int) = 1 := c4
      rw [hy] at R7
      refine R7.get (i := 0) rfl rfl ⟨rfl, ?_⟩
      rw [lit_leap]
      show (ofL y == ofL leapL) = _
      rw [beqS]
      congr 1
      exact propext ⟨fun h => ⟨by omega, h⟩, fun h => h.2⟩
    · have c4 : (r.q : Int) ≠ 1 := c4
      symm; rw [decide_eq_false_iff_not]; intro hh; omega
  rintro ⟨z, _⟩ _ ⟨rfl, hz⟩ _
  dsimp only at hz
  subst hz
  refine brD (fun c5 => ?_) fun c5 => ?_
  · have := post (stW1 r (pcs 32 (x :: l'))) (by unfold stepW; rw [if_neg (by omega), if_pos c5.1, if_pos (by rw [hy, c5.2]; rfl)])
    exact leap_reader_leap.cl k7 O7 n64 hb (by omega) R7 hS2 c5.1 (R := fun r w => R r w) (Z := fun v w => Z v w) this
  rw [ncK_eq]
  refine k7.i1 1 rfl (brE (fun c6 => ?_) fun c6 => ?_)
  · have c6 : (r.q : Int) = 1 := c6
    have := post (stW2 r (pcs 32 (x :: l'))) (by
      unfold stepW; rw [if_neg (by omega), if_pos (by omega), if_neg]
      rw [hy]
      intro hh
      injection hh with hh
      exact c5 ⟨by omega, hh⟩)
    exact leap_reader_last.cl ⟨sl, k7, O7⟩ n64 hb R7 hS1 (R := fun r w => R r w) (Z := fun v w => Z v w) this
  · have c6 : (r.q : Int) ≠ 1 := c6
    have := post (.inr 3) (by unfold stepW; rw [if_neg (by omega), if_neg (by omega)])
    exact leap_reader_fail.cl k7 (R := fun r w => R r w) (Z := fun v w => Z v w) (this w7 (Fr.gro (Gro.refl _)))
end Go.Proofs.YtfbegkddkdenbaaGreatDoor
