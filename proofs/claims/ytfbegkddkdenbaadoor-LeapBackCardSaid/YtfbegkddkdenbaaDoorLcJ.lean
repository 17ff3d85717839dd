/- The laws LeapCuts and LeapBack. Conditions: what an argument is. -/
import Derived.Test.YtfbegkddkdenbaaDoorLcI
namespace Go.Proofs.YtfbegkddkdenbaaDoor
open Go.Eng Go
set_option linter.unusedVariables false
set_option linter.unusedSimpArgs false

/-- the lines so far, the one at k twice -/
def dupL (k i : Nat) (L : List Bs) : List Bs := if k < i then L.take (k + 1) ++ (L.take i).drop k else L.take i
theorem dupL_succ {k i : Nat} {L : List Bs} {x : Bs} (hx : L[i]? = some x) : dupL k (i + 1) L = if i = k then dupL k i L ++ [x] ++ [x] else dupL k i L ++ [x] := by
  have tk : L.take (i + 1) = L.take i ++ [x] := by rw [List.take_add_one, hx]; rfl
  have hi := (List.getElem?_eq_some_iff.1 hx).1
  have hl : (L.take i).length = i := by rw [List.length_take]; omega
  unfold dupL
  by_cases c : i = k
  · subst c
    rw [if_pos (by omega), if_pos rfl, if_neg (by omega), tk, List.drop_append_of_le_length (by omega), List.drop_eq_nil_of_le (by omega)]
    simp
  · rw [if_neg c]
    by_cases c2 : k < i
    · rw [if_pos (by omega), if_pos c2, tk, List.drop_append_of_le_length (by omega), List.append_assoc]
    · rw [if_neg (by omega), if_neg c2, tk]
theorem dupL_all {k : Nat} {L : List Bs} {x : Bs} (hx : L[k]? = some x) : dupL k L.length L = L.take (k + 1) ++ x :: L.drop (k + 1) := by
  have hi := (List.getElem?_eq_some_iff.1 hx).1
  have : L[k] = x := by have := List.getElem?_eq_getElem hi; rw [hx] at this; injection this with this; exact this.symm
  unfold dupL
  rw [if_pos hi, List.take_length, List.drop_eq_getElem_cons hi, this]
theorem dupL_mem {k i : Nat} {L : List Bs} : ∀ x ∈ dupL k i L, x ∈ L := by
  intro x hx
  unfold dupL at hx
  split at hx
  · rcases List.mem_append.1 hx with h | h
    · exact List.mem_of_mem_take h
    · exact List.mem_of_mem_take (List.mem_of_mem_drop h)
  · exact List.mem_of_mem_take hx
theorem dupL_len {k i : Nat} {L : List Bs} : (dupL k i L).length ≤ L.length + L.length := by
  unfold dupL
  split
  · simp only [List.length_append, List.length_take, List.length_drop]; omega
  · rw [List.length_take]; omega
theorem mixL_snoc {k : Int} : ∀ (a : List Bs) (x : Bs) (i : Int), mixL k (a ++ [x]) i = mixL k a i ++ (if i + a.length = k then [[], cmtL, x] else [x])
  | [], x, i => by simp [mixL]
  | y :: a, x, i => by
    rw [List.cons_append, mixL, mixL, mixL_snoc a x (i + 1)]
    have e : i + 1 + (a.length : Int) = i + ((y :: a).length : Int) := by simp only [List.length_cons]; omega
    rw [e, List.append_assoc]
theorem lns_each' {m : Tb} : ∀ l ∈ lnsT m ++ [[]], l.length ≤ 19 := by
  intro l hl
  rcases List.mem_append.1 hl with hl | hl
  · exact lnsT_each l hl
  · rw [List.mem_singleton.1 hl]; simp
theorem lit_cmt : (⟨#[10, 35, 32, 97, 32, 119, 111, 114, 100, 10]⟩ : ByteArray) = ofL (10 :: (cmtL ++ [10])) := rfl
set_option maxRecDepth 20000 in
set_option maxHeartbeats 2000000 in
theorem law21_LeapCuts.cl {w : World} {m : Tb} {s : Sl} {at_ : Int} (hR : RowsP w s m.ls) (hI : ∀ l ∈ m.ls, I64 l.1 ∧ I64 l.2) (hm : I64 m.st ∧ I64 m.ah ∧ I64 m.en) (hd : I64 at_) :
    clS Tryd.prog F.law21_LeapCuts [vT m s, .int .i64 at_] w false RB1 (Holds w) := by
  refine law21_LeapCuts.ok ?_
  unfold law21_LeapCuts.wp
  have hl := hR.len
  rw [lit_lf, lit_nil]
  refine alK_by fun p1 w2 e1 k1 u1 => law21_alive.cl fun w4 u4 => brF rfl ?_
  have k4 := k1.gro u4
  have g4 := u1.trans u4
  refine k4.c1 3 (c := .sl) (x := s) rfl (brD (fun c => holds g4 rfl) fun c => ?_)
  have c : ¬ (s.2.1 : Int) > 64 := c
  refine ldTb k4 (law21_made.cl (m := m) (hR.gro g4) (by omega) hI (fun hne w8 u8 => ?_) fun he b w8 hb hT u8 => ?_)
  · exact brN (fun _ => holds (g4.trans u8) rfl) fun c2 => absurd (show errT m = 0 from c2) hne
  have hg := errT_good he
  have n64 := hg.2.2.1
  have g8 := g4.trans u8
  refine brN (fun c2 => absurd rfl c2) fun _ => leap_Table_Text.cl hT hg fun w10 u10 => ?_
  have htl : (txtT m).length ≤ 20 * (lnsT m).length := flatL_len lnsT_each
  have hln := lnsT_len m
  refine ref21_Pieces.cl (a := 10) (at_ := 10) rfl (by omega) fun sl w12 R12 hs12 u12 => ?_
  rw [txtT_pcs] at R12
  have h12 := R12.len'
  rw [List.length_append, List.length_singleton, hln] at h12
  have g12 := (g8.trans u10).trans u12
  have k12 := ((k4.gro u8).gro u10).gro u12
  have en : IntKind.wrap .i64 ((sl.2.1 : Int) - 1) = ((m.ls.length + 2 : Nat) : Int) := by rw [w64_in (by unfold I64; omega)]; omega
  have en1 : IntKind.wrap .i64 (((m.ls.length + 2 : Nat) : Int) - 1) = ((m.ls.length + 1 : Nat) : Int) := by rw [w64_in (by unfold I64; omega)]; omega
  have es : IntKind.wrap .i64 ((s.2.1 : Int) + 2) = ((m.ls.length + 2 : Nat) : Int) := by rw [w64_in (by unfold I64; omega)]; omega
  show CutT _ _
  simp only [en, en1]
  refine CutT.by (fun z W => w12 = W ∧ (z.1 = false → 0 ≤ at_ ∧ at_ < ((m.ls.length + 2 : Nat) : Int))) ?_ ?_
  · refine k12.c1 3 (c := .sl) (x := s) rfl ?_
    rw [es]
    refine brN (fun c => absurd rfl c) fun _ => brD (fun _ => ⟨rfl, (fun h => by cases h)⟩) fun c2 => ⟨rfl, fun h => ?_⟩
    have c2 : ¬ at_ < 0 := c2
    have := of_decide_eq_false h
    omega
  rintro ⟨z, _⟩ _ ⟨rfl, hz⟩ _
  dsimp only at hz
  refine brC (fun _ => k12.c1 3 (c := .sl) (x := s) rfl (holds g12 ?_)) fun cz => ?_
  · rw [es]; exact beq_self_eq_true _
  obtain ⟨h0, h1⟩ := hz cz
  obtain ⟨q, rfl⟩ : ∃ q : Nat, at_ = q := ⟨at_.toNat, by omega⟩
  have hq : q < (lnsT m).length := by omega
  have bound : ∀ {L : List Bs}, (∀ x ∈ L, x ∈ lnsT m) → L.length ≤ 200 → (flatL L).length ≤ 4000 := fun {L} hL hn => by
    have := flatL_len (k := 19) fun x hx => lnsT_each x (hL x hx)
    omega
  refine LoopT.by (fun z W => w12 = W ∧ ∃ i : Nat, z.2.2.1 = i ∧ i ≤ m.ls.length + 2 ∧ z.1 = ofL (flatL ((lnsT m).take (min i (m.ls.length + 1)))) ∧ z.2.1 = ofL (flatL (dupL q i (lnsT m)))) (fun z => (((m.ls.length + 2 : Nat) : Int) - z.2.2.1).toNat)
    ⟨rfl, 0, rfl, by omega, by simp [flatL], by simp [dupL, flatL]⟩ ?_
  rintro ⟨zc, zt, zi, _⟩ _ ⟨rfl, i, ei, hi, ec, et⟩ _
  dsimp only at ei ec et
  subst ei ec et
  have b1 : (flatL ((lnsT m).take (min i (m.ls.length + 1)))).length ≤ 4000 := bound (fun x hx => List.mem_of_mem_take hx) (by rw [List.length_take]; omega)
  have b2 : (flatL (dupL q i (lnsT m))).length ≤ 4000 := bound dupL_mem (Nat.le_trans dupL_len (by omega))
  refine brD (fun c => ?_) fun c => ?_
  · have c : (i : Int) < ((m.ls.length + 2 : Nat) : Int) := c
    have hi' : i < (lnsT m).length := by omega
    have hx : (lnsT m)[i]? = some (lnsT m)[i] := List.getElem?_eq_getElem hi'
    have hxe := lnsT_each _ (List.getElem_mem hi')
    generalize (lnsT m)[i] = x at hx hxe
    have hx2 : (lnsT m ++ [[]])[i]? = some x := by rw [List.getElem?_append_left hi']; exact hx
    have tk : (lnsT m).take (i + 1) = (lnsT m).take i ++ [x] := by rw [List.take_add_one, hx]; rfl
    have ew : IntKind.wrap .i64 ((i : Int) + 1) = ((i + 1 : Nat) : Int) := by rw [w64_in (by unfold I64; omega)]; omega
    refine CutT.by (fun z W => w12 = W ∧ z.1 = ofL (flatL ((lnsT m).take (min (i + 1) (m.ls.length + 1))))) ?_ ?_
    · refine brD (fun c2 => ?_) fun c2 => ⟨rfl, ?_⟩
      · have c2 : (i : Int) < ((m.ls.length + 1 : Nat) : Int) := c2
        refine R12.get rfl hx2 (saK_ofL (by omega) ?_)
        rw [ofL_append]
        refine saK_ofL (by simp only [List.length_append, List.length_cons, List.length_nil]; omega) ⟨rfl, ?_⟩
        show ofL _ ++ ofL _ = _
        rw [ofL_append, Nat.min_eq_left (by omega), Nat.min_eq_left (by omega), tk, flat_snoc]
        simp
      · have c2 : ¬ (i : Int) < ((m.ls.length + 1 : Nat) : Int) := c2
        show ofL _ = _
        rw [Nat.min_eq_right (by omega), Nat.min_eq_right (by omega)]
    rintro ⟨z, _⟩ _ ⟨rfl, hzc⟩ _
    dsimp only at hzc
    subst hzc
    refine R12.get rfl hx2 (saK_ofL (by omega) ?_)
    rw [ofL_append]
    refine saK_ofL (by simp only [List.length_append, List.length_cons, List.length_nil]; omega) ?_
    rw [ofL_append]
    have ds := dupL_succ (k := q) hx
    refine brE (fun c2 => ?_) fun c2 => ?_
    · have c2 : (i : Int) = (q : Int) := c2
      refine R12.get rfl hx2 (saK_ofL (by simp only [List.length_append, List.length_cons, List.length_nil]; omega) ?_)
      rw [ofL_append]
      refine saK_ofL (by simp only [List.length_append, List.length_cons, List.length_nil]; omega) ?_
      rw [ofL_append]
      refine ⟨⟨rfl, i + 1, ew, by omega, rfl, ?_⟩, by show (((m.ls.length + 2 : Nat) : Int) - IntKind.wrap .i64 ((i : Int) + 1)).toNat < (((m.ls.length + 2 : Nat) : Int) - (i : Int)).toNat; rw [ew]; omega⟩
      show ofL _ = _
      rw [ds, if_pos (by omega), flat_snoc, flat_snoc]
      simp
    · have c2 : (i : Int) ≠ (q : Int) := c2
      refine ⟨⟨rfl, i + 1, ew, by omega, rfl, ?_⟩, by show (((m.ls.length + 2 : Nat) : Int) - IntKind.wrap .i64 ((i : Int) + 1)).toNat < (((m.ls.length + 2 : Nat) : Int) - (i : Int)).toNat; rw [ew]; omega⟩
      show ofL _ = _
      rw [ds, if_neg (by omega), flat_snoc]
      simp
  · have c : ¬ (i : Int) < ((m.ls.length + 2 : Nat) : Int) := c
    have hi2 : i = (lnsT m).length := by omega
    have e1 : min i (m.ls.length + 1) = m.ls.length + 1 := by omega
    have hx : (lnsT m)[q]? = some (lnsT m)[q] := List.getElem?_eq_getElem hq
    generalize (lnsT m)[q] = x at hx
    have pc := prs_cut hg (n := m.ls.length + 1) (by omega)
    obtain ⟨e, he, pt⟩ := prs_twice hg hx
    rw [e1]
    refine leap_Parse.cl (fun a1 x1 hp1 w31 u31 => ?_) fun m2 hp1 => by rw [pc] at hp1; cases hp1
    rw [pc] at hp1
    injection hp1 with _ hp1
    injection hp1 with ha1 hx1
    subst ha1 hx1
    have ed : dupL q i (lnsT m) = (lnsT m).take (q + 1) ++ x :: (lnsT m).drop (q + 1) := by rw [hi2]; exact dupL_all hx
    show clS Tryd.prog F.leap_Parse [.string (ofL (flatL (dupL q i (lnsT m))))] _ _ _ _
    rw [ed]
    refine leap_Parse.cl (fun a2 x2 hp2 w33 u33 => ?_) fun m2 hp2 => by rw [pt] at hp2; cases hp2
    rw [pt] at hp2
    injection hp2 with _ hp2
    injection hp2 with ha2 hx2
    subst ha2 hx2
    have gg := (g12.trans u31).trans u33
    refine brT rfl (brT rfl (brT ?_ (brT rfl (brT ?_ ?_))))
    · show ((((m.ls.length + 1 : Nat) : Int) + 1) == _) = true
      rw [beq_iff_eq]; omega
    · show (((q : Int) + 2) == IntKind.wrap .i64 ((q : Int) + 2)) = true
      rw [w64_in (by unfold I64; omega)]; exact beq_self_eq_true _
    · refine brE (fun _ => holds gg rfl) fun c3 => brE (fun _ => holds gg rfl) fun c4 => holds gg ?_
      have c3 : e ≠ 3 := c3
      have c4 : e ≠ 12 := c4
      show (e == 6) = true
      rw [beq_iff_eq]; omega
set_option maxRecDepth 20000 in
set_option maxHeartbeats 2000000 in
theorem law21_LeapBack.cl {w : World} {m : Tb} {s : Sl} {at_ : Int} (hR : RowsP w s m.ls) (hI : ∀ l ∈ m.ls, I64 l.1 ∧ I64 l.2) (hm : I64 m.st ∧ I64 m.ah ∧ I64 m.en) (hd : I64 at_) :
    clS Tryd.prog F.law21_LeapBack [vT m s, .int .i64 at_] w false RB1 (Holds w) := by
  refine law21_LeapBack.ok ?_
  unfold law21_LeapBack.wp
  have hl := hR.len
  rw [lit_lf, lit_nil, lit_cmt]
  refine alK_by fun p1 w2 e1 k1 u1 => law21_alive.cl fun w4 u4 => brF rfl ?_
  have k4 := k1.gro u4
  have g4 := u1.trans u4
  refine k4.c1 3 (c := .sl) (x := s) rfl (brD (fun c => holds g4 rfl) fun c => ?_)
  have c : ¬ (s.2.1 : Int) > 64 := c
  refine ldTb k4 (law21_made.cl (m := m) (hR.gro g4) (by omega) hI (fun hne w8 u8 => ?_) fun he b w8 hb hT u8 => ?_)
  · exact brN (fun _ => holds (g4.trans u8) rfl) fun c2 => absurd (show errT m = 0 from c2) hne
  have hg := errT_good he
  have n64 := hg.2.2.1
  have g8 := g4.trans u8
  refine brN (fun c2 => absurd rfl c2) fun _ => leap_Table_Text.cl hT hg fun w10 u10 => ?_
  have htl : (txtT m).length ≤ 20 * (lnsT m).length := flatL_len lnsT_each
  have hln := lnsT_len m
  have pb := prs_back hg
  refine leap_Parse.cl (fun a1 x1 hp1 => by rw [pb] at hp1; cases hp1) fun mx hpx bx w12 hbx hTx u12 => ?_
  rw [pb] at hpx
  injection hpx with hpx _
  injection hpx with hpx
  subst hpx
  refine ref21_Pieces.cl (a := 10) (at_ := 10) rfl (by omega) fun sl w14 R14 hs14 u14 => ?_
  rw [txtT_pcs] at R14
  have h14 := R14.len'
  rw [List.length_append, List.length_singleton, hln] at h14
  have g14 := ((g8.trans u10).trans u12).trans u14
  have k14 := (((k4.gro u8).gro u10).gro u12).gro u14
  have Tx14 := hTx.gro u14
  have bound : ∀ i : Nat, (flatL (mixL at_ ((lnsT m ++ [[]]).take i) 0)).length ≤ 4000 := fun i => by
    have h1 := flatL_len (k := 19) (mixL_len (k := at_) (i := 0) (ls := (lnsT m ++ [[]]).take i) fun l hl => lns_each' l (List.mem_of_mem_take hl))
    have h2 := mixL_num (k := at_) (ls := (lnsT m ++ [[]]).take i) (i := 0)
    rw [List.length_take, List.length_append, List.length_singleton, hln] at h2
    omega
  refine LoopT.by (fun z W => w14 = W ∧ ∃ i : Nat, z.2.1 = i ∧ i ≤ m.ls.length + 3 ∧ z.1 = ofL (flatL (mixL at_ ((lnsT m ++ [[]]).take i) 0))) (fun z => (((m.ls.length + 3 : Nat) : Int) - z.2.1).toNat) ⟨rfl, 0, rfl, by omega, by simp [mixL, flatL]⟩ ?_
  rintro ⟨zt, zi, _⟩ _ ⟨rfl, i, ei, hi, et⟩ _
  dsimp only at ei et
  subst ei et
  have bi := bound i
  refine brD (fun c => ?_) fun c => ?_
  · have c : (i : Int) < (sl.2.1 : Int) := c
    have hi' : i < (lnsT m ++ [[]]).length := by rw [List.length_append, List.length_singleton, hln]; omega
    have hx : (lnsT m ++ [[]])[i]? = some (lnsT m ++ [[]])[i] := List.getElem?_eq_getElem hi'
    have hxe := lns_each' _ (List.getElem_mem hi')
    generalize (lnsT m ++ [[]])[i] = x at hx hxe
    have tk : (lnsT m ++ [[]]).take (i + 1) = (lnsT m ++ [[]]).take i ++ [x] := by rw [List.take_add_one, hx]; rfl
    have hlt : ((lnsT m ++ [[]]).take i).length = i := by rw [List.length_take]; omega
    have ew : IntKind.wrap .i64 ((i : Int) + 1) = ((i + 1 : Nat) : Int) := by rw [w64_in (by unfold I64; omega)]; omega
    have ms := mixL_snoc (k := at_) ((lnsT m ++ [[]]).take i) x 0
    rw [← tk, hlt, Int.zero_add] at ms
    have lc : cmtL.length = 8 := rfl
    refine R14.get rfl hx (brE (fun c2 => ?_) fun c2 => ?_)
    · have c2 : (i : Int) = at_ := c2
      rw [if_pos c2] at ms
      refine saK_ofL (by simp only [List.length_append, List.length_cons, List.length_nil, lc]; omega) ?_
      rw [ofL_append]
      refine saK_ofL (by simp only [List.length_append, List.length_cons, List.length_nil, lc]; omega) ?_
      rw [ofL_append]
      refine saK_ofL (by simp only [List.length_append, List.length_cons, List.length_nil, lc]; omega) ?_
      rw [ofL_append]
      refine ⟨⟨rfl, i + 1, ew, by omega, ?_⟩, by show (((m.ls.length + 3 : Nat) : Int) - IntKind.wrap .i64 ((i : Int) + 1)).toNat < (((m.ls.length + 3 : Nat) : Int) - (i : Int)).toNat; rw [ew]; omega⟩
      show ofL _ = _
      rw [ms, flatL_append]
      simp [flatL]
    · have c2 : (i : Int) ≠ at_ := c2
      rw [if_neg c2] at ms
      refine saK_ofL (by omega) ?_
      rw [ofL_append]
      refine saK_ofL (by simp only [List.length_append, List.length_cons, List.length_nil]; omega) ?_
      rw [ofL_append]
      refine ⟨⟨rfl, i + 1, ew, by omega, ?_⟩, by show (((m.ls.length + 3 : Nat) : Int) - IntKind.wrap .i64 ((i : Int) + 1)).toNat < (((m.ls.length + 3 : Nat) : Int) - (i : Int)).toNat; rw [ew]; omega⟩
      show ofL _ = _
      rw [ms, flatL_append]
      simp [flatL]
  · have c : ¬ (i : Int) < (sl.2.1 : Int) := c
    have hi2 : i = (lnsT m ++ [[]]).length := by rw [List.length_append, List.length_singleton, hln]; omega
    have ee : (lnsT m ++ [[]]).take i = lnsT m ++ [[]] := by rw [hi2, List.take_length]
    have pm := prs_mix hg at_
    rw [ee]
    refine leap_Parse.cl (fun a1 x1 hp1 => by rw [pm] at hp1; cases hp1) fun my hpy by_ w21 hby hTy u21 => ?_
    rw [pm] at hpy
    injection hpy with hpy _
    injection hpy with hpy
    subst hpy
    have g21 := g14.trans u21
    have k21 := k14.gro u21
    have Tx := Tx14.gro u21
    refine brT rfl (brT rfl (ldTb k21 (law21_same.cl Tx (hR.gro g21) (by omega) fun w24 u24 => brT rfl (ldTb (k21.gro u24) (law21_same.cl (hTy.gro u24) (hR.gro (g21.trans u24)) (by omega) fun w27 u27 => brT rfl ?_)))))
    refine leap_Table_Text.cl ((Tx.gro u24).gro u27) hg fun w29 u29 => brS (fun _ => leap_Table_Text.cl (((hTy.gro u24).gro u27).gro u29) hg fun w31 u31 => ?_) fun c2 => absurd rfl c2
    exact holds ((((g21.trans u24).trans u27).trans u29).trans u31) ((ba_beq_iff _ _).2 rfl)
end Go.Proofs.YtfbegkddkdenbaaDoor
