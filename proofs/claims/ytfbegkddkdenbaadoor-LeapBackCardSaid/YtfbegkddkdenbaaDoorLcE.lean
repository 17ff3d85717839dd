/- The document's reading of a table of leaps (ref21): Pieces, day, small, Parse. Conditions: none. -/
import Derived.Test.YtfbegkddkdenbaaDoorLcC
namespace Go.Proofs.YtfbegkddkdenbaaDoor
open Go.Eng Go
set_option linter.unusedVariables false
set_option linter.unusedSimpArgs false

/-- strings in a row of one's own -/
abbrev OwnS (w : World) (base : Nat) (s : Sl) (ls : List Bs) : Prop := OwnR w base T.string 1 s ls.length (ls.map fun l => Value.string (ofL l))
theorem OwnS.snoc {P : Program} {t ty : TypeId} {w : World} {base b : Nat} {s : Sl} {ls : List Bs} {x : Bs} {k : Sl → World → Prop} (ht : P.underlying t = some (.slice T.string)) (hi : infoOk P T.string 1 = true) (h : OwnS w base s ls) (hB : Blk w b [.string (ofL x)]) (hn : ls.length ≤ 100000000) (hbase : base ≤ w.heap.size)
    (hk : ∀ s' w', OwnS w' base s' (ls ++ [x]) → Upd (fun b => ∃ a, s.1 = some a ∧ a.block = b) w w' → k s' w') :
    slOf ((Builtin.append_ #[t, t] ty #[.slice s.1 s.2.1 s.2.2, .slice (some ⟨b, 0, none⟩) 1 1]).run P w) k := by
  refine ap_own (s := s) (x := (some ⟨b, 0, none⟩, 1, 1)) (e := T.string) (size := 1) (base := base) (n := ls.length) (xs := ls.map fun l => Value.string (ofL l)) (news := [.string (ofL x)]) ht hi (by decide) h
    ⟨rfl, fun _ => ⟨_, rfl, hB.news⟩⟩ ?_ (by show ls.length + 1 ≤ _; omega) hbase fun s' w16 o16 u16 hb => ?_
  · intro u hu
    rw [List.mem_singleton.1 hu]; rfl
  · refine hk s' w16 ?_ u16
    unfold OwnS
    rw [List.length_append, List.map_append]
    simpa using o16
theorem take_drop_snoc {l : Bs} {f i : Nat} {c : UInt8} (h : l[i]? = some c) (hf : f ≤ i) : (l.take (i + 1)).drop f = (l.take i).drop f ++ [c] := snoc_take h hf
theorem drop_split {l : Bs} {f i : Nat} {c : UInt8} (h : l[i]? = some c) (hf : f ≤ i) : l.drop f = (l.take i).drop f ++ c :: l.drop (i + 1) := by
  have hi := (List.getElem?_eq_some_iff.1 h).1
  have e : l = l.take i ++ c :: l.drop (i + 1) := by
    have := List.take_append_drop i l
    rw [List.drop_eq_getElem_cons hi] at this
    have hc : l[i] = c := by have := List.getElem?_eq_getElem hi; rw [h] at this; injection this with this; exact this.symm
    rw [hc] at this; exact this.symm
  have : (l.take i ++ c :: l.drop (i + 1)).drop f = (l.take i).drop f ++ c :: l.drop (i + 1) := List.drop_append_of_le_length (by rw [List.length_take]; omega)
  rw [← this, ← e]
set_option maxRecDepth 20000 in
set_option maxHeartbeats 1000000 in
theorem ref21_Pieces.cl {l : Bs} {a : UInt8} {at_ : Int} (ha : at_ = (a.toNat : Int)) (hl : l.length < 40000000) {w : World} {k : TR [(false, [.sl])] → World → Prop}
    (h : ∀ (s : Sl) w', RowS w' s (pcs a l) → (∀ x, s.1 = some x → w.heap.size ≤ x.block) → Gro w w' → k ((s, ()), ()) w') :
    clS Tryd.prog F.ref21_Pieces [.string (ofL l), .int .u8 at_] w false [(false, [.sl])] k := by
  subst ha
  refine ref21_Pieces.ok ?_
  unfold ref21_Pieces.wp
  rw [ofL_size]
  refine LoopT.by (fun z W => ∃ (f i : Nat) (done : List Bs), z.2.1 = f ∧ z.2.2.1 = i ∧ OwnS W w.heap.size z.1 done ∧ Gro w W ∧ done.length ≤ i ∧
      ((i ≤ l.length ∧ f ≤ i ∧ pcs a l = done ++ pcs a (l.drop f) ∧ a ∉ (l.take i).drop f) ∨ (i = l.length + 1 ∧ done = pcs a l)))
    (fun z => ((l.length : Int) + 1 - z.2.2.1).toNat) ⟨0, 0, [], rfl, rfl, OwnR.nil _ _ _ _, Gro.refl _, Nat.le_refl _, .inl ⟨Nat.zero_le _, Nat.le_refl _, rfl, by simp⟩⟩ ?_
  rintro ⟨s, zf, zi, _⟩ W ⟨f, i, done, ef, ei, hO, hG, hdn, hc⟩ _
  dsimp only at ef ei hO
  subst ef ei
  have sz := hG.size
  refine brD (fun c => ?_) fun c => ?_
  · have c : (i : Int) ≤ (l.length : Int) := c
    rcases hc with ⟨hi, hf, hp, hno⟩ | ⟨hi, _⟩
    case inr => exact absurd c (by omega)
    have ei : IntKind.wrap .i64 ((i : Int) + 1) = ((i + 1 : Nat) : Int) := by rw [w64_in (by unfold I64; omega)]; omega
    have dec : ((l.length : Int) + 1 - IntKind.wrap .i64 ((i : Int) + 1)).toNat < ((l.length : Int) + 1 - (i : Int)).toNat := by rw [ei]; omega
    refine CutT.by (fun z W' => W = W' ∧ z.1 = decide (i = l.length ∨ l[i]? = some a)) ?_ ?_
    · refine brE (fun c2 => ⟨rfl, ?_⟩) fun c2 => ?_
      · have c2 : (i : Int) = (l.length : Int) := c2
        symm; rw [decide_eq_true_iff]; exact .inl (by omega)
      · have c2 : (i : Int) ≠ (l.length : Int) := c2
        have hx : l[i]? = some (l[i]'(by omega)) := List.getElem?_eq_getElem _
        generalize l[i]'(by omega) = x at hx
        refine siK_by rfl hx ⟨rfl, ?_⟩
        refine bq ?_
        rw [beq_iff_eq, hx]
        exact ⟨fun h => .inr (by congr 1; exact UInt8.toNat_inj.1 (by omega)), fun h => by
          rcases h with h | h
          · omega
          · injection h with h; rw [h]⟩
    rintro ⟨z, _⟩ _ ⟨rfl, hz⟩ _
    dsimp only at hz
    subst hz
    refine brD (fun c2 => ?_) fun c2 => ?_
    · refine (slK_eq (by show (0 : Int) ≤ (f : Int) ∧ (f : Int) ≤ (i : Int) ∧ (i : Int) ≤ (l.length : Int); omega)).symm ▸ ?_
      show alK [.string ((ofL l).extract (Int.toNat (f : Int)) (Int.toNat (i : Int)))] _ _ _
      rw [Int.toNat_natCast, Int.toNat_natCast, ofL_extract]
      refine alK_by fun p8 w9 e8 k8 u8 => OwnS.snoc (base := w.heap.size) (ls := done) (x := (l.take i).drop f) (by kernel_rfl) (by kernel_rfl) (OwnR.gro hO u8) k8 (by omega) (by have := u8.size; omega) fun s' w11 o11 u11 => ?_
      refine ⟨⟨i + 1, i + 1, done ++ [(l.take i).drop f], ei, ei, o11, ?_, by simp; omega, ?_⟩, dec⟩
      · refine Upd.trans (hG.trans u8) u11 fun j hj ⟨a0, h0, h1⟩ => ?_
        have := (OwnR.blk hO h0).1; omega
      · rcases Nat.lt_or_ge i l.length with hlt | hge
        · have hx : l[i]? = some a := by rcases c2 with h | h; omega; exact h
          refine .inl ⟨by omega, Nat.le_refl _, ?_, by simp⟩
          rw [hp, drop_split hx hf, pcs_cut _ hno]; simp
        · have hi2 : i = l.length := by omega
          subst hi2
          refine .inr ⟨rfl, ?_⟩
          rw [List.take_length] at hno
          rw [hp, List.take_length, pcs_one hno]
    · have hi2 : i < l.length := by
        rcases Nat.lt_or_ge i l.length with h | h
        · exact h
        · exact absurd (.inl (by omega)) c2
      have hx : l[i]? = some l[i] := List.getElem?_eq_getElem hi2
      generalize l[i] = x at hx
      have hxa : x ≠ a := fun e => c2 (.inr (by rw [hx, e]))
      refine ⟨⟨f, i + 1, done, rfl, ei, hO, hG, by omega, .inl ⟨by omega, by omega, hp, ?_⟩⟩, dec⟩
      rw [take_drop_snoc hx hf]
      simp [hno, Ne.symm hxa]
  · have c : ¬ (i : Int) ≤ (l.length : Int) := c
    rcases hc with ⟨hi, _⟩ | ⟨hi, hd⟩
    · omega
    · subst hd
      exact h s W (OwnR.row hO) (fun x hx => (OwnR.blk hO hx).1) hG
theorem ref21_day.cl {l : Bs} {w : World} {k : TR [(false, [.i .i64]), (false, [.b])] → World → Prop} (h0 : dayW l = none → ∀ w', Gro w w' → k ((0, ()), (false, ()), ()) w') (h1 : ∀ n, dayW l = some n → ∀ w', Gro w w' → k ((n, ()), (true, ()), ()) w') :
    clS Tryd.prog F.ref21_day [.string (ofL l)] w true [(false, [.i .i64]), (false, [.b])] k := by
  refine ref21_day.ok ?_
  unfold ref21_day.wp
  refine ref20_Parse.cl (fun hn w2 u2 => ?_) fun d hd w2 u2 => ?_
  · refine alK_by fun p3 w4 e3 k3 u4 => k3.sta _ rfl rfl fun w5 k5 u5 => brT rfl ?_
    exact h0 (by unfold dayW; rw [hn]) w5 (u2.trans (Gro.fresh (Gro.refl _) u4 u5 e3))
  · refine alK_by fun p3 w4 e3 k3 u4 => k3.sta _ rfl rfl fun w5 k5 u5 => brF rfl ?_
    have g5 : Gro w w5 := u2.trans (Gro.fresh (Gro.refl _) u4 u5 e3)
    refine Blk.ld3 k5 (ref20_Number.cl (d := d) (prsD_good hd) fun w8 u8 => ?_)
    exact h1 _ (by unfold dayW; rw [hd]) w8 (g5.trans u8)
def smallL (l : Bs) : Int := if plainL l then (valD l : Int) else -1
theorem smallL_neg {l : Bs} : smallL l < 0 ↔ ¬ plainL l := by
  unfold smallL; split <;> rename_i h <;> simp [h]
theorem ref21_small.cl {l : Bs} {w : World} {k : TR RI1 → World → Prop} (h : k ((smallL l, ()), ()) w) : clS Tryd.prog F.ref21_small [.string (ofL l)] w false RI1 k := by
  refine ref21_small.ok ?_
  unfold ref21_small.wp
  refine LoopT.by (fun z W => w = W ∧ ∃ n : Nat, z.1 = n ∧ n ≤ 100 ∧ ∀ m, m < n → decS m ≠ l) (fun z => (100 - z.1).toNat) ⟨rfl, 0, rfl, by omega, fun m hm => by omega⟩ ?_
  rintro ⟨z, _⟩ _ ⟨rfl, n, ez, hn, hno⟩ _
  dsimp only at ez
  subst ez
  refine brD (fun c => ?_) fun c => ?_
  · have c : (n : Int) < 100 := c
    refine strconv_Itoa.cl (n := n) (by omega) (brS (fun c2 => ?_) fun c2 => ?_)
    · have hp : plainL l := c2 ▸ decS_plain (by omega)
      have hv : valD l = n := by rw [← c2]; exact decS_val (by omega)
      have e : smallL l = (n : Int) := by unfold smallL; rw [if_pos hp, hv]
      rw [e] at h; exact h
    · have ei : IntKind.wrap .i64 ((n : Int) + 1) = ((n + 1 : Nat) : Int) := by rw [w64_in (by unfold I64; omega)]; omega
      refine ⟨⟨rfl, n + 1, ei, by omega, fun m hm => ?_⟩, ?_⟩
      · rcases Nat.lt_or_ge m n with h | h
        · exact hno m h
        · have : m = n := by omega
          subst this; exact c2
      · show (100 - IntKind.wrap .i64 ((n : Int) + 1)).toNat < (100 - (n : Int)).toNat
        rw [ei]; omega
  · have c : ¬ (n : Int) < 100 := c
    have e : smallL l = -1 := by
      unfold smallL; rw [if_neg]
      intro hp
      obtain ⟨h1, h2⟩ := plain_dec hp
      exact hno (valD l) (by omega) h2.symm
    rw [e] at h; exact h
end Go.Proofs.YtfbegkddkdenbaaDoor
