/- Contracts of layer 16: a flood hears, beats, tells its time. Conditions: none. -/
import Derived.Test.YtahojpppjpfjmaaGreatCflo3
namespace Go.Proofs.YtahojpppjpfjmaaGreat
open Go.Eng Go
set_option linter.unusedVariables false
set_option linter.unusedSimpArgs false

theorem addL_good {es : List E3} {x : E3} (h : ∀ y ∈ es, goodB y = true) (hx : goodB x = true) : ∀ y ∈ addL es x, goodB y = true := by
  intro y hy
  unfold addL at hy
  split at hy
  · exact h y hy
  · rcases List.mem_append.1 (List.mem_of_mem_drop hy) with h' | h'
    · exact h y h'
    · have : y = x := by simpa using h'
      subst this; exact hx
set_option maxRecDepth 20000 in
theorem FW.add {O : Nat → Prop} {bf be : Nat} {f : Fl} {e : El} {l : MkL} {es : List E3} {x : E3} {w : World} (hF : FW w O bf be f e l es) (hx : goodB x = true) {k : TR [(false, [.i .i64])] → World → Prop}
    (h : ∀ w' O', FW w' O' bf be f e l (addL es x) → Nx O w O' w' → k ((addN es x, ()), ()) w') :
    clS Tryz.prog F.table_Table_Add [.pointer (some (Addr.add ⟨bf, 0, none⟩ 6)), .agg #[.int .i64 x.1, .int .i64 x.2.1, .int .i64 x.2.2]] w false [(false, [.i .i64])] k := by
  obtain ⟨r, s, h1, h2, h3, h4, h5, h6⟩ := hF.ex
  have hT : TabG w 0 bf (fpre be f) (fpost f) s es := ⟨h1, h3, hF.len, fun a ha => (h4 a ha).1⟩
  have lb := h1.lt
  have le := h2.blk.lt
  have lr := h2.map.lt
  refine table_Table_Add.clG (fpre be f) (fpost f) hT (Nat.zero_le _) fun s' w' T' u' hs => ?_
  obtain ⟨t1, t2, t3, t4⟩ := T'
  have no : ∀ a, s.1 = some a → O a.block := fun a ha => (h4 a ha).2.2.2
  refine h w' (fun z => O z ∨ ∃ a, s'.1 = some a ∧ a.block = z) ⟨⟨r, s', t1, h2.upd u' ?_ ?_, t2, fun a ha => ?_, .inl h5, h6⟩, hF.ne, .inl hF.obf, .inl hF.obe, ?_, t3, addL_good hF.good hx, hF.need⟩ ⟨u'.mono ?_, ?_⟩
  · rintro (h | ⟨a, ha, h⟩)
    · exact hF.ne h.symm
    · exact (h4 a ha).2.1 h
  · rintro (h | ⟨a, ha, h⟩)
    · exact h6 h.symm
    · exact (h4 a ha).2.2.1 h
  · refine ⟨t4 a ha, ?_, ?_, .inr ⟨a, ha, rfl⟩⟩
    · rcases hs a ha with ⟨a0, h0, e0⟩ | hh
      · rw [e0]; exact (h4 a0 h0).2.1
      · omega
    · rcases hs a ha with ⟨a0, h0, e0⟩ | hh
      · rw [e0]; exact (h4 a0 h0).2.2.1
      · omega
  · rintro z (hz | ⟨a, ha, rfl⟩)
    · exact Nat.lt_of_lt_of_le (hF.lt z hz) u'.size
    · exact (t2.blk ha).2.1
  · rintro z (rfl | ⟨a, ha, rfl⟩)
    · exact hF.obf
    · exact no a ha
  · rintro z (hz | ⟨a, ha, rfl⟩)
    · exact .inl hz
    · rcases hs a ha with ⟨a0, h0, e0⟩ | hh
      · left; rw [e0]; exact no a0 h0
      · exact .inr hh
set_option maxRecDepth 20000 in
theorem FW.clear {O : Nat → Prop} {bf be : Nat} {f : Fl} {e : El} {l : MkL} {es : List E3} {w : World} (hF : FW w O bf be f e l es) {k : TR [] → World → Prop}
    (h : ∀ w' O', FW w' O' bf be f e l [] → Nx O w O' w' → k () w') : clS Tryz.prog F.table_Table_Clear [.pointer (some (Addr.add ⟨bf, 0, none⟩ 6))] w true [] k := by
  obtain ⟨r, s, h1, h2, h3, h4, h5, h6⟩ := hF.ex
  have hT : TabG w 0 bf (fpre be f) (fpost f) s es := ⟨h1, h3, hF.len, fun a ha => (h4 a ha).1⟩
  refine table_Table_Clear.clG (fpre be f) (fpost f) hT fun w3 T3 u3 => ?_
  refine h w3 O ⟨⟨r, (none, 0, 0), T3.1, h2.upd u3 (fun h => hF.ne h.symm) (fun h => h6 h.symm), OwnR.nil _ _ _ _, (fun a h => by cases h), h5, h6⟩, hF.ne, hF.obf, hF.obe, fun z hz => Nat.lt_of_lt_of_le (hF.lt z hz) u3.size, by simp, by simp, hF.need⟩ ⟨u3.mono fun z hz => by rw [hz]; exact hF.obf, fun z hz => .inl hz⟩
set_option maxRecDepth 20000 in
/-- the three ints of the last word, written -/
theorem FW.last {O : Nat → Prop} {bf be : Nat} {f : Fl} {e : El} {l : MkL} {es : List E3} {a b c : Int} {w : World} (hF : FW w O bf be f e l es) {k : World → Prop}
    (h : ∀ w' O', FW w' O' bf be { f with ll := a, lg := b, lh := c } e l es → Nx O w O' w' → k w') : stN [.int .i64 a, .int .i64 b, .int .i64 c] (Addr.add ⟨bf, 0, none⟩ 7) 0 w k := by
  obtain ⟨r, s, h1, h2, h3, h4, h5, h6⟩ := hF.ex
  refine h1.sN 7 _ (by simp [flC]) rfl fun w5 k5 u5 => ?_
  refine h w5 O ⟨⟨r, s, k5, h2.upd u5 (fun h => hF.ne h.symm) (fun h => h6 h.symm), h3.upd u5 fun a ha h => (h4 a ha).1 h, h4, h5, h6⟩, hF.ne, hF.obf, hF.obe, fun z hz => Nat.lt_of_lt_of_le (hF.lt z hz) u5.size, hF.len, hF.good, hF.need⟩ ⟨u5.mono fun z hz => by rw [hz]; exact hF.obf, fun z hz => .inl hz⟩

/-! ### hear -/
def okH (s : S6) (loc : Int) : Bool := decide (0 ≤ s.2.2.2.2.1) && decide (s.2.2.2.2.1 < 63) && decide (0 ≤ loc) && decide (loc ≤ 1125899906842624) && decide (0 ≤ s.2.2.2.2.2) && decide (s.2.2.2.2.2 ≤ 1125899906842624)
theorem okH_iff {s : S6} {loc : Int} : okH s loc = true ↔ 0 ≤ s.2.2.2.2.1 ∧ s.2.2.2.2.1 < 63 ∧ 0 ≤ loc ∧ loc ≤ 1125899906842624 ∧ 0 ≤ s.2.2.2.2.2 ∧ s.2.2.2.2.2 ≤ 1125899906842624 := by unfold okH; simp [and_assoc]
def mrk (s : S6) : Tvs MK := (s.2.2.1, s.2.2.2.1, ())
def hrF (e : El) (l : MkL) (s : S6) (loc : Int) : Int := if okH s loc = true then hrN e l s.2.1 (mrk s) else 0
def entF (s : S6) (loc : Int) : E3 := (loc, IntKind.wrap .i64 (s.2.2.2.2.2 - loc), IntKind.wrap .i64 (s.2.2.2.2.1 + 1))
def adF (es : List E3) (x : E3) : List E3 := if addN es x = 0 then addL es x else [x]
/-- the entries behind an accepted word -/
def esF (c : Int) (es : List E3) (s : S6) (loc : Int) : List E3 := adF (if c = 2 then [] else es) (entF s loc)
def hfF (f : Fl) (s : S6) (loc : Int) : Fl := { f with ll := loc, lg := s.2.2.2.2.2, lh := IntKind.wrap .i64 (s.2.2.2.2.1 + 1) }
theorem entF_good {s : S6} {loc : Int} (h : okH s loc = true) : goodB (entF s loc) = true := by
  have h := okH_iff.1 h
  have e : entF s loc = (loc, s.2.2.2.2.2 - loc, s.2.2.2.2.1 + 1) := by
    unfold entF; rw [w64_in (by unfold I64; omega), w64_in (by unfold I64; omega)]
  rw [e]
  unfold goodB
  simp
  omega
theorem adF_one {x : E3} (h : goodB x = true) : addL [] x = [x] := by
  unfold addL tooOld; simp [h]

set_option maxRecDepth 20000 in
set_option maxHeartbeats 1000000 in
theorem flood_Flood_Hear.cw {O : Nat → Prop} {bf be : Nat} {f : Fl} {e : El} {l : MkL} {es : List E3} {s : S6} {loc : Int} {w : World} (hF : FW w O bf be f e l es) {k : TR [(false, [.i .i64])] → World → Prop}
    (h0 : hrF e l s loc = 0 → ∀ w', Gro w w' → k ((0, ()), ()) w')
    (h1 : ∀ c, hrF e l s loc = c → c ≠ 0 → okH s loc = true → ∀ w' O', FW w' O' bf be (hfF f s loc) (hrE e s.2.1) (mset l s.2.1 (mrk s)) (esF c es s loc) → Nx O w O' w' → k ((c, ()), ()) w') :
    clS Tryz.prog F.flood_Flood_Hear [.pointer (some ⟨bf, 0, none⟩), vS s, .int .i64 loc] w false [(false, [.i .i64])] k := by
  refine flood_Flood_Hear.ok ?_
  unfold flood_Flood_Hear.wp
  refine alK_by fun p1 w2 e1 k1 u1 => brF rfl ?_
  have l1 := k1.lt
  have no : okH s loc = false → k ((0, ()), ()) w2 := fun h => h0 (by unfold hrF; rw [h]; rfl) w2 u1
  have bad : ¬ (0 ≤ s.2.2.2.2.1 ∧ s.2.2.2.2.1 < 63 ∧ 0 ≤ loc ∧ loc ≤ 1125899906842624 ∧ 0 ≤ s.2.2.2.2.2 ∧ s.2.2.2.2.2 ≤ 1125899906842624) → k ((0, ()), ()) w2 := fun h => no (by
    cases ho : okH s loc
    · rfl
    · exact absurd (okH_iff.1 ho) h)
  refine k1.i1 4 rfl (brD (fun c => bad (by have c : s.2.2.2.2.1 < 0 := c; omega)) fun c1 => k1.i1 4 rfl (brD (fun c => bad (by have c : s.2.2.2.2.1 ≥ 63 := c; omega)) fun c2 => ?_))
  refine brD (fun c => bad (by have c : loc < 0 := c; omega)) fun c3 => brD (fun c => bad (by have c : loc > 1125899906842624 := c; omega)) fun c4 => ?_
  refine k1.i1 5 rfl (brD (fun c => bad (by have c : s.2.2.2.2.2 < 0 := c; omega)) fun c5 => k1.i1 5 rfl (brD (fun c => bad (by have c : s.2.2.2.2.2 > 1125899906842624 := c; omega)) fun c6 => ?_))
  have ok : okH s loc = true := okH_iff.2 ⟨by have c : ¬ s.2.2.2.2.1 < 0 := c1; omega, by have c : ¬ s.2.2.2.2.1 ≥ 63 := c2; omega, by have c : ¬ loc < 0 := c3; omega, by have c : ¬ loc > 1125899906842624 := c4; omega, by have c : ¬ s.2.2.2.2.2 < 0 := c5; omega, by have c : ¬ s.2.2.2.2.2 > 1125899906842624 := c6; omega⟩
  clear c1 c2 c3 c4 c5 c6 bad no
  have hN : hrF e l s loc = hrN e l s.2.1 (mrk s) := by unfold hrF; rw [if_pos ok]
  have hx := entF_good ok
  rw [drK_eq, ncK_eq]
  have F7 := (hF.gro u1).gro (Gro.drew _)
  have g7 : Gro w w2.drew := u1.trans (Gro.drew _)
  have k7 := k1.drew
  refine F7.elect (k7.c1 1 rfl (k7.c1 2 rfl (k7.c1 3 rfl ?_)))
  obtain ⟨⟨r, sl, f1, f2, f3, f4, f5, f6⟩, fne, fobf, fobe, flt, flen, fgood, fneed⟩ := F7
  have np1 : ¬ O p1 := fun h => by have := hF.lt p1 h; omega
  have nel : ¬ elS be r p1 := by
    rintro (h | h)
    · rw [h] at np1; exact np1 fobe
    · rw [h] at np1; exact np1 f5
  refine elect_Elect_Hear.cl (m := mrk s) (root := s.2.1) f2 (fun hz w14 u14 => ⟨⟨k7.hold u14 (fun x => x) 3 (by simp), k7.hold u14 (fun x => x) 2 (by simp), trivial⟩, brT rfl (h0 (hN.trans hz) w14 (g7.trans u14))⟩) fun c hc hc0 w14 E14 u14 => ⟨⟨k7.hold u14 nel 3 (by simp), k7.hold u14 nel 2 (by simp), trivial⟩, ?_⟩
  have hc' : hrF e l s loc = c := hN.trans hc
  refine brF (beq_eq_false_iff_ne.2 hc0) ?_
  have F14 : FW w14 O bf be f (hrE e s.2.1) (mset l s.2.1 (mrk s)) es := by
    refine ⟨⟨r, sl, f1.upd u14 ?_, E14, f3.upd u14 fun a ha => ?_, f4, f5, f6⟩, fne, fobf, fobe, fun z hz => Nat.lt_of_lt_of_le (flt z hz) u14.size, flen, fgood, fneed⟩
    · rintro (h | h)
      · exact fne h
      · exact f6 h
    · rintro (h | h)
      · exact (f4 a ha).2.1 h
      · exact (f4 a ha).2.2.1 h
  have X14 : Nx O w O w14 := Nx.pre g7 ⟨u14.mono (fun z h => h.elim (fun h => by rw [h]; exact fobe) fun h => by rw [h]; exact f5), fun z hz => .inl hz⟩
  have k14 := k7.upd u14 nel
  refine CutT.by (fun _ w' => ∃ O' f', f'.me = f.me ∧ f'.tmo = f.tmo ∧ f'.ign = f.ign ∧ f'.need = f.need ∧ f'.drift = f.drift ∧ FW w' O' bf be f' (hrE e s.2.1) (mset l s.2.1 (mrk s)) (if c = 2 then [] else es) ∧ Nx O w O' w' ∧ Blk w' p1 (encs KS (tS s)) ∧ ¬ O' p1) ?_ ?_
  · refine brE (fun c2 => ?_) fun c2 => ?_
    · have c2 : c = 2 := c2
      refine flood_Flood_forget.cw F14 fun w19 O' F19 x19 => ⟨O', fgF f, rfl, rfl, rfl, rfl, rfl, by rw [if_pos c2]; exact F19, X14.trans x19, x19.blk k14 np1⟩
    · have c2 : c ≠ 2 := c2
      exact ⟨O, f, rfl, rfl, rfl, rfl, rfl, by rw [if_neg c2]; exact F14, X14, k14, np1⟩
  rintro _ w17 ⟨O', f', q1, q2, q3, q4, q5, F17, X17, k17, n17⟩ _
  clear F14 X14 k14
  refine k17.c1 5 rfl (k17.c1 4 rfl ?_)
  refine alK_by fun p22 w23 e22 k22 u22 => k22.sta _ rfl rfl fun w24 k24 u24 => ?_
  have g24 : Gro w17 w24 := Gro.fresh (Gro.refl _) u22 u24 e22
  have F24 := F17.gro g24
  have X24 := X17.gro g24
  have k24' := k17.gro g24
  change Blk w24 p22 (encs [.i .i64, .i .i64, .i .i64] ((entF s loc).1, (entF s loc).2.1, (entF s loc).2.2, ())) at k24
  have n22 : ¬ O' p22 := fun h => by have := F17.lt p22 h; omega
  refine CutT.by (fun _ w' => ∃ O'', FW w' O'' bf be f' (hrE e s.2.1) (mset l s.2.1 (mrk s)) (esF c es s loc) ∧ Nx O w O'' w' ∧ Blk w' p1 (encs KS (tS s))) ?_ ?_
  · rw [drK_eq, ncK_eq]
    refine k24.drew.ld3 ?_
    refine (F24.gro (Gro.drew _)).add hx fun w32 O2 F32 x32 => ⟨trivial, ?_⟩
    have x32' : Nx O' w24 O2 w32 := Nx.pre (Gro.drew _) x32
    have b32 := x32'.blk k24' n17
    have c32 := x32'.blk k24 n22
    refine brN (fun cn => ?_) fun cn => ?_
    · have cn : addN (if c = 2 then [] else es) (entF s loc) ≠ 0 := cn
      rw [ncK_eq]
      refine F32.clear fun w35 O3 F35 x35 => ?_
      have c35 := x35.blk c32.1 c32.2
      have b35 := x35.blk b32.1 b32.2
      rw [drK_eq, ncK_eq]
      refine c35.1.drew.ld3 ((F35.gro (Gro.drew _)).add hx fun w40 O4 F40 x40 => ⟨trivial, O4, ?_, ((X24.trans x32').trans x35).trans (Nx.pre (Gro.drew _) x40), ((Nx.pre (Gro.drew _) x40).blk b35.1 b35.2).1⟩)
      rw [adF_one hx] at F40
      unfold esF adF; rw [if_neg cn]; exact F40
    · have cn : addN (if c = 2 then [] else es) (entF s loc) = 0 := cn
      refine ⟨O2, ?_, X24.trans x32', b32.1⟩
      unfold esF adF; rw [if_pos cn]; exact F32
  · rintro _ w27 ⟨O2, F27, X27, k27⟩ _
    refine k27.c1 5 rfl (k27.c1 4 rfl ?_)
    rw [ncK_eq]
    refine F27.last fun w44 O3 F44 x44 => h1 c hc' hc0 ok w44 O3 ?_ (X27.trans x44)
    have : hfF f s loc = { f' with ll := loc, lg := s.2.2.2.2.2, lh := IntKind.wrap .i64 (s.2.2.2.2.1 + 1) } := by
      unfold hfF; rw [q1, q2, q3, q4, q5]
    rw [this]; exact F44
end Go.Proofs.YtahojpppjpfjmaaGreat
