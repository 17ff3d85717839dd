/- Contracts of layers 2 and 16: a Sync's frame; a flood forgets, hears, beats, tells its time. Conditions: none. -/
import Derived.Test.YtahojpppjpfjmaaGreatCflo2
import Derived.Test.YtahojpppjpfjmaaGreatCglo2
namespace Go.Proofs.YtahojpppjpfjmaaGreat
open Go.Eng Go
set_option linter.unusedVariables false
set_option linter.unusedSimpArgs false

/-! ### a Sync: node, root, boot, seq, hops, time -/
abbrev KS : List CK := [.i .i64, .i .i64, .i .u16, .i .u16, .i .i64, .i .i64]
abbrev S6 := Int × Int × Int × Int × Int × Int
def tS (s : S6) : Tvs KS := (s.1, s.2.1, s.2.2.1, s.2.2.2.1, s.2.2.2.2.1, s.2.2.2.2.2, ())
def flS (s : S6) : List E3 := [(1, s.1, 63), (1, s.2.1, 63), (2, IntKind.wrap .i64 s.2.2.1, 65535), (2, IntKind.wrap .i64 s.2.2.2.1, 65535), (1, s.2.2.2.2.1, 63), (8, s.2.2.2.2.2, 1125899906842624)]
abbrev vS (s : S6) : Value := .agg #[.int .i64 s.1, .int .i64 s.2.1, .int .u16 s.2.2.1, .int .u16 s.2.2.2.1, .int .i64 s.2.2.2.2.1, .int .i64 s.2.2.2.2.2]

theorem frame_short.clw {n : Int} {w : World} {k : TR [(true, [.i .i64, .i .i64, .i .i64])] → World → Prop} (h : ∀ w', Gro w w' → k ((2, IntKind.wrap .i64 n, 65535, ()), ()) w') : clS Tryz.prog F.frame_short [.int .u16 n] w false [(true, [.i .i64, .i .i64, .i .i64])] k := by
  refine frame_short.ok ?_
  unfold frame_short.wp
  exact alK_by fun p w2 e k1 u1 => k1.sta _ rfl rfl fun w3 k3 u3 => k3.ld3 (h w3 (Gro.fresh (Gro.refl _) u1 u3 e))
theorem frame_hops.cl {n : Int} {w : World} {k : TR [(true, [.i .i64, .i .i64, .i .i64])] → World → Prop} (h : ∀ w', Gro w w' → k ((1, n, 63, ()), ()) w') : clS Tryz.prog F.frame_hops [.int .i64 n] w false [(true, [.i .i64, .i .i64, .i .i64])] k := by
  refine frame_hops.ok ?_
  unfold frame_hops.wp
  exact alK_by fun p w2 e k1 u1 => k1.sta _ rfl rfl fun w3 k3 u3 => k3.ld3 (h w3 (Gro.fresh (Gro.refl _) u1 u3 e))

set_option maxRecDepth 20000 in
theorem frame_Sync_fields.cl {s : S6} {w : World} {k : TR [(false, [.sl])] → World → Prop} (h : ∀ q w', Gro w w' → Ents w' q (flS s) → k ((q, ()), ()) w') : clS Tryz.prog F.frame_Sync_fields [vS s] w false [(false, [.sl])] k := by
  refine frame_Sync_fields.ok ?_
  unfold frame_Sync_fields.wp
  refine alK_by fun p1 w2 e1 k1 u1 => ?_
  rw [drK_eq]
  have k3 := k1.drew
  have hold : ∀ {w' : World}, Gro w2.drew w' → Hold [(16, (Addr.add ⟨p1, 0, none⟩ 5), (w2.drew.cell? (Addr.add ⟨p1, 0, none⟩ 5)).getD undef), (13, (Addr.add ⟨p1, 0, none⟩ 4), (w2.drew.cell? (Addr.add ⟨p1, 0, none⟩ 4)).getD undef), (10, (Addr.add ⟨p1, 0, none⟩ 3), (w2.drew.cell? (Addr.add ⟨p1, 0, none⟩ 3)).getD undef), (7, (Addr.add ⟨p1, 0, none⟩ 2), (w2.drew.cell? (Addr.add ⟨p1, 0, none⟩ 2)).getD undef), (4, (Addr.add ⟨p1, 0, none⟩ 1), (w2.drew.cell? (Addr.add ⟨p1, 0, none⟩ 1)).getD undef), (1, ⟨p1, 0, none⟩, (w2.drew.cell? ⟨p1, 0, none⟩).getD undef)] w' :=
    fun u => ⟨k3.hold u (fun x => x) 5 (by simp), k3.hold u (fun x => x) 4 (by simp), k3.hold u (fun x => x) 3 (by simp), k3.hold u (fun x => x) 2 (by simp), k3.hold u (fun x => x) 1 (by simp), k3.hold u (fun x => x) 0 (by simp), trivial⟩
  refine k3.c0 rfl (k3.c1 1 rfl (k3.c1 2 rfl (k3.c1 3 rfl (k3.c1 4 rfl (k3.c1 5 rfl ?_)))))
  refine frame_node.cl fun w11 u11 => ⟨hold u11, frame_node.cl fun w13 u13 => ⟨hold (u11.trans u13), frame_short.clw fun w15 u15 => ⟨hold ((u11.trans u13).trans u15), ?_⟩⟩⟩
  have g15 := (u11.trans u13).trans u15
  refine frame_short.clw fun w17 u17 => ⟨hold (g15.trans u17), frame_hops.cl fun w19 u19 => ⟨hold ((g15.trans u17).trans u19), frame_time.cl fun w21 u21 => ⟨hold (((g15.trans u17).trans u19).trans u21), ?_⟩⟩⟩
  have g21 := ((g15.trans u17).trans u19).trans u21
  refine alK_by fun p22 w23 e22 k22 u22 => ⟨hold (g21.trans u22), h (some ⟨p22, 0, none⟩, 6, 6) w23 (((Upd.drew u1).trans g21 fun _ _ x => x).trans u22 fun _ _ x => x) (ents_new k22 rfl rfl)⟩

theorem frame_kind_of_frame_Sync.cl {v : Value} {s : S6} (hv : v = vS s) {w : World} {k : TR [(false, [.i .u8])] → World → Prop} (h : k ((1, ()), ()) w) : clS Tryz.prog F.frame_kind [.iface T.frame_Sync v] w false [(false, [.i .u8])] k := by
  subst hv
  refine frame_kind_of_frame_Sync.ok ?_
  unfold frame_kind_of_frame_Sync.wp
  exact h

set_option maxRecDepth 20000 in
theorem frame_Good_of_frame_Sync.cl {s : S6} {w : World} {k : TR [(false, [.b])] → World → Prop} (h : ∀ w', Gro w w' → k ((okF (flS s), ()), ()) w') : clS Tryz.prog F.frame_Good [.iface T.frame_Sync (vS s)] w false [(false, [.b])] k := by
  refine frame_Good_of_frame_Sync.ok ?_
  unfold frame_Good_of_frame_Sync.wp
  refine frame_kind_of_frame_Sync.cl (s := s) rfl (brF rfl (frame_Sync_fields.cl (s := s) fun q w4 u4 hE => ?_))
  have hl := hE.len
  have h6 : (flS s).length = 6 := rfl
  refine LoopT.by (fun z w' => Gro w4 w' ∧ ∃ i : Nat, z = ((i : Int), ()) ∧ i ≤ (flS s).length ∧ ∀ e ∈ (flS s).take i, inF e = true) (fun z => (1000 - z.1).toNat) ⟨Gro.refl _, 0, rfl, by omega, by simp⟩ ?_
  rintro z w7 ⟨g, i, rfl, hi, hgood⟩ _
  have out : ∀ w', Gro w4 w' → okF (flS s) = false → k ((false, ()), ()) w' := fun w' g h0 => by
    have := h w' (u4.trans g)
    rw [h0] at this; exact this
  refine brD (fun c => ?_) fun c => ?_
  · have hi' : i < (flS s).length := by have c : (i : Int) < (q.2.1 : Int) := c; omega
    have he : (flS s)[i]? = some (flS s)[i] := List.getElem?_eq_getElem hi'
    generalize (flS s)[i] = e at he
    have hE7 := hE.gro g
    refine hE7.ix (z := (i : Int)) rfl he fun ad ha => hE7.ldN ha he ?_
    refine alK_by fun p10 w11 e10 k10 u11 => k10.sta _ rfl rfl fun w12 k12 u12 => k12.i1 1 rfl ?_
    have g12 := Gro.fresh g u11 u12 e10
    refine brD (fun c => out w12 g12 (okF_no he ?_)) fun c1 => k12.i1 1 rfl (k12.i1 2 rfl (brD (fun c => out w12 g12 (okF_no he ?_)) fun c2 => ⟨⟨g12, i + 1, ?_, by omega, ?_⟩, ?_⟩))
    · have c : e.2.1 < 0 := c
      cases hb : inF e
      · rfl
      · have := inF_iff.1 hb; omega
    · have c : e.2.1 > e.2.2 := c
      cases hb : inF e
      · rfl
      · have := inF_iff.1 hb; omega
    · show (IntKind.wrap .i64 ((i : Int) + 1), ()) = _
      rw [w64_in (by unfold I64; omega)]; rfl
    · have c1 : ¬ e.2.1 < 0 := c1
      have c2 : ¬ e.2.1 > e.2.2 := c2
      rw [List.take_add_one, he]
      intro x hx
      rcases List.mem_append.1 hx with hx | hx
      · exact hgood x hx
      · have : x = e := by simpa using hx
        subst this
        exact inF_iff.2 ⟨by omega, by omega⟩
    · show (1000 - IntKind.wrap .i64 ((i : Int) + 1)).toNat < (1000 - (i : Int)).toNat
      rw [w64_in (by unfold I64; omega)]; omega
  · have hi' : i = (flS s).length := by have c : ¬ (i : Int) < (q.2.1 : Int) := c; omega
    subst hi'
    rw [List.take_length] at hgood
    have := h w7 (u4.trans g)
    rw [okF_take hgood] at this
    exact this

/-! ### a flood and its blocks -/
abbrev fpre (be : Nat) (f : Fl) : List Value := [.pointer (some ⟨be, 0, none⟩), .int .i64 f.me, .int .i64 f.tmo, .int .i64 f.ign, .int .i64 f.need, .int .i64 f.drift]
abbrev fpost (f : Fl) : List Value := [.int .i64 f.ll, .int .i64 f.lg, .int .i64 f.lh]
/-- the flood at bf, its election at be; O are the blocks that it holds -/
structure FW (w : World) (O : Nat → Prop) (bf be : Nat) (f : Fl) (e : El) (l : MkL) (es : List E3) : Prop where
  ex : ∃ r s, Blk w bf (flC be f s) ∧ ElB w be r e l ∧ OwnR w 0 T.table_Entry 3 s es.length (flat3 es) ∧ (∀ a, s.1 = some a → a.block ≠ bf ∧ a.block ≠ be ∧ a.block ≠ r ∧ O a.block) ∧ O r ∧ bf ≠ r
  ne : bf ≠ be
  obf : O bf
  obe : O be
  lt : ∀ z, O z → z < w.heap.size
  len : es.length ≤ 8
  good : ∀ x ∈ es, goodB x = true
  need : 1 ≤ f.need
theorem FW.upd {S O : Nat → Prop} {w w' : World} {bf be : Nat} {f : Fl} {e : El} {l : MkL} {es : List E3} (h : FW w O bf be f e l es) (u : Upd S w w') (hS : ∀ z, O z → ¬ S z) : FW w' O bf be f e l es := by
  obtain ⟨⟨r, s, h1, h2, h3, h4, h5, h6⟩, ne, obf, obe, lt, len, good, need⟩ := h
  exact ⟨⟨r, s, h1.upd u (hS _ obf), h2.upd u (hS _ obe) (hS _ h5), h3.upd u fun a ha => hS _ (h4 a ha).2.2.2, h4, h5, h6⟩, ne, obf, obe, fun z hz => Nat.lt_of_lt_of_le (lt z hz) u.size, len, good, need⟩
theorem FW.gro {O : Nat → Prop} {w w' : World} {bf be : Nat} {f : Fl} {e : El} {l : MkL} {es : List E3} (h : FW w O bf be f e l es) (u : Gro w w') : FW w' O bf be f e l es := h.upd u fun _ _ x => x
/-- what a call leaves: only the flood's own blocks have turned, and those it holds now are the old or new ones -/
structure Nx (O : Nat → Prop) (w : World) (O' : Nat → Prop) (w' : World) : Prop where
  u : Upd O w w'
  sub : ∀ z, O' z → O z ∨ w.heap.size ≤ z
theorem Nx.trans {O O' O'' : Nat → Prop} {w w' w'' : World} (h : Nx O w O' w') (k : Nx O' w' O'' w'') : Nx O w O'' w'' :=
  ⟨h.u.trans k.u fun i hi ho => (h.sub i ho).elim id fun x => by omega, fun z hz => (k.sub z hz).elim (h.sub z) fun x => .inr (Nat.le_trans h.u.size x)⟩
theorem Nx.gro {O O' : Nat → Prop} {w w' w'' : World} (h : Nx O w O' w') (g : Gro w' w'') : Nx O w O' w'' := ⟨h.u.gro g, h.sub⟩
theorem Nx.of {O : Nat → Prop} {w w' : World} (g : Gro w w') : Nx O w O w' := ⟨Upd.of_gro g, fun z hz => .inl hz⟩
theorem Nx.pre {O O' : Nat → Prop} {w w' w'' : World} (g : Gro w w') (h : Nx O w' O' w'') : Nx O w O' w'' := (Nx.of g).trans h
/-- another's block is as it was, and is not the flood's -/
theorem Nx.blk {O O' : Nat → Prop} {w w' : World} {b : Nat} {cs : List Value} (h : Nx O w O' w') (k : Blk w b cs) (hb : ¬ O b) : Blk w' b cs ∧ ¬ O' b :=
  ⟨k.upd h.u hb, fun x => (h.sub b x).elim hb fun y => by have := k.lt; omega⟩

theorem FW.elect {O : Nat → Prop} {w : World} {bf be : Nat} {f : Fl} {e : El} {l : MkL} {es : List E3} (h : FW w O bf be f e l es) {k : Option Addr → Prop} (hk : k (some ⟨be, 0, none⟩)) : ld1 .p ⟨bf, 0, none⟩ w k := by
  obtain ⟨r, s, h1, _⟩ := h.ex
  exact h1.c0 (c := .p) (x := some ⟨be, 0, none⟩) rfl hk
theorem FW.b {O : Nat → Prop} {w : World} {bf be : Nat} {f : Fl} {e : El} {l : MkL} {es : List E3} (h : FW w O bf be f e l es) : ∃ r s, FlB w bf be r f s e l es := by
  obtain ⟨r, s, h1, h2, h3, h4, h5⟩ := h.ex
  exact ⟨r, s, h1, h2, h3.ents, h.ne⟩
theorem FW.el {O : Nat → Prop} {w : World} {bf be : Nat} {f : Fl} {e : El} {l : MkL} {es : List E3} (h : FW w O bf be f e l es) : ∃ r, ElB w be r e l := by
  obtain ⟨r, s, h1⟩ := h.b; exact ⟨r, h1.el⟩

theorem flood_New.cw {me r0 r1 r2 r3 : Int} {w : World} {k : TR [(false, [.p]), (false, [.i .i64])] → World → Prop}
    (h0 : (me < 0 ∨ 64 ≤ me ∨ flG r0 r1 r2 r3 = false) → ∀ w', Gro w w' → k ((none, ()), (1, ()), ()) w')
    (h1 : 0 ≤ me → me < 64 → flG r0 r1 r2 r3 = true → ∀ O bf be w', FW w' O bf be ⟨me, r0, r1, r2, r3, 0, 0, 0⟩ ⟨me, r0, r1, 0, 0, -1, 0, 0⟩ [] [] → (∀ z, O z → w.heap.size ≤ z) → Gro w w' → k ((some ⟨bf, 0, none⟩, ()), (0, ()), ()) w') :
    clS Tryz.prog F.flood_New [.int .i64 me, .agg #[.int .i64 r0, .int .i64 r1, .int .i64 r2, .int .i64 r3]] w true [(false, [.p]), (false, [.i .i64])] k := by
  refine flood_New.cl h0 fun m0 m1 hg bf be m w' lf le lm hF g => h1 m0 m1 hg (fun z => z = bf ∨ z = be ∨ z = m) bf be w' ?_ ?_ g
  · have a1 := hF.blk.lt
    have a2 := hF.el.blk.lt
    have a3 := hF.el.map.lt
    refine ⟨⟨m, (none, 0, 0), hF.blk, hF.el, OwnR.nil _ _ _ _, (fun a h => by cases h), .inr (.inr rfl), MapT.ne hF.el.map hF.blk⟩, hF.ne, .inl rfl, .inr (.inl rfl), ?_, by simp, by simp, (flG_iff.1 hg).2.1⟩
    rintro z (rfl | rfl | rfl) <;> assumption
  · rintro z (rfl | rfl | rfl) <;> assumption

theorem flood_Flood_Synced.cw {O : Nat → Prop} {bf be : Nat} {f : Fl} {e : El} {l : MkL} {es : List E3} {w : World} (hF : FW w O bf be f e l es) {k : TR [(false, [.b])] → World → Prop}
    (h : ∀ w', Gro w w' → k ((synF f e es.length, ()), ()) w') : clS Tryz.prog F.flood_Flood_Synced [.pointer (some ⟨bf, 0, none⟩)] w false [(false, [.b])] k := by
  obtain ⟨r, s, hb⟩ := hF.b
  exact flood_Flood_Synced.cl hb h
theorem elect_Elect_Mine.cw {O : Nat → Prop} {bf be : Nat} {f : Fl} {e : El} {l : MkL} {es : List E3} {w : World} (hF : FW w O bf be f e l es) {k : TR [(false, [.b])] → World → Prop}
    (h : ∀ w', Gro w w' → k ((mine e, ()), ()) w') : clS Tryz.prog F.elect_Elect_Mine [.pointer (some ⟨be, 0, none⟩)] w false [(false, [.b])] k := by
  obtain ⟨r, hb⟩ := hF.el
  exact elect_Elect_Mine.cl hb h
theorem elect_Elect_Root.cw {O : Nat → Prop} {bf be : Nat} {f : Fl} {e : El} {l : MkL} {es : List E3} {w : World} (hF : FW w O bf be f e l es) {k : TR [(false, [.i .i64])] → World → Prop}
    (h : k ((e.root, ()), ()) w) : clS Tryz.prog F.elect_Elect_Root [.pointer (some ⟨be, 0, none⟩)] w false [(false, [.i .i64])] k := by
  obtain ⟨r, hb⟩ := hF.el
  exact elect_Elect_Root.cl hb h
def fgF (f : Fl) : Fl := { f with ll := 0, lg := 0, lh := 0 }
set_option maxRecDepth 20000 in
theorem flood_Flood_forget.cw {O : Nat → Prop} {bf be : Nat} {f : Fl} {e : El} {l : MkL} {es : List E3} {w : World} (hF : FW w O bf be f e l es) {k : TR [] → World → Prop}
    (h : ∀ w' O', FW w' O' bf be (fgF f) e l [] → Nx O w O' w' → k () w') : clS Tryz.prog F.flood_Flood_forget [.pointer (some ⟨bf, 0, none⟩)] w true [] k := by
  refine flood_Flood_forget.ok ?_
  unfold flood_Flood_forget.wp
  obtain ⟨r, s, h1, h2, h3, h4, h5, h6⟩ := hF.ex
  rw [ncK_eq]
  have hT : TabG w 0 bf (fpre be f) (fpost f) s es := ⟨h1, h3, hF.len, fun a ha => (h4 a ha).1⟩
  refine table_Table_Clear.clG (fpre be f) (fpost f) hT fun w3 T3 u3 => ?_
  rw [ncK_eq]
  have k3 : Blk w3 bf (flC be f (none, 0, 0)) := T3.1
  refine k3.sN 7 _ (by simp [flC]) rfl fun w5 k5 u5 => ?_
  have U : Upd (fun z => z = bf) w w5 := Upd.trans u3 u5 fun _ _ h => h
  refine h w5 O ⟨⟨r, (none, 0, 0), k5, h2.upd U (fun h => hF.ne h.symm) (fun h => h6 h.symm), OwnR.nil _ _ _ _, (fun a h => by cases h), h5, h6⟩, hF.ne, hF.obf, hF.obe, fun z hz => Nat.lt_of_lt_of_le (hF.lt z hz) U.size, by simp, by simp, hF.need⟩ ⟨U.mono fun z hz => by rw [hz]; exact hF.obf, fun z hz => .inl hz⟩
end Go.Proofs.YtahojpppjpfjmaaGreat
