/- Contracts of layers 2 and 16: a Sync's frame; a flood forgets, hears, beats, tells its time. Conditions: none. -/
import Derived.Test.YtnjmfbjgcfnanaaGreatCflo2
import Derived.Test.YtnjmfbjgcfnanaaGreatCgloQ
namespace Go.Proofs.YtnjmfbjgcfnanaaGreat
open Go.Eng Go
set_option linter.unusedVariables false
set_option linter.unusedSimpArgs false

/-! ### a Sync: node, root, boot, seq, hops, time -/
abbrev KS : List CK := [.i .i64, .i .i64, .i .u16, .i .u16, .i .i64, .i .i64]
abbrev S6 := Int × Int × Int × Int × Int × Int
def tS (s : S6) : Tvs KS := (s.1, s.2.1, s.2.2.1, s.2.2.2.1, s.2.2.2.2.1, s.2.2.2.2.2, ())
def flS (s : S6) : List E3 := [(1, s.1, 63), (1, s.2.1, 63), (2, IntKind.wrap .i64 s.2.2.1, 65535), (2, IntKind.wrap .i64 s.2.2.2.1, 65535), (1, s.2.2.2.2.1, 63), (8, s.2.2.2.2.2, 1125899906842624)]
abbrev vS (s : S6) : Value := .agg #[.int .i64 s.1, .int .i64 s.2.1, .int .u16 s.2.2.1, .int .u16 s.2.2.2.1, .int .i64 s.2.2.2.2.1, .int .i64 s.2.2.2.2.2]

theorem frame_short.clw {n : Int} {w : World} {k : TR [(true, [.i .i64, .i .i64, .i .i64])] → World → Prop} (h : ∀ w', Gro w w' → k ((2, IntKind.wrap .i64 n, 65535, ()), ()) w') : clS Tryz.prog F.frame_short [.int .u16 n] w false [(true, [.i .i64, .i .i64, .i .i64])] k := by
  refine frame_short.ok ?_
  unfold frame_short.wp
  exact alK_by fun p w2 e k1 u1 => k1.sta _ rfl rfl fun w3 k3 u3 => k3.ld3 (h w3 (Gro.fresh (Gro.refl _) u1 u3 e))
theorem frame_hops.cl {n : Int} {w : World} {k : TR [(true, [.i .i64, .i .i64, .i .i64])] → World → Prop} (h : ∀ w', Gro w w' → k ((1, n, 63, ()), ()) w') : clS Tryz.prog F.frame_hops [.int .i64 n] w false [(true, [.i .i64, .i .i64, .i .i64])] k := by
  refine frame_hops.ok ?_
  unfold frame_hops.wp
  exact alK_by fun p w2 e k1 u1 => k1.sta _ rfl rfl fun w3 k3 u3 => k3.ld3 (h w3 (Gro.fresh (Gro.refl _) u1 u3 e))

set_option maxRecDepth 20000 in
theorem frame_Sync_fields.clF {s : S6} {w : World} {k : TR [(false, [.sl])] → World → Prop} (h : ∀ (q : Sl) w', Gro w w' → Ents w' q (flS s) → (∀ a, q.1 = some a → w.heap.size ≤ a.block) → k ((q, ()), ()) w') : clS Tryz.prog F.frame_Sync_fields [vS s] w false [(false, [.sl])] k := by
  refine frame_Sync_fields.ok ?_
  unfold frame_Sync_fields.wp
  refine alK_by fun p1 w2 e1 k1 u1 => ?_
  rw [drK_eq]
  have k3 := k1.drew
  have hold : ∀ {w' : World}, Gro w2.drew w' → Hold [(16, (Addr.add ⟨p1, 0, none⟩ 5), (w2.drew.cell? (Addr.add ⟨p1, 0, none⟩ 5)).getD undef), (13, (Addr.add ⟨p1, 0, none⟩ 4), (w2.drew.cell? (Addr.add ⟨p1, 0, none⟩ 4)).getD undef), (10, (Addr.add ⟨p1, 0, none⟩ 3), (w2.drew.cell? (Addr.add ⟨p1, 0, none⟩ 3)).getD undef), (7, (Addr.add ⟨p1, 0, none⟩ 2), (w2.drew.cell? (Addr.add ⟨p1, 0, none⟩ 2)).getD undef), (4, (Addr.add ⟨p1, 0, none⟩ 1), (w2.drew.cell? (Addr.add ⟨p1, 0, none⟩ 1)).getD undef), (1, ⟨p1, 0, none⟩, (w2.drew.cell? ⟨p1, 0, none⟩).getD undef)] w' :=
    fun u => ⟨k3.hold u (fun x => x) 5 (by simp), k3.hold u (fun x => x) 4 (by simp), k3.hold u (fun x => x) 3 (by simp), k3.hold u (fun x => x) 2 (by simp), k3.hold u (fun x => x) 1 (by simp), k3.hold u (fun x => x) 0 (by simp), trivial⟩
  refine k3.c0 rfl (k3.c1 1 rfl (k3.c1 2 rfl (k3.c1 3 rfl (k3.c1 4 rfl (k3.c1 5 rfl ?_)))))
  refine frame_node.cl fun w11 u11 => ⟨hold u11, frame_node.cl fun w13 u13 => ⟨hold (u11.trans u13), frame_short.clw fun w15 u15 => ⟨hold ((u11.trans u13).trans u15), ?_⟩⟩⟩
  have g15 := (u11.trans u13).trans u15
  refine frame_short.clw fun w17 u17 => ⟨hold (g15.trans u17), frame_hops.cl fun w19 u19 => ⟨hold ((g15.trans u17).trans u19), frame_time.cl fun w21 u21 => ⟨hold (((g15.trans u17).trans u19).trans u21), ?_⟩⟩⟩
  have g21 := ((g15.trans u17).trans u19).trans u21
  refine alK_by fun p22 w23 e22 k22 u22 => ⟨hold (g21.trans u22), h (some ⟨p22, 0, none⟩, 6, 6) w23 (((Upd.drew u1).trans g21 fun _ _ x => x).trans u22 fun _ _ x => x) (ents_new k22 rfl rfl) fun a ha => by cases ha; have := g21.size; have := u1.size; exact Nat.le_trans (Nat.le_trans u1.size g21.size) (Nat.le_of_eq e22)⟩
theorem frame_Sync_fields.cl {s : S6} {w : World} {k : TR [(false, [.sl])] → World → Prop} (h : ∀ q w', Gro w w' → Ents w' q (flS s) → k ((q, ()), ()) w') : clS Tryz.prog F.frame_Sync_fields [vS s] w false [(false, [.sl])] k :=
  frame_Sync_fields.clF fun q w' g E _ => h q w' g E

theorem frame_kind_of_frame_Sync.cl {v : Value} {s : S6} (hv : v = vS s) {w : World} {k : TR [(false, [.i .u8])] → World → Prop} (h : k ((1, ()), ()) w) : clS Tryz.prog F.frame_kind [.iface T.frame_Sync v] w false [(false, [.i .u8])] k := by
  subst hv
  refine frame_kind_of_frame_Sync.ok ?_
  unfold frame_kind_of_frame_Sync.wp
  exact h

set_option maxRecDepth 20000 in
theorem frame_Good_of_frame_Sync.cl {s : S6} {w : World} {k : TR [(false, [.b])] → World → Prop} (h : ∀ w', Gro w w' → k ((okF (flS s), ()), ()) w') : clS Tryz.prog F.frame_Good [.iface T.frame_Sync (vS s)] w false [(false, [.b])] k := by
  refine frame_Good_of_frame_Sync.ok ?_
  unfold frame_Good_of_frame_Sync.wp
  refine frame_kind_of_frame_Sync.cl (s := s) rfl (brF rfl (frame_Sync_fields.cl (s := s) fun q w4 u4 hE => ?_))
  have hl := hE.len
  have h6 : (flS s).length = 6 := rfl
  refine LoopT.by (fun z w' => Gro w4 w' ∧ ∃ i : Nat, z = ((i : Int), ()) ∧ i ≤ (flS s).length ∧ ∀ e ∈ (flS s).take i, inF e = true) (fun z => (1000 - z.1).toNat) ⟨Gro.refl _, 0, rfl, by omega, by simp⟩ ?_
  rintro z w7 ⟨g, i, rfl, hi, hgood⟩ _
  have out : ∀ w', Gro w4 w' → okF (flS s) = false → k ((false, ()), ()) w' := fun w' g h0 => by
    have := h w' (u4.trans g)
    rw [h0] at this; exact this
  refine brD (fun c => ?_) fun c => ?_
  · have hi' : i < (flS s).length := by have c : (i : Int) < (q.2.1 : Int) := c; omega
    have he : (flS s)[i]? = some (flS s)[i] := List.getElem?_eq_getElem hi'
    generalize (flS s)[i] = e at he
    have hE7 := hE.gro g
    refine hE7.ix (z := (i : Int)) rfl he fun ad ha => hE7.ldN ha he ?_
    refine alK_by fun p10 w11 e10 k10 u11 => k10.sta _ rfl rfl fun w12 k12 u12 => k12.i1 1 rfl ?_
    have g12 := Gro.fresh g u11 u12 e10
    refine brD (fun c => out w12 g12 (okF_no he ?_)) fun c1 => k12.i1 1 rfl (k12.i1 2 rfl (brD (fun c => out w12 g12 (okF_no he ?_)) fun c2 => ⟨⟨g12, i + 1, ?_, by omega, ?_⟩, ?_⟩))
    · have c : e.2.1 < 0 := c
      cases hb : inF e
      · rfl
      · have := inF_iff.1 hb; omega
    · have c : e.2.1 > e.2.2 := c
      cases hb : inF e
      · rfl
      · have := inF_iff.1 hb; omega
    · show (IntKind.wrap .i64 ((i : Int) + 1), ()) = _
      rw [w64_in (by unfold I64; omega)]; rfl
    · have c1 : ¬ e.2.1 < 0 := c1
      have c2 : ¬ e.2.1 > e.2.2 := c2
      rw [List.take_add_one, he]
      intro x hx
      rcases List.mem_append.1 hx with hx | hx
      · exact hgood x hx
      · have : x = e := by simpa using hx
        subst this
        exact inF_iff.2 ⟨by omega, by omega⟩
    · show (1000 - IntKind.wrap .i64 ((i : Int) + 1)).toNat < (1000 - (i : Int)).toNat
      rw [w64_in (by unfold I64; omega)]; omega
  · have hi' : i = (flS s).length := by have c : ¬ (i : Int) < (q.2.1 : Int) := c; omega
    subst hi'
    rw [List.take_length] at hgood
    have := h w7 (u4.trans g)
    rw [okF_take hgood] at this
    exact this

/-! ### a flood and its blocks -/
abbrev fpre (be : Nat) (f : Fl) : List Value := [.pointer (some ⟨be, 0, none⟩), .int .i64 f.me, .int .i64 f.tmo, .int .i64 f.ign, .int .i64 f.need, .int .i64 f.drift]
abbrev fpost (f : Fl) : List Value := [.int .i64 f.ll, .int .i64 f.lg, .int .i64 f.lh]
/-- the flood at bf, its election at be; O are the blocks that it holds -/
structure FW (w : World) (O : Nat → Prop) (bf be : Nat) (f : Fl) (e : El) (l : MkL) (es : List E3) : Prop where
  ex : ∃ r s, Blk w bf (flC be f s) ∧ ElB w be r e l ∧ OwnR w 0 T.table_Entry 3 s es.length (flat3 es) ∧ (∀ a, s.1 = some a → a.block ≠ bf ∧ a.block ≠ be ∧ a.block ≠ r ∧ O a.block) ∧ O r ∧ bf ≠ r
  ne : bf ≠ be
  obf : O bf
  obe : O be
  lt : ∀ z, O z → z < w.heap.size
  len : es.length ≤ 8
  good : ∀ x ∈ es, goodB x = true
  need : 1 ≤ f.need
theorem FW.upd {S O : Nat → Prop} {w w' : World} {bf be : Nat} {f : Fl} {e : El} {l : MkL} {es : List E3} (h : FW w O bf be f e l es) (u : Upd S w w') (hS : ∀ z, O z → ¬ S z) : FW w' O bf be f e l es := by
  obtain ⟨⟨r, s, h1, h2, h3, h4, h5, h6⟩, ne, obf, obe, lt, len, good, need⟩ := h
  exact ⟨⟨r, s, h1.upd u (hS _ obf), h2.upd u (hS _ obe) (hS _ h5), h3.upd u fun a ha => hS _ (h4 a ha).2.2.2, h4, h5, h6⟩, ne, obf, obe, fun z hz => Nat.lt_of_lt_of_le (lt z hz) u.size, len, good, need⟩
theorem FW.gro {O : Nat → Prop} {w w' : World} {bf be : Nat} {f : Fl} {e : El} {l : MkL} {es : List E3} (h : FW w O bf be f e l es) (u : Gro w w') : FW w' O bf be f e l es := h.upd u fun _ _ x => x
/-- what a call leaves: only the flood's own blocks have turned, and those it holds now are the old or new ones -/
structure Nx (O : Nat → Prop) (w : World) (O' : Nat → Prop) (w' : World) : Prop where
  u : Upd O w w'
  sub : ∀ z, O' z → O z ∨ w.heap.size ≤ z
theorem Nx.trans {O O' O'' : Nat → Prop} {w w' w'' : World} (h : Nx O w O' w') (k : Nx O' w' O'' w'') : Nx O w O'' w'' :=
  ⟨h.u.trans k.u fun i hi ho => (h.sub i ho).elim id fun x => by omega, fun z hz => (k.sub z hz).elim (h.sub z) fun x => .inr (Nat.le_trans h.u.size x)⟩
theorem Nx.gro {O O' : Nat → Prop} {w w' w'' : World} (h : Nx O w O' w') (g : Gro w' w'') : Nx O w O' w'' := ⟨h.u.gro g, h.sub⟩
theorem Nx.of {O : Nat → Prop} {w w' : World} (g : Gro w w') : Nx O w O w' := ⟨Upd.of_gro g, fun z hz => .inl hz⟩
theorem Nx.pre {O O' : Nat → Prop} {w w' w'' : World} (g : Gro w w') (h : Nx O w' O' w'') : Nx O w O' w'' := (Nx.of g).trans h
/-- another's block is as it was, and is not the flood's -/
theorem Nx.blk {O O' : Nat → Prop} {w w' : World} {b : Nat} {cs : List Value} (h : Nx O w O' w') (k : Blk w b cs) (hb : ¬ O b) : Blk w' b cs ∧ ¬ O' b :=
  ⟨k.upd h.u hb, fun x => (h.sub b x).elim hb fun y => by have := k.lt; omega⟩

theorem FW.elect {O : Nat → Prop} {w : World} {bf be : Nat} {f : Fl} {e : El} {l : MkL} {es : List E3} (h : FW w O bf be f e l es) {k : Option Addr → Prop} (hk : k (some ⟨be, 0, none⟩)) : ld1 .p ⟨bf, 0, none⟩ w k := by
  obtain ⟨r, s, h1, _⟩ := h.ex
  exact h1.c0 (c := .p) (x := some ⟨be, 0, none⟩) rfl hk
theorem FW.b {O : Nat → Prop} {w : World} {bf be : Nat} {f : Fl} {e : El} {l : MkL} {es : List E3} (h : FW w O bf be f e l es) : ∃ r s, FlB w bf be r f s e l es := by
  obtain ⟨r, s, h1, h2, h3, h4, h5⟩ := h.ex
  exact ⟨r, s, h1, h2, h3.ents, h.ne⟩
theorem FW.el {O : Nat → Prop} {w : World} {bf be : Nat} {f : Fl} {e : El} {l : MkL} {es : List E3} (h : FW w O bf be f e l es) : ∃ r, ElB w be r e l := by
  obtain ⟨r, s, h1⟩ := h.b; exact ⟨r, h1.el⟩

theorem flood_New.cw {me r0 r1 r2 r3 : Int} {w : World} {k : TR [(false, [.p]), (false, [.i .i64])] → World → Prop}
    (h0 : (me < 0 ∨ 64 ≤ me ∨ flG r0 r1 r2 r3 = false) → ∀ w', Gro w w' → k ((none, ()), (1, ()), ()) w')
    (h1 : 0 ≤ me → me < 64 → flG r0 r1 r2 r3 = true → ∀ O bf be w', FW w' O bf be ⟨me, r0, r1, r2, r3, 0, 0, 0⟩ ⟨me, r0, r1, 0, 0, -1, 0, 0⟩ [] [] → (∀ z, O z → w.heap.size ≤ z) → Gro w w' → k ((some ⟨bf, 0, none⟩, ()), (0, ()), ()) w') :
    clS Tryz.prog F.flood_New [.int .i64 me, .agg #[.int .i64 r0, .int .i64 r1, .int .i64 r2, .int .i64 r3]] w true [(false, [.p]), (false, [.i .i64])] k := by
  refine flood_New.cl h0 fun m0 m1 hg bf be m w' lf le lm hF g => h1 m0 m1 hg (fun z => z = bf ∨ z = be ∨ z = m) bf be w' ?_ ?_ g
  · have a1 := hF.blk.lt
    have a2 := hF.el.blk.lt
    have a3 := hF.el.map.lt
    refine ⟨⟨m, (none, 0, 0), hF.blk, hF.el, OwnR.nil _ _ _ _, (fun a h => by cases h), .inr (.inr rfl), MapT.ne hF.el.map hF.blk⟩, hF.ne, .inl rfl, .inr (.inl rfl), ?_, by simp, by simp, (flG_iff.1 hg).2.1⟩
    rintro z (rfl | rfl | rfl) <;> assumption
  · rintro z (rfl | rfl | rfl) <;> assumption

theorem flood_Flood_Synced.cw {O : Nat → Prop} {bf be : Nat} {f : Fl} {e : El} {l : MkL} {es : List E3} {w : World} (hF : FW w O bf be f e l es) {k : TR [(false, [.b])] → World → Prop}
    (h : ∀ w', Gro w w' → k ((synF f e es.length, ()), ()) w') : clS Tryz.prog F.flood_Flood_Synced [.pointer (some ⟨bf, 0, none⟩)] w false [(false, [.b])] k := by
  obtain ⟨r, s, hb⟩ := hF.b
  exact flood_Flood_Synced.cl hb h
theorem elect_Elect_Mine.cw {O : Nat → Prop} {bf be : Nat} {f : Fl} {e : El} {l : MkL} {es : List E3} {w : World} (hF : FW w O bf be f e l es) {k : TR [(false, [.b])] → World → Prop}
    (h : ∀ w', Gro w w' → k ((mine e, ()), ()) w') : clS Tryz.prog F.elect_Elect_Mine [.pointer (some ⟨be, 0, none⟩)] w false [(false, [.b])] k := by
  obtain ⟨r, hb⟩ := hF.el
  exact elect_Elect_Mine.cl hb h
theorem elect_Elect_Root.cw {O : Nat → Prop} {bf be : Nat} {f : Fl} {e : El} {l : MkL} {es : List E3} {w : World} (hF : FW w O bf be f e l es) {k : TR [(false, [.i .i64])] → World → Prop}
    (h : k ((e.root, ()), ()) w) : clS Tryz.prog F.elect_Elect_Root [.pointer (some ⟨be, 0, none⟩)] w false [(false, [.i .i64])] k := by
  obtain ⟨r, hb⟩ := hF.el
  exact elect_Elect_Root.cl hb h
theorem flood_Flood_Entries.cw {O : Nat → Prop} {bf be : Nat} {f : Fl} {e : El} {l : MkL} {es : List E3} {w : World} (hF : FW w O bf be f e l es) {k : TR [(false, [.i .i64])] → World → Prop}
    (h : k (((es.length : Int), ()), ()) w) : clS Tryz.prog F.flood_Flood_Entries [.pointer (some ⟨bf, 0, none⟩)] w false [(false, [.i .i64])] k := by
  refine flood_Flood_Entries.ok ?_
  unfold flood_Flood_Entries.wp
  obtain ⟨r, s, hb⟩ := hF.b
  refine brF rfl ?_
  rw [ncK_eq]
  have hc : w.cell? (Addr.add ⟨bf, 0, none⟩ 6) = some (.slice s.1 s.2.1 s.2.2) := by rw [add_eq, Nat.zero_add, hb.blk.cell]; rfl
  refine table_Table_Len.at hc ?_
  rw [hb.ents.len]; exact h

def fgF (f : Fl) : Fl := { f with ll := 0, lg := 0, lh := 0 }
set_option maxRecDepth 20000 in
theorem flood_Flood_forget.cw {O : Nat → Prop} {bf be : Nat} {f : Fl} {e : El} {l : MkL} {es : List E3} {w : World} (hF : FW w O bf be f e l es) {k : TR [] → World → Prop}
    (h : ∀ w' O', FW w' O' bf be (fgF f) e l [] → Nx O w O' w' → k () w') : clS Tryz.prog F.flood_Flood_forget [.pointer (some ⟨bf, 0, none⟩)] w true [] k := by
  refine flood_Flood_forget.ok ?_
  unfold flood_Flood_forget.wp
  obtain ⟨r, s, h1, h2, h3, h4, h5, h6⟩ := hF.ex
  rw [ncK_eq]
  have hT : TabG w 0 bf (fpre be f) (fpost f) s es := ⟨h1, h3, hF.len, fun a ha => (h4 a ha).1⟩
  refine table_Table_Clear.clG (fpre be f) (fpost f) hT fun w3 T3 u3 => ?_
  rw [ncK_eq]
  have k3 : Blk w3 bf (flC be f (none, 0, 0)) := T3.1
  refine k3.sN 7 _ (by simp [flC]) rfl fun w5 k5 u5 => ?_
  have U : Upd (fun z => z = bf) w w5 := Upd.trans u3 u5 fun _ _ h => h
  refine h w5 O ⟨⟨r, (none, 0, 0), k5, h2.upd U (fun h => hF.ne h.symm) (fun h => h6 h.symm), OwnR.nil _ _ _ _, (fun a h => by cases h), h5, h6⟩, hF.ne, hF.obf, hF.obe, fun z hz => Nat.lt_of_lt_of_le (hF.lt z hz) U.size, by simp, by simp, hF.need⟩ ⟨U.mono fun z hz => by rw [hz]; exact hF.obf, fun z hz => .inl hz⟩
end Go.Proofs.YtnjmfbjgcfnanaaGreat
/- Contracts of layer 16: a flood hears, beats, tells its time. Conditions: none. -/
namespace Go.Proofs.YtnjmfbjgcfnanaaGreat
open Go.Eng Go
set_option linter.unusedVariables false
set_option linter.unusedSimpArgs false

theorem addL_good {es : List E3} {x : E3} (h : ∀ y ∈ es, goodB y = true) (hx : goodB x = true) : ∀ y ∈ addL es x, goodB y = true := by
  intro y hy
  unfold addL at hy
  split at hy
  · exact h y hy
  · rcases List.mem_append.1 (List.mem_of_mem_drop hy) with h' | h'
    · exact h y h'
    · have : y = x := by simpa using h'
      subst this; exact hx
set_option maxRecDepth 20000 in
theorem FW.add {O : Nat → Prop} {bf be : Nat} {f : Fl} {e : El} {l : MkL} {es : List E3} {x : E3} {w : World} (hF : FW w O bf be f e l es) (hx : goodB x = true) {k : TR [(false, [.i .i64])] → World → Prop}
    (h : ∀ w' O', FW w' O' bf be f e l (addL es x) → Nx O w O' w' → k ((addN es x, ()), ()) w') :
    clS Tryz.prog F.table_Table_Add [.pointer (some (Addr.add ⟨bf, 0, none⟩ 6)), .agg #[.int .i64 x.1, .int .i64 x.2.1, .int .i64 x.2.2]] w false [(false, [.i .i64])] k := by
  obtain ⟨r, s, h1, h2, h3, h4, h5, h6⟩ := hF.ex
  have hT : TabG w 0 bf (fpre be f) (fpost f) s es := ⟨h1, h3, hF.len, fun a ha => (h4 a ha).1⟩
  have lb := h1.lt
  have le := h2.blk.lt
  have lr := h2.map.lt
  refine table_Table_Add.clG (fpre be f) (fpost f) hT (Nat.zero_le _) fun s' w' T' u' hs => ?_
  obtain ⟨t1, t2, t3, t4⟩ := T'
  have no : ∀ a, s.1 = some a → O a.block := fun a ha => (h4 a ha).2.2.2
  refine h w' (fun z => O z ∨ ∃ a, s'.1 = some a ∧ a.block = z) ⟨⟨r, s', t1, h2.upd u' ?_ ?_, t2, fun a ha => ?_, .inl h5, h6⟩, hF.ne, .inl hF.obf, .inl hF.obe, ?_, t3, addL_good hF.good hx, hF.need⟩ ⟨u'.mono ?_, ?_⟩
  · rintro (h | ⟨a, ha, h⟩)
    · exact hF.ne h.symm
    · exact (h4 a ha).2.1 h
  · rintro (h | ⟨a, ha, h⟩)
    · exact h6 h.symm
    · exact (h4 a ha).2.2.1 h
  · refine ⟨t4 a ha, ?_, ?_, .inr ⟨a, ha, rfl⟩⟩
    · rcases hs a ha with ⟨a0, h0, e0⟩ | hh
      · rw [e0]; exact (h4 a0 h0).2.1
      · omega
    · rcases hs a ha with ⟨a0, h0, e0⟩ | hh
      · rw [e0]; exact (h4 a0 h0).2.2.1
      · omega
  · rintro z (hz | ⟨a, ha, rfl⟩)
    · exact Nat.lt_of_lt_of_le (hF.lt z hz) u'.size
    · exact (t2.blk ha).2.1
  · rintro z (rfl | ⟨a, ha, rfl⟩)
    · exact hF.obf
    · exact no a ha
  · rintro z (hz | ⟨a, ha, rfl⟩)
    · exact .inl hz
    · rcases hs a ha with ⟨a0, h0, e0⟩ | hh
      · left; rw [e0]; exact no a0 h0
      · exact .inr hh
set_option maxRecDepth 20000 in
theorem FW.clear {O : Nat → Prop} {bf be : Nat} {f : Fl} {e : El} {l : MkL} {es : List E3} {w : World} (hF : FW w O bf be f e l es) {k : TR [] → World → Prop}
    (h : ∀ w' O', FW w' O' bf be f e l [] → Nx O w O' w' → k () w') : clS Tryz.prog F.table_Table_Clear [.pointer (some (Addr.add ⟨bf, 0, none⟩ 6))] w true [] k := by
  obtain ⟨r, s, h1, h2, h3, h4, h5, h6⟩ := hF.ex
  have hT : TabG w 0 bf (fpre be f) (fpost f) s es := ⟨h1, h3, hF.len, fun a ha => (h4 a ha).1⟩
  refine table_Table_Clear.clG (fpre be f) (fpost f) hT fun w3 T3 u3 => ?_
  refine h w3 O ⟨⟨r, (none, 0, 0), T3.1, h2.upd u3 (fun h => hF.ne h.symm) (fun h => h6 h.symm), OwnR.nil _ _ _ _, (fun a h => by cases h), h5, h6⟩, hF.ne, hF.obf, hF.obe, fun z hz => Nat.lt_of_lt_of_le (hF.lt z hz) u3.size, by simp, by simp, hF.need⟩ ⟨u3.mono fun z hz => by rw [hz]; exact hF.obf, fun z hz => .inl hz⟩
set_option maxRecDepth 20000 in
/-- the three ints of the last word, written -/
theorem FW.last {O : Nat → Prop} {bf be : Nat} {f : Fl} {e : El} {l : MkL} {es : List E3} {a b c : Int} {w : World} (hF : FW w O bf be f e l es) {k : World → Prop}
    (h : ∀ w' O', FW w' O' bf be { f with ll := a, lg := b, lh := c } e l es → Nx O w O' w' → k w') : stN [.int .i64 a, .int .i64 b, .int .i64 c] (Addr.add ⟨bf, 0, none⟩ 7) 0 w k := by
  obtain ⟨r, s, h1, h2, h3, h4, h5, h6⟩ := hF.ex
  refine h1.sN 7 _ (by simp [flC]) rfl fun w5 k5 u5 => ?_
  refine h w5 O ⟨⟨r, s, k5, h2.upd u5 (fun h => hF.ne h.symm) (fun h => h6 h.symm), h3.upd u5 fun a ha h => (h4 a ha).1 h, h4, h5, h6⟩, hF.ne, hF.obf, hF.obe, fun z hz => Nat.lt_of_lt_of_le (hF.lt z hz) u5.size, hF.len, hF.good, hF.need⟩ ⟨u5.mono fun z hz => by rw [hz]; exact hF.obf, fun z hz => .inl hz⟩

/-! ### hear -/
def okH (s : S6) (loc : Int) : Bool := decide (0 ≤ s.2.2.2.2.1) && decide (s.2.2.2.2.1 < 63) && decide (0 ≤ loc) && decide (loc ≤ 1125899906842624) && decide (0 ≤ s.2.2.2.2.2) && decide (s.2.2.2.2.2 ≤ 1125899906842624)
theorem okH_iff {s : S6} {loc : Int} : okH s loc = true ↔ 0 ≤ s.2.2.2.2.1 ∧ s.2.2.2.2.1 < 63 ∧ 0 ≤ loc ∧ loc ≤ 1125899906842624 ∧ 0 ≤ s.2.2.2.2.2 ∧ s.2.2.2.2.2 ≤ 1125899906842624 := by unfold okH; simp [and_assoc]
def mrk (s : S6) : Tvs MK := (s.2.2.1, s.2.2.2.1, ())
def hrF (e : El) (l : MkL) (s : S6) (loc : Int) : Int := if okH s loc = true then hrN e l s.2.1 (mrk s) else 0
def entF (s : S6) (loc : Int) : E3 := (loc, IntKind.wrap .i64 (s.2.2.2.2.2 - loc), IntKind.wrap .i64 (s.2.2.2.2.1 + 1))
def adF (es : List E3) (x : E3) : List E3 := if addN es x = 0 then addL es x else [x]
/-- the entries behind an accepted word -/
def esF (c : Int) (es : List E3) (s : S6) (loc : Int) : List E3 := adF (if c = 2 then [] else es) (entF s loc)
def hfF (f : Fl) (s : S6) (loc : Int) : Fl := { f with ll := loc, lg := s.2.2.2.2.2, lh := IntKind.wrap .i64 (s.2.2.2.2.1 + 1) }
theorem entF_good {s : S6} {loc : Int} (h : okH s loc = true) : goodB (entF s loc) = true := by
  have h := okH_iff.1 h
  have e : entF s loc = (loc, s.2.2.2.2.2 - loc, s.2.2.2.2.1 + 1) := by
    unfold entF; rw [w64_in (by unfold I64; omega), w64_in (by unfold I64; omega)]
  rw [e]
  unfold goodB
  simp
  omega
theorem adF_one {x : E3} (h : goodB x = true) : addL [] x = [x] := by
  unfold addL tooOld; simp [h]

set_option maxRecDepth 20000 in
set_option maxHeartbeats 1000000 in
theorem flood_Flood_Hear.cw {O : Nat → Prop} {bf be : Nat} {f : Fl} {e : El} {l : MkL} {es : List E3} {s : S6} {loc : Int} {w : World} (hF : FW w O bf be f e l es) {k : TR [(false, [.i .i64])] → World → Prop}
    (h0 : hrF e l s loc = 0 → ∀ w', Gro w w' → k ((0, ()), ()) w')
    (h1 : ∀ c, hrF e l s loc = c → c ≠ 0 → okH s loc = true → ∀ w' O', FW w' O' bf be (hfF f s loc) (hrE e s.2.1) (mset l s.2.1 (mrk s)) (esF c es s loc) → Nx O w O' w' → k ((c, ()), ()) w') :
    clS Tryz.prog F.flood_Flood_Hear [.pointer (some ⟨bf, 0, none⟩), vS s, .int .i64 loc] w false [(false, [.i .i64])] k := by
  refine flood_Flood_Hear.ok ?_
  unfold flood_Flood_Hear.wp
  refine alK_by fun p1 w2 e1 k1 u1 => brF rfl ?_
  have l1 := k1.lt
  have no : okH s loc = false → k ((0, ()), ()) w2 := fun h => h0 (by unfold hrF; rw [h]; rfl) w2 u1
  have bad : ¬ (0 ≤ s.2.2.2.2.1 ∧ s.2.2.2.2.1 < 63 ∧ 0 ≤ loc ∧ loc ≤ 1125899906842624 ∧ 0 ≤ s.2.2.2.2.2 ∧ s.2.2.2.2.2 ≤ 1125899906842624) → k ((0, ()), ()) w2 := fun h => no (by
    cases ho : okH s loc
    · rfl
    · exact absurd (okH_iff.1 ho) h)
  refine k1.i1 4 rfl (brD (fun c => bad (by have c : s.2.2.2.2.1 < 0 := c; omega)) fun c1 => k1.i1 4 rfl (brD (fun c => bad (by have c : s.2.2.2.2.1 ≥ 63 := c; omega)) fun c2 => ?_))
  refine brD (fun c => bad (by have c : loc < 0 := c; omega)) fun c3 => brD (fun c => bad (by have c : loc > 1125899906842624 := c; omega)) fun c4 => ?_
  refine k1.i1 5 rfl (brD (fun c => bad (by have c : s.2.2.2.2.2 < 0 := c; omega)) fun c5 => k1.i1 5 rfl (brD (fun c => bad (by have c : s.2.2.2.2.2 > 1125899906842624 := c; omega)) fun c6 => ?_))
  have ok : okH s loc = true := okH_iff.2 ⟨by have c : ¬ s.2.2.2.2.1 < 0 := c1; omega, by have c : ¬ s.2.2.2.2.1 ≥ 63 := c2; omega, by have c : ¬ loc < 0 := c3; omega, by have c : ¬ loc > 1125899906842624 := c4; omega, by have c : ¬ s.2.2.2.2.2 < 0 := c5; omega, by have c : ¬ s.2.2.2.2.2 > 1125899906842624 := c6; omega⟩
  clear c1 c2 c3 c4 c5 c6 bad no
  have hN : hrF e l s loc = hrN e l s.2.1 (mrk s) := by unfold hrF; rw [if_pos ok]
  have hx := entF_good ok
  rw [drK_eq, ncK_eq]
  have F7 := (hF.gro u1).gro (Gro.drew _)
  have g7 : Gro w w2.drew := u1.trans (Gro.drew _)
  have k7 := k1.drew
  refine F7.elect (k7.c1 1 rfl (k7.c1 2 rfl (k7.c1 3 rfl ?_)))
  obtain ⟨⟨r, sl, f1, f2, f3, f4, f5, f6⟩, fne, fobf, fobe, flt, flen, fgood, fneed⟩ := F7
  have np1 : ¬ O p1 := fun h => by have := hF.lt p1 h; omega
  have nel : ¬ elS be r p1 := by
    rintro (h | h)
    · rw [h] at np1; exact np1 fobe
    · rw [h] at np1; exact np1 f5
  refine elect_Elect_Hear.cl (m := mrk s) (root := s.2.1) f2 (fun hz w14 u14 => ⟨⟨k7.hold u14 (fun x => x) 3 (by simp), k7.hold u14 (fun x => x) 2 (by simp), trivial⟩, brT rfl (h0 (hN.trans hz) w14 (g7.trans u14))⟩) fun c hc hc0 w14 E14 u14 => ⟨⟨k7.hold u14 nel 3 (by simp), k7.hold u14 nel 2 (by simp), trivial⟩, ?_⟩
  have hc' : hrF e l s loc = c := hN.trans hc
  refine brF (beq_eq_false_iff_ne.2 hc0) ?_
  have F14 : FW w14 O bf be f (hrE e s.2.1) (mset l s.2.1 (mrk s)) es := by
    refine ⟨⟨r, sl, f1.upd u14 ?_, E14, f3.upd u14 fun a ha => ?_, f4, f5, f6⟩, fne, fobf, fobe, fun z hz => Nat.lt_of_lt_of_le (flt z hz) u14.size, flen, fgood, fneed⟩
    · rintro (h | h)
      · exact fne h
      · exact f6 h
    · rintro (h | h)
      · exact (f4 a ha).2.1 h
      · exact (f4 a ha).2.2.1 h
  have X14 : Nx O w O w14 := Nx.pre g7 ⟨u14.mono (fun z h => h.elim (fun h => by rw [h]; exact fobe) fun h => by rw [h]; exact f5), fun z hz => .inl hz⟩
  have k14 := k7.upd u14 nel
  refine CutT.by (fun _ w' => ∃ O' f', f'.me = f.me ∧ f'.tmo = f.tmo ∧ f'.ign = f.ign ∧ f'.need = f.need ∧ f'.drift = f.drift ∧ FW w' O' bf be f' (hrE e s.2.1) (mset l s.2.1 (mrk s)) (if c = 2 then [] else es) ∧ Nx O w O' w' ∧ Blk w' p1 (encs KS (tS s)) ∧ ¬ O' p1) ?_ ?_
  · refine brE (fun c2 => ?_) fun c2 => ?_
    · have c2 : c = 2 := c2
      refine flood_Flood_forget.cw F14 fun w19 O' F19 x19 => ⟨O', fgF f, rfl, rfl, rfl, rfl, rfl, by rw [if_pos c2]; exact F19, X14.trans x19, x19.blk k14 np1⟩
    · have c2 : c ≠ 2 := c2
      exact ⟨O, f, rfl, rfl, rfl, rfl, rfl, by rw [if_neg c2]; exact F14, X14, k14, np1⟩
  rintro _ w17 ⟨O', f', q1, q2, q3, q4, q5, F17, X17, k17, n17⟩ _
  clear F14 X14 k14
  refine k17.c1 5 rfl (k17.c1 4 rfl ?_)
  refine alK_by fun p22 w23 e22 k22 u22 => k22.sta _ rfl rfl fun w24 k24 u24 => ?_
  have g24 : Gro w17 w24 := Gro.fresh (Gro.refl _) u22 u24 e22
  have F24 := F17.gro g24
  have X24 := X17.gro g24
  have k24' := k17.gro g24
  change Blk w24 p22 (encs [.i .i64, .i .i64, .i .i64] ((entF s loc).1, (entF s loc).2.1, (entF s loc).2.2, ())) at k24
  have n22 : ¬ O' p22 := fun h => by have := F17.lt p22 h; omega
  refine CutT.by (fun _ w' => ∃ O'', FW w' O'' bf be f' (hrE e s.2.1) (mset l s.2.1 (mrk s)) (esF c es s loc) ∧ Nx O w O'' w' ∧ Blk w' p1 (encs KS (tS s))) ?_ ?_
  · rw [drK_eq, ncK_eq]
    refine k24.drew.ld3 ?_
    refine (F24.gro (Gro.drew _)).add hx fun w32 O2 F32 x32 => ⟨trivial, ?_⟩
    have x32' : Nx O' w24 O2 w32 := Nx.pre (Gro.drew _) x32
    have b32 := x32'.blk k24' n17
    have c32 := x32'.blk k24 n22
    refine brN (fun cn => ?_) fun cn => ?_
    · have cn : addN (if c = 2 then [] else es) (entF s loc) ≠ 0 := cn
      rw [ncK_eq]
      refine F32.clear fun w35 O3 F35 x35 => ?_
      have c35 := x35.blk c32.1 c32.2
      have b35 := x35.blk b32.1 b32.2
      rw [drK_eq, ncK_eq]
      refine c35.1.drew.ld3 ((F35.gro (Gro.drew _)).add hx fun w40 O4 F40 x40 => ⟨trivial, O4, ?_, ((X24.trans x32').trans x35).trans (Nx.pre (Gro.drew _) x40), ((Nx.pre (Gro.drew _) x40).blk b35.1 b35.2).1⟩)
      rw [adF_one hx] at F40
      unfold esF adF; rw [if_neg cn]; exact F40
    · have cn : addN (if c = 2 then [] else es) (entF s loc) = 0 := cn
      refine ⟨O2, ?_, X24.trans x32', b32.1⟩
      unfold esF adF; rw [if_pos cn]; exact F32
  · rintro _ w27 ⟨O2, F27, X27, k27⟩ _
    refine k27.c1 5 rfl (k27.c1 4 rfl ?_)
    rw [ncK_eq]
    refine F27.last fun w44 O3 F44 x44 => h1 c hc' hc0 ok w44 O3 ?_ (X27.trans x44)
    have : hfF f s loc = { f' with ll := loc, lg := s.2.2.2.2.2, lh := IntKind.wrap .i64 (s.2.2.2.2.1 + 1) } := by
      unfold hfF; rw [q1, q2, q3, q4, q5]
    rw [this]; exact F44
end Go.Proofs.YtnjmfbjgcfnanaaGreat
/- Contracts of layer 16: a flood boots, beats, tells its time. Conditions: none. -/
namespace Go.Proofs.YtnjmfbjgcfnanaaGreat
open Go.Eng Go
set_option linter.unusedVariables false
set_option linter.unusedSimpArgs false

/-- a step of the election alone -/
theorem FW.turnE {O : Nat → Prop} {bf be : Nat} {f : Fl} {e : El} {l : MkL} {es : List E3} {w : World} (hF : FW w O bf be f e l es) :
    ∃ r, ElB w be r e l ∧ (∀ z, elS be r z → O z) ∧ ∀ w' e' l', ElB w' be r e' l' → Upd (elS be r) w w' → FW w' O bf be f e' l' es ∧ Nx O w O w' := by
  obtain ⟨⟨r, s, h1, h2, h3, h4, h5, h6⟩, ne, obf, obe, lt, len, good, need⟩ := hF
  have hO : ∀ z, elS be r z → O z := fun z h => h.elim (fun h => by rw [h]; exact obe) fun h => by rw [h]; exact h5
  refine ⟨r, h2, hO, fun w' e' l' E u => ⟨⟨⟨r, s, h1.upd u ?_, E, h3.upd u fun a ha => ?_, h4, h5, h6⟩, ne, obf, obe, fun z hz => Nat.lt_of_lt_of_le (lt z hz) u.size, len, good, need⟩, u.mono hO, fun z hz => .inl hz⟩⟩
  · rintro (h | h)
    · exact ne h
    · exact h6 h
  · rintro (h | h)
    · exact (h4 a ha).2.1 h
    · exact (h4 a ha).2.2.1 h
theorem FW.turnB {O : Nat → Prop} {bf be : Nat} {f : Fl} {e : El} {l : MkL} {es : List E3} {w : World} (hF : FW w O bf be f e l es) :
    ∃ r, ElB w be r e l ∧ ∀ w' e' l', ElB w' be r e' l' → Upd (fun z => z = be) w w' → FW w' O bf be f e' l' es ∧ Nx O w O w' := by
  obtain ⟨r, h1, _, h2⟩ := hF.turnE
  exact ⟨r, h1, fun w' e' l' E u => h2 w' e' l' E (u.mono fun z h => .inl h)⟩

def bootE (e : El) (boot : Int) : El := { e with boot := boot, seq := 0, root := -1, beats := 0, quiet := 0 }
theorem flood_Flood_Boot.cw {O : Nat → Prop} {bf be : Nat} {f : Fl} {e : El} {l : MkL} {es : List E3} {boot : Int} {w : World} (hF : FW w O bf be f e l es) {k : TR [] → World → Prop}
    (h : ∀ w' O', FW w' O' bf be (fgF f) (bootE e boot) [] [] → Nx O w O' w' → k () w') : clS Tryz.prog F.flood_Flood_Boot [.pointer (some ⟨bf, 0, none⟩), .int .u16 boot] w true [] k := by
  refine flood_Flood_Boot.ok ?_
  unfold flood_Flood_Boot.wp
  refine brT rfl ?_
  rw [ncK_eq]
  refine hF.elect ?_
  obtain ⟨⟨r, s, h1, h2, h3, h4, h5, h6⟩, ne, obf, obe, lt, len, good, need⟩ := hF
  refine elect_Elect_Boot.cl h2.blk fun w4 m lm E4 u4 => ?_
  have lb := h1.lt
  have F4 : FW w4 (fun z => O z ∨ z = m) bf be f (bootE e boot) [] es := by
    refine ⟨⟨m, s, h1.upd u4 ne, E4, h3.upd u4 fun a ha => (h4 a ha).2.1, fun a ha => ⟨(h4 a ha).1, (h4 a ha).2.1, ?_, .inl (h4 a ha).2.2.2⟩, .inr rfl, by omega⟩, ne, .inl obf, .inl obe, ?_, len, good, need⟩
    · have := (h3.blk ha).2.1; omega
    · rintro z (hz | rfl)
      · exact Nat.lt_of_lt_of_le (lt z hz) u4.size
      · exact E4.map.lt
  have X4 : Nx O w (fun z => O z ∨ z = m) w4 := ⟨u4.mono fun z hz => by rw [hz]; exact obe, fun z hz => hz.elim .inl fun x => .inr (by omega)⟩
  exact flood_Flood_forget.cw F4 fun w6 O6 F6 x6 => h w6 O6 F6 (X4.trans x6)

/-! ### the word -/
def fwS (f : Fl) (e : El) (l : MkL) (loc : Int) : S6 := (f.me, e.root, (mkM e l).1, (mkM e l).2.1, f.lh, IntKind.wrap .i64 (IntKind.wrap .i64 (f.lg + loc) - f.ll))
def wdF (f : Fl) (e : El) (l : MkL) (es : List E3) (loc : Int) : S6 × Bool :=
  if mine e = true then ((f.me, f.me, (isM e).1, (isM e).2.1, 0, loc), true)
  else if synF f e es.length = false then ((0, 0, 0, 0, 0, 0), false)
  else (fwS f e l loc, okF (flS (fwS f e l loc)))
theorem isE_no {e : El} (h : ¬ mine e = true) : isE e = e := by unfold isE; rw [if_neg h]

set_option maxRecDepth 20000 in
set_option maxHeartbeats 1000000 in
theorem flood_Flood_word.cw {O : Nat → Prop} {bf be : Nat} {f : Fl} {e : El} {l : MkL} {es : List E3} {loc : Int} {w : World} (hF : FW w O bf be f e l es) {k : TR [(true, KS), (false, [.b])] → World → Prop}
    (h : ∀ w', FW w' O bf be f (isE e) l es → Nx O w O w' → k (tS (wdF f e l es loc).1, ((wdF f e l es loc).2, ()), ()) w') :
    clS Tryz.prog F.flood_Flood_word [.pointer (some ⟨bf, 0, none⟩), .int .i64 loc] w true [(true, KS), (false, [.b])] k := by
  refine flood_Flood_word.ok ?_
  unfold flood_Flood_word.wp
  refine alK_by fun p1 w2 e1 k1 u1 => ?_
  have np1 : ¬ O p1 := fun h => by have := hF.lt p1 h; omega
  rw [ncK_eq]
  have F2 := hF.gro u1
  unfold wdF at h
  refine F2.elect (elect_Elect_Mine.cw F2 fun w6 u6 => ?_)
  have F6 := F2.gro u6
  have g6 := u1.trans u6
  refine brC (fun c => ?_) fun c => ?_
  · have c : mine e = true := c
    rw [if_pos c] at h
    rw [ncK_eq]
    refine F6.elect ?_
    obtain ⟨r, E6, hr⟩ := F6.turnB
    refine elect_Elect_Issue.cl E6 fun w10 E10 u10 => ?_
    obtain ⟨F10, X10⟩ := hr _ _ _ E10 u10
    have k10 := X10.blk (k1.gro u6) np1
    refine alK_by fun p11 w12 e11 k11 u11 => k11.sta _ rfl rfl fun w13 k13 u13 => ?_
    have g13 : Gro w10 w13 := Gro.fresh (Gro.refl _) u11 u13 e11
    rw [drK_eq, ncK_eq]
    have F13 := (F10.gro g13).gro (Gro.drew _)
    have k13 := k13.drew
    have l11 := k11.lt
    obtain ⟨r', s', b1, _⟩ := F13.ex
    refine b1.c1 1 (x := f.me) rfl ?_
    rw [ncK_eq]
    refine b1.c1 1 (x := f.me) rfl (k13.c0 rfl (k13.c1 1 rfl ?_))
    have X13 : Nx O w O w13.drew := (Nx.pre g6 X10).gro (g13.trans (Gro.drew _))
    refine ((k10.1.gro g13).drew).sta _ rfl rfl fun w21 k21 u21 => ⟨trivial, ?_⟩
    refine k21.cA (cs := KS) (tS (f.me, f.me, (isM e).1, (isM e).2.1, 0, loc)) rfl ?_
    refine h w21 (F13.upd u21 fun z hz h => by rw [h] at hz; exact np1 hz) ⟨Upd.trans X13.u u21 fun i hi h => by omega, X13.sub⟩
  · have c : ¬ mine e = true := by have c : mine e = false := c; rw [c]; simp
    rw [if_neg c, isE_no c] at h
    refine flood_Flood_Synced.cw F6 fun w24 u24 => brNot (fun c2 => ?_) fun c2 => ?_
    · have c2 : synF f e es.length = false := c2
      rw [if_pos c2] at h
      refine ((k1.gro u6).gro u24).sta _ rfl rfl fun w25 k25 u25 => k25.cA (cs := KS) (tS (0, 0, 0, 0, 0, 0)) rfl ?_
      have g25 : Gro w w25 := Upd.trans (g6.trans u24) u25 fun i hi h => by omega
      exact h w25 (hF.gro g25) (Nx.of g25)
    · have c2 : ¬ synF f e es.length = false := by have c2 : synF f e es.length = true := c2; rw [c2]; simp
      rw [if_neg c2] at h
      rw [ncK_eq]
      have F24 := F6.gro u24
      refine F24.elect ?_
      obtain ⟨r0, E24⟩ := F24.el
      refine elect_Elect_Mark.cl E24 fun w30 u30 => ?_
      refine alK_by fun p31 w32 e31 k31 u31 => k31.sta _ rfl rfl fun w33 k33 u33 => ?_
      have g33 : Gro w30 w33 := Gro.fresh (Gro.refl _) u31 u33 e31
      have G33 : Gro w w33 := ((g6.trans u24).trans u30).trans g33
      have q33 := (((k1.gro u6).gro u24).gro u30).gro g33
      have l1 := k1.lt
      have l31 := k31.lt
      have n31 : p1 < p31 := by have := u6.size; have := u24.size; have := u30.size; omega
      refine CutT.by (fun z w' => Gro w w' ∧ Gro w33 w' ∧ ∃ p, z.1 = ⟨p, 0, none⟩ ∧ p ≠ p1 ∧ Blk w' p (encs KS (tS (fwS f e l loc)))) ?_ ?_
      · rw [drK_eq]
        have gd : Gro w w33.drew := G33.trans (Gro.drew _)
        obtain ⟨r1, s1, b1, E1, _⟩ := (hF.gro gd).ex
        have m33 := k33.drew
        rw [ncK_eq]
        refine b1.c1 1 (x := f.me) rfl ?_
        rw [ncK_eq]
        refine b1.c0 (c := .p) (x := some ⟨be, 0, none⟩) rfl (m33.c0 rfl (m33.c1 1 rfl ?_))
        rw [ncK_eq]
        refine b1.c2 7 2 (x := f.lh) rfl ?_
        rw [ncK_eq]
        refine b1.c2 7 1 (x := f.lg) rfl ?_
        rw [ncK_eq]
        refine b1.c1 7 (x := f.ll) rfl ?_
        have hold : ∀ {w' : World}, Gro w33.drew w' → w'.cell? (Addr.add ⟨bf, 0, none⟩ 7) = some ((w33.drew.cell? (Addr.add ⟨bf, 0, none⟩ 7)).getD undef) ∧ w'.cell? (Addr.add (Addr.add ⟨bf, 0, none⟩ 7) 1) = some ((w33.drew.cell? (Addr.add (Addr.add ⟨bf, 0, none⟩ 7) 1)).getD undef) ∧ w'.cell? (Addr.add (Addr.add ⟨bf, 0, none⟩ 7) 2) = some ((w33.drew.cell? (Addr.add (Addr.add ⟨bf, 0, none⟩ 7) 2)).getD undef)
            ∧ w'.cell? (Addr.add ⟨p31, 0, none⟩ 1) = some ((w33.drew.cell? (Addr.add ⟨p31, 0, none⟩ 1)).getD undef) ∧ w'.cell? ⟨p31, 0, none⟩ = some ((w33.drew.cell? ⟨p31, 0, none⟩).getD undef) ∧ w'.cell? ⟨bf, 0, none⟩ = some ((w33.drew.cell? ⟨bf, 0, none⟩).getD undef) ∧ w'.cell? (Addr.add ⟨bf, 0, none⟩ 1) = some ((w33.drew.cell? (Addr.add ⟨bf, 0, none⟩ 1)).getD undef) := fun u =>
          ⟨b1.hold u (fun x => x) 7 (by simp [flC]), b1.hold2 u (fun x => x) 7 1 (by simp [flC]), b1.hold2 u (fun x => x) 7 2 (by simp [flC]), m33.hold u (fun x => x) 1 (by simp), m33.hold u (fun x => x) 0 (by simp), b1.hold u (fun x => x) 0 (by simp [flC]), b1.hold u (fun x => x) 1 (by simp [flC])⟩
        have hd := fun {w'} (u : Gro w33.drew w') => hold u
        have n52 : ∀ p, w33.drew.heap.size = p → p ≠ p1 := fun p hp => by have : w33.drew.heap.size = w33.heap.size := rfl; have := q33.lt; omega
        refine ⟨?_, ?_⟩
        · refine elect_Elect_Root.cl E1 ⟨?_, ?_⟩
          · obtain ⟨a1, a2, a3, a4, a5, a6, a7⟩ := hd (Gro.refl _)
            exact ⟨a1, a2, a3, a4, a5, a6, a7, trivial⟩
          · refine alK_by fun p52 w53 e52 k52 u52 => ⟨?_, ?_⟩
            · obtain ⟨a1, a2, a3, a4, a5, a6, a7⟩ := hd u52
              exact ⟨a1, a2, a3, a4, a5, a6, a7, trivial⟩
            · refine k52.sta _ rfl rfl fun w54 k54 u54 => ⟨trivial, ?_⟩
              have g54 : Gro w33.drew w54 := Gro.fresh (Gro.refl _) u52 u54 e52
              exact ⟨gd.trans g54, (Gro.drew _).trans g54, p52, rfl, n52 p52 e52, k54⟩
        · refine alK_by fun p55 w56 e55 k55 u55 => ⟨?_, ?_⟩
          · obtain ⟨a1, a2, a3, a4, a5, a6, a7⟩ := hd u55
            exact ⟨a1, a2, a3, a4, a5, a6, a7, trivial⟩
          · refine elect_Elect_Root.cl (E1.gro u55) ⟨?_, ?_⟩
            · obtain ⟨a1, a2, a3, a4, a5, a6, a7⟩ := hd u55
              exact ⟨a1, a2, a3, a4, a5, a7, trivial⟩
            · refine k55.sta _ rfl rfl fun w59 k59 u59 => ⟨trivial, ?_⟩
              have g59 : Gro w33.drew w59 := Gro.fresh (Gro.refl _) u55 u59 e55
              exact ⟨gd.trans g59, (Gro.drew _).trans g59, p55, rfl, n52 p55 e55, k59⟩
      · rintro ⟨z, _⟩ w36 ⟨g36, f36, p, hz, hp, kp⟩ _
        dsimp only at hz
        subst hz
        rw [drK_eq]
        have kd := kp.drew
        refine kd.cA (cs := KS) (tS (fwS f e l loc)) rfl (kd.cA (cs := KS) (tS (fwS f e l loc)) rfl ?_)
        refine frame_Good_of_frame_Sync.cl (s := fwS f e l loc) fun w64 u64 => ?_
        have hh : ∀ i, i < 6 → w64.cell? (Addr.add ⟨p, 0, none⟩ i) = some ((w36.drew.cell? (Addr.add ⟨p, 0, none⟩ i)).getD undef) := fun i hi => kd.hold u64 (fun x => x) i (by simpa [encs] using hi)
        have k64 := kp.drew.gro u64
        have g64 : Gro w w64 := (g36.trans (Gro.drew _)).trans u64
        have r64 := ((q33.gro f36).gro (Gro.drew _)).gro u64
        refine ⟨⟨hh 0 (by decide), hh 1 (by decide), hh 2 (by decide), hh 3 (by decide), hh 4 (by decide), hh 5 (by decide), hh 0 (by decide), hh 1 (by decide), hh 2 (by decide), hh 3 (by decide), hh 4 (by decide), hh 5 (by decide), trivial⟩, ?_⟩
        refine r64.sta _ rfl rfl fun w65 k65 u65 => ?_
        have g65 : Gro w w65 := Upd.trans g64 u65 fun i hi h => by omega
        have hh : ∀ i, i < 6 → w65.cell? (Addr.add ⟨p, 0, none⟩ i) = some ((w36.drew.cell? (Addr.add ⟨p, 0, none⟩ i)).getD undef) := fun i hi => kd.hold ((Upd.of_gro u64).trans u65 fun _ _ h => h) hp i (by simpa [encs] using hi)
        exact ⟨⟨hh 0 (by decide), hh 1 (by decide), hh 2 (by decide), hh 3 (by decide), hh 4 (by decide), hh 5 (by decide), trivial⟩, k65.cA (cs := KS) (tS (fwS f e l loc)) rfl (h w65 (hF.gro g65) (Nx.of g65))⟩
end Go.Proofs.YtnjmfbjgcfnanaaGreat
/- Contracts of layer 16: a flood beats and tells its time; the laws' helpers. Conditions: none. -/
namespace Go.Proofs.YtnjmfbjgcfnanaaGreat
open Go.Eng Go
set_option linter.unusedVariables false
set_option linter.unusedSimpArgs false

/-! ### beat -/
def b1f (f : Fl) (e : El) : Fl := if btB e = true then fgF f else f
def b1l (e : El) (es : List E3) : List E3 := if btB e = true then [] else es
def inT (loc : Int) : Bool := decide (0 ≤ loc) && decide (loc ≤ 1125899906842624)
theorem inT_iff {loc : Int} : inT loc = true ↔ 0 ≤ loc ∧ loc ≤ 1125899906842624 := by unfold inT; simp
theorem inT_no {loc : Int} (h : loc < 0 ∨ loc > 1125899906842624) : inT loc = false := by
  cases hb : inT loc
  · rfl
  · have := inT_iff.1 hb; omega
def btW (f : Fl) (e : El) (l : MkL) (es : List E3) (loc : Int) : S6 × Bool := wdF (b1f f e) (btE e) l (b1l e es) loc
def btF (f : Fl) (e : El) (l : MkL) (es : List E3) (loc : Int) : S6 × Bool := if inT loc = true then (if (btW f e l es loc).2 = true then ((btW f e l es loc).1, true) else ((0, 0, 0, 0, 0, 0), false)) else ((0, 0, 0, 0, 0, 0), false)
def b2e (e : El) (loc : Int) : El := if inT loc = true then isE (btE e) else btE e

set_option maxRecDepth 20000 in
set_option maxHeartbeats 1000000 in
theorem flood_Flood_Beat.cw {O : Nat → Prop} {bf be : Nat} {f : Fl} {e : El} {l : MkL} {es : List E3} {loc : Int} {w : World} (hF : FW w O bf be f e l es) {k : TR [(true, KS), (false, [.b])] → World → Prop}
    (h : ∀ w' O', FW w' O' bf be (b1f f e) (b2e e loc) l (b1l e es) → Nx O w O' w' → k (tS (btF f e l es loc).1, ((btF f e l es loc).2, ()), ()) w') :
    clS Tryz.prog F.flood_Flood_Beat [.pointer (some ⟨bf, 0, none⟩), .int .i64 loc] w true [(true, KS), (false, [.b])] k := by
  refine flood_Flood_Beat.ok ?_
  unfold flood_Flood_Beat.wp
  refine alK_by fun p1 w2 e1 k1 u1 => brF rfl ?_
  have np1 : ¬ O p1 := fun h => by have := hF.lt p1 h; omega
  have F2 := hF.gro u1
  have l1 := k1.lt
  unfold btF b2e at h
  refine CutT.by (fun _ w' => ∃ O', FW w' O' bf be (b1f f e) (btE e) l (b1l e es) ∧ Nx O w O' w' ∧ Blk w' p1 (encs KS (tS (0, 0, 0, 0, 0, 0))) ∧ ¬ O' p1) ?_ ?_
  · rw [ncK_eq]
    refine F2.elect ?_
    obtain ⟨r, E2, hr⟩ := F2.turnB
    refine elect_Elect_Beat.cl E2 fun w11 E11 u11 => ?_
    obtain ⟨F11, X11⟩ := hr _ _ _ E11 u11
    have k11 := X11.blk k1 np1
    have X11' := Nx.pre u1 X11
    refine brC (fun c => ?_) fun c => ?_
    · have c : btB e = true := c
      refine flood_Flood_forget.cw F11 fun w13 O' F13 X13 => ⟨O', ?_, X11'.trans X13, X13.blk k11.1 k11.2⟩
      unfold b1f b1l; rw [if_pos c, if_pos c]; exact F13
    · have c : ¬ btB e = true := by have c : btB e = false := c; rw [c]; simp
      refine ⟨O, ?_, X11', k11⟩
      unfold b1f b1l; rw [if_neg c, if_neg c]; exact F11
  rintro _ w7 ⟨O', F7, X7, k7, n7⟩ _
  have l7 := k7.lt
  have fin : ∀ {O'' : Nat → Prop} {w' w'' : World} {f' e' l' es'}, FW w' O'' bf be f' e' l' es' → Nx O w O'' w' → ¬ O'' p1 → Upd (fun x => x = p1) w' w'' → FW w'' O'' bf be f' e' l' es' ∧ Nx O w O'' w'' := fun hf X n u =>
    ⟨hf.upd u fun z hz h => by rw [h] at hz; exact n hz, Upd.trans X.u u fun i hi h => by omega, X.sub⟩
  refine brD (fun c => ?_) fun c1 => brD (fun c => ?_) fun c2 => ?_
  · have c : loc < 0 := c
    rw [if_neg (by rw [inT_no (.inl c)]; simp), if_neg (by rw [inT_no (.inl c)]; simp)] at h
    refine k7.sta _ rfl rfl fun w14 k14 u14 => k14.cA (cs := KS) (tS (0, 0, 0, 0, 0, 0)) rfl ?_
    obtain ⟨F14, X14⟩ := fin F7 X7 n7 u14
    exact h w14 O' F14 X14
  · have c : loc > 1125899906842624 := c
    rw [if_neg (by rw [inT_no (.inr c)]; simp), if_neg (by rw [inT_no (.inr c)]; simp)] at h
    refine k7.sta _ rfl rfl fun w14 k14 u14 => k14.cA (cs := KS) (tS (0, 0, 0, 0, 0, 0)) rfl ?_
    obtain ⟨F14, X14⟩ := fin F7 X7 n7 u14
    exact h w14 O' F14 X14
  have hin : inT loc = true := inT_iff.2 ⟨by have c : ¬ loc < 0 := c1; omega, by have c : ¬ loc > 1125899906842624 := c2; omega⟩
  rw [if_pos hin, if_pos hin] at h
  refine flood_Flood_word.cw F7 fun w19 F19 X19 => ?_
  have X19' := X7.trans X19
  have k19 := X19.blk k7 n7
  change ∀ w' O', FW w' O' bf be (b1f f e) (isE (btE e)) l (b1l e es) → _ at h
  have hW : wdF (b1f f e) (btE e) l (b1l e es) loc = btW f e l es loc := rfl
  rw [hW]
  generalize btW f e l es loc = Z at *
  refine alK_by fun p20 w21 e20 k20 u20 => k20.sta _ rfl rfl fun w22 k22 u22 => ?_
  have g22 : Gro w19 w22 := Gro.fresh (Gro.refl _) u20 u22 e20
  have F22 := F19.gro g22
  have X22 := X19'.gro g22
  have k22' := k19.1.gro g22
  refine brNot (fun c => ?_) fun c => ?_
  · have c : Z.2 = false := c
    rw [if_neg (by rw [c]; simp)] at h
    refine k22'.sta _ rfl rfl fun w23 k23 u23 => k23.cA (cs := KS) (tS (0, 0, 0, 0, 0, 0)) rfl ?_
    obtain ⟨F23, X23⟩ := fin F22 X22 k19.2 u23
    exact h w23 O' F23 X23
  · have c : Z.2 = true := c
    rw [if_pos c] at h
    change Blk w22 p20 (encs KS (tS Z.1)) at k22
    refine k22.cA (cs := KS) (tS Z.1) rfl (k22'.sta _ rfl rfl fun w26 k26 u26 => k26.cA (cs := KS) (tS Z.1) rfl ?_)
    obtain ⟨F26, X26⟩ := fin F22 X22 k19.2 u26
    exact h w26 O' F26 X26

/-! ### time -/
def tmF (f : Fl) (e : El) (es : List E3) (loc : Int) : Int × Int × Int :=
  if synF f e es.length = false then (0, 0, 9) else if inT loc = false then (0, 0, 8) else if mine e = true then (loc, 0, 0)
  else if okG (mapV f.drift es) loc = true then (gV (mapV f.drift es) loc, maxH es, 0) else (0, 0, 8)

set_option maxRecDepth 20000 in
set_option maxHeartbeats 1000000 in
theorem flood_Flood_Time.cw {O : Nat → Prop} {bf be : Nat} {f : Fl} {e : El} {l : MkL} {es : List E3} {loc : Int} {w : World} (hF : FW w O bf be f e l es) {k : TR [(false, [.i .i64]), (false, [.i .i64]), (false, [.i .i64])] → World → Prop}
    (h : ∀ w', Gro w w' → k (((tmF f e es loc).1, ()), ((tmF f e es loc).2.1, ()), ((tmF f e es loc).2.2, ()), ()) w') :
    clS Tryz.prog F.flood_Flood_Time [.pointer (some ⟨bf, 0, none⟩), .int .i64 loc] w true [(false, [.i .i64]), (false, [.i .i64]), (false, [.i .i64])] k := by
  refine flood_Flood_Time.ok ?_
  unfold flood_Flood_Time.wp
  unfold tmF at h
  refine brF rfl (flood_Flood_Synced.cw hF fun w2 u2 => brNot (fun c => ?_) fun c => ?_)
  · have c : synF f e es.length = false := c
    rw [if_pos c] at h; exact h w2 u2
  have cs : ¬ synF f e es.length = false := by have c : synF f e es.length = true := c; rw [c]; simp
  rw [if_neg cs] at h
  have F2 := hF.gro u2
  refine CutT.by (fun z w' => w' = w2 ∧ (z.1 = true ↔ inT loc = false)) ?_ ?_
  · refine brD (fun c => ⟨rfl, by have c : loc < 0 := c; simp [inT_no (.inl c)]⟩) fun c => ⟨rfl, ?_⟩
    have c : ¬ loc < 0 := c
    show decide (loc > 1125899906842624) = true ↔ _
    rw [decide_eq_true_iff]
    refine ⟨fun h => inT_no (.inr h), fun h => ?_⟩
    by_cases h2 : loc > 1125899906842624
    · exact h2
    · rw [inT_iff.2 ⟨by omega, by omega⟩] at h; cases h
  rintro ⟨z, _⟩ _ ⟨rfl, hz⟩ _
  dsimp only at hz
  refine brC (fun c => ?_) fun c => ?_
  · have c : z = true := c
    rw [if_pos (hz.1 c)] at h; exact h _ u2
  have ct : ¬ inT loc = false := fun x => by have c : z = false := c; rw [hz.2 x] at c; cases c
  rw [if_neg ct] at h
  rw [ncK_eq]
  refine F2.elect (elect_Elect_Mine.cw F2 fun w9 u9 => ?_)
  have F9 := F2.gro u9
  have g9 := u2.trans u9
  refine brC (fun c => ?_) fun c => ?_
  · have c : mine e = true := c
    rw [if_pos c] at h; exact h _ g9
  have cm' : mine e = false := c
  have cm : ¬ mine e = true := by rw [cm']; simp
  rw [if_neg cm] at h
  have hne : es ≠ [] := by
    intro h0; subst h0
    refine cs ?_
    unfold synF
    have : (e.root == e.me) = false := cm'
    rw [this]
    have := hF.need
    simp; omega
  have hMB : MB f.drift (mapV f.drift es) := mapV_MB hne hF.good
  generalize hm : mapV f.drift es = m at *
  have hm5 : m.2.2.2.2 = maxH es := by rw [← hm]; rfl
  refine CutT.by (fun z w' => Gro w w' ∧ ∃ p, z.1 = ⟨p, 0, none⟩ ∧ Blk w' p (m5 m)) ?_ ?_
  · rw [drK_eq]
    have gd : Gro w w9.drew := g9.trans (Gro.drew _)
    obtain ⟨r, s, b1, E1, o1, _⟩ := (hF.gro gd).ex
    rw [ncK_eq]
    refine b1.c2 2 3 (x := f.drift) rfl ?_
    rw [ncK_eq]
    have hd : ∀ {w' : World}, Gro w9.drew w' → w'.cell? (Addr.add (Addr.add ⟨bf, 0, none⟩ 2) 3) = some ((w9.drew.cell? (Addr.add (Addr.add ⟨bf, 0, none⟩ 2) 3)).getD undef) := fun u => b1.hold2 u (fun x => x) 2 3 (by simp [flC])
    have hT : TV w9.drew (some (Addr.add ⟨bf, 0, none⟩ 6)) s es := .inr ⟨_, rfl, Blk.slotG (fpre be f) (fpost f) b1, o1.ents⟩
    refine ⟨?_, ?_⟩
    · refine globe_Of.cl hT hF.len hF.good (fun h => absurd h hne) fun _ w18 u18 => ⟨⟨hd u18, trivial⟩, ?_⟩
      rw [hm]
      refine alK_by fun p19 w20 e19 k19 u19 => ⟨⟨hd (u18.trans u19), trivial⟩, k19.sta _ rfl rfl fun w21 k21 u21 => ⟨trivial, ?_⟩⟩
      exact ⟨gd.trans (Gro.fresh u18 u19 u21 e19), p19, rfl, k21⟩
    · refine alK_by fun p22 w23 e22 k22 u22 => ⟨⟨hd u22, trivial⟩, ?_⟩
      refine globe_Of.cl (hT.gro u22) hF.len hF.good (fun h => absurd h hne) fun _ w25 u25 => ⟨trivial, ?_⟩
      rw [hm]
      refine (k22.gro u25).sta _ rfl rfl fun w26 k26 u26 => ⟨trivial, ?_⟩
      refine ⟨gd.trans (Upd.trans (u22.trans u25) u26 fun i hi h => ?_), p22, rfl, k26⟩
      omega
  · rintro ⟨z, _⟩ w12 ⟨g12, p, hz, kp⟩ _
    dsimp only at hz
    subst hz
    refine kp.cA (cs := [.i .i64, .i .i64, .i .i64, .i .i64, .i .i64]) (t5 m) rfl ?_
    refine globe_Map_Global.cl (m := m) hMB fun w29 u29 => brNot (fun c => ?_) fun c => ?_
    · have c : okG m loc = false := c
      rw [if_neg (by rw [c]; simp)] at h
      exact h _ (g12.trans u29)
    · have c : okG m loc = true := c
      rw [if_pos c] at h
      rw [drK_eq]
      refine (kp.gro u29).drew.c1 4 (x := m.2.2.2.2) rfl ?_
      rw [hm5]
      exact h _ ((g12.trans u29).trans (Gro.drew _))

/-- a word in the document's plain form: what the law hands to the flood -/
abbrev K14' : List CK := [.i .i64, .i .i64, .i .i64, .i .i64, .i .u16, .i .u16, .i .i64, .i .i64, .i .i64, .i .i64, .i .i64, .i .i64, .i .i64, .i .i64]
def syP (p : Tvs K14') : S6 := (p.2.1, p.2.2.2.1, p.2.2.2.2.1, p.2.2.2.2.2.1, p.2.2.2.2.2.2.1, p.2.2.2.2.2.2.2.1)
end Go.Proofs.YtnjmfbjgcfnanaaGreat
