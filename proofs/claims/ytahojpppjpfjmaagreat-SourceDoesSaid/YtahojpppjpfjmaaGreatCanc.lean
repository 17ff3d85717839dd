/- Contracts of layers 2, 5 and 23 that AnchorRuns needs: numbers that go round, an anchor's frame, the book. Conditions: none. -/
import Derived.Test.YtahojpppjpfjmaaGreatCfix
import Derived.Test.YtahojpppjpfjmaaGreatEngX
namespace Go.Proofs.YtahojpppjpfjmaaGreat
open Go.Eng Go
set_option linter.unusedVariables false
set_option linter.unusedSimpArgs false

abbrev A6 := Int × Int × Int × Int × Int × Int
abbrev K6 : List CK := [.i .i64, .i .u16, .i .i64, .i .u16, .i .i64, .i .i64]
def a6 (a : A6) : List Value := [.int .i64 a.1, .int .u16 a.2.1, .int .i64 a.2.2.1, .int .u16 a.2.2.2.1, .int .i64 a.2.2.2.2.1, .int .i64 a.2.2.2.2.2]
def t6 (a : A6) : Tvs K6 := (a.1, a.2.1, a.2.2.1, a.2.2.2.1, a.2.2.2.2.1, a.2.2.2.2.2, ())
abbrev v6 (a : A6) : Value := .agg #[.int .i64 a.1, .int .u16 a.2.1, .int .i64 a.2.2.1, .int .u16 a.2.2.2.1, .int .i64 a.2.2.2.2.1, .int .i64 a.2.2.2.2.2]

def nwr (a b : Int) : Bool := decide (IntKind.wrap .i16 (IntKind.wrap .u16 (a - b)) > 0)
theorem wrap_Newer.cl {a b : Int} {w : World} {k : TR [(false, [.b])] → World → Prop} (h : k ((nwr a b, ()), ()) w) : clS Tryz.prog F.wrap_Newer [.int .u16 a, .int .u16 b] w false [(false, [.b])] k := by
  refine wrap_Newer.ok ?_
  unfold wrap_Newer.wp
  exact h
theorem wrap_Next.cl {a : Int} {w : World} {k : TR [(false, [.i .u16])] → World → Prop} (h : k ((IntKind.wrap .u16 (a + 1), ()), ()) w) : clS Tryz.prog F.wrap_Next [.int .u16 a] w false [(false, [.i .u16])] k := by
  refine wrap_Next.ok ?_
  unfold wrap_Next.wp
  exact h

theorem frame_node.cl {n : Int} {w : World} {k : TR [(true, [.i .i64, .i .i64, .i .i64])] → World → Prop} (h : ∀ w', Gro w w' → k ((1, n, 63, ()), ()) w') : clS Tryz.prog F.frame_node [.int .i64 n] w false [(true, [.i .i64, .i .i64, .i .i64])] k := by
  refine frame_node.ok ?_
  unfold frame_node.wp
  exact alK_by fun p w2 e k1 u1 => k1.sta _ rfl rfl fun w3 k3 u3 => k3.ld3 (h w3 (Gro.fresh (Gro.refl _) u1 u3 e))
theorem frame_short.cl {n : Int} (hn : U16 n) {w : World} {k : TR [(true, [.i .i64, .i .i64, .i .i64])] → World → Prop} (h : ∀ w', Gro w w' → k ((2, n, 65535, ()), ()) w') : clS Tryz.prog F.frame_short [.int .u16 n] w false [(true, [.i .i64, .i .i64, .i .i64])] k := by
  refine frame_short.ok ?_
  unfold frame_short.wp
  rw [w64_in (by unfold U16 at hn; unfold I64; omega)]
  exact alK_by fun p w2 e k1 u1 => k1.sta _ rfl rfl fun w3 k3 u3 => k3.ld3 (h w3 (Gro.fresh (Gro.refl _) u1 u3 e))
theorem frame_time.cl {n : Int} {w : World} {k : TR [(true, [.i .i64, .i .i64, .i .i64])] → World → Prop} (h : ∀ w', Gro w w' → k ((8, n, 1125899906842624, ()), ()) w') : clS Tryz.prog F.frame_time [.int .i64 n] w false [(true, [.i .i64, .i .i64, .i .i64])] k := by
  refine frame_time.ok ?_
  unfold frame_time.wp
  exact alK_by fun p w2 e k1 u1 => k1.sta _ rfl rfl fun w3 k3 u3 => k3.ld3 (h w3 (Gro.fresh (Gro.refl _) u1 u3 e))

/-- a field is within its bounds -/
def inF (e : E3) : Bool := decide (0 ≤ e.2.1) && decide (e.2.1 ≤ e.2.2)
def okF (es : List E3) : Bool := es.all inF
def flA (a : A6) : List E3 := [(1, a.1, 63), (2, a.2.1, 65535), (1, a.2.2.1, 63), (2, a.2.2.2.1, 65535), (8, a.2.2.2.2.1, 1125899906842624), (8, a.2.2.2.2.2, 1125899906842624)]
def UA (a : A6) : Prop := U16 a.2.1 ∧ U16 a.2.2.2.1
theorem ents_new {w : World} {b n : Nat} {es : List E3} {cs : List Value} (h : Blk w b cs) (e : cs = flat3 es) (hn : n = es.length) : Ents w (some ⟨b, 0, none⟩, n, n) es := by
  subst e
  exact ⟨by rw [flat3_length, hn], fun _ => ⟨_, rfl, h.news⟩⟩

set_option maxRecDepth 20000 in
theorem frame_Anchor_fields.cl {a : A6} (hu : UA a) {w : World} {k : TR [(false, [.sl])] → World → Prop} (h : ∀ s w', Gro w w' → Ents w' s (flA a) → k ((s, ()), ()) w') : clS Tryz.prog F.frame_Anchor_fields [v6 a] w false [(false, [.sl])] k := by
  refine frame_Anchor_fields.ok ?_
  unfold frame_Anchor_fields.wp
  refine alK_by fun p1 w2 e1 k1 u1 => ?_
  rw [drK_eq]
  have k3 := k1.drew
  have hold : ∀ {w' : World}, Gro w2.drew w' → Hold [(16, (Addr.add ⟨p1, 0, none⟩ 5), (w2.drew.cell? (Addr.add ⟨p1, 0, none⟩ 5)).getD undef), (13, (Addr.add ⟨p1, 0, none⟩ 4), (w2.drew.cell? (Addr.add ⟨p1, 0, none⟩ 4)).getD undef), (10, (Addr.add ⟨p1, 0, none⟩ 3), (w2.drew.cell? (Addr.add ⟨p1, 0, none⟩ 3)).getD undef), (7, (Addr.add ⟨p1, 0, none⟩ 2), (w2.drew.cell? (Addr.add ⟨p1, 0, none⟩ 2)).getD undef), (4, (Addr.add ⟨p1, 0, none⟩ 1), (w2.drew.cell? (Addr.add ⟨p1, 0, none⟩ 1)).getD undef), (1, ⟨p1, 0, none⟩, (w2.drew.cell? ⟨p1, 0, none⟩).getD undef)] w' :=
    fun u => ⟨k3.hold u (fun x => x) 5 (by simp), k3.hold u (fun x => x) 4 (by simp), k3.hold u (fun x => x) 3 (by simp), k3.hold u (fun x => x) 2 (by simp), k3.hold u (fun x => x) 1 (by simp), k3.hold u (fun x => x) 0 (by simp), trivial⟩
  refine k3.c0 rfl (k3.c1 1 rfl (k3.c1 2 rfl (k3.c1 3 rfl (k3.c1 4 rfl (k3.c1 5 rfl ?_)))))
  refine frame_node.cl fun w11 u11 => ⟨hold u11, frame_short.cl hu.1 fun w13 u13 => ⟨hold (u11.trans u13), frame_node.cl fun w15 u15 => ⟨hold ((u11.trans u13).trans u15), ?_⟩⟩⟩
  have g15 := (u11.trans u13).trans u15
  refine frame_short.cl hu.2 fun w17 u17 => ⟨hold (g15.trans u17), frame_time.cl fun w19 u19 => ⟨hold ((g15.trans u17).trans u19), frame_time.cl fun w21 u21 => ⟨hold (((g15.trans u17).trans u19).trans u21), ?_⟩⟩⟩
  have g21 := ((g15.trans u17).trans u19).trans u21
  refine alK_by fun p22 w23 e22 k22 u22 => ⟨hold (g21.trans u22), h (some ⟨p22, 0, none⟩, 6, 6) w23 (((Upd.drew u1).trans g21 fun _ _ x => x).trans u22 fun _ _ x => x) (ents_new k22 rfl rfl)⟩

theorem inF_iff {e : E3} : inF e = true ↔ 0 ≤ e.2.1 ∧ e.2.1 ≤ e.2.2 := by unfold inF; simp
theorem okF_no {es : List E3} {i : Nat} {e : E3} (he : es[i]? = some e) (h : inF e = false) : okF es = false := by
  unfold okF
  rw [List.all_eq_false]
  exact ⟨e, List.mem_of_getElem? he, by rw [h]; simp⟩
theorem okF_take {es : List E3} (h : ∀ e ∈ es, inF e = true) : okF es = true := by unfold okF; rw [List.all_eq_true]; exact h

/-! ### the book -/
def bk (has : Bool) (a : A6) : List Value := .bool has :: a6 a
end Go.Proofs.YtahojpppjpfjmaaGreat
