/- The law FloodDoes. Conditions: numbers of 16 bits are such. -/
import Derived.Test.YtahojpppjpfjmaaGreatCref16b
import Derived.Test.YtahojpppjpfjmaaGreatCfloK
namespace Go.Proofs.YtahojpppjpfjmaaGreat
open Go.Eng Go
set_option linter.unusedVariables false
set_option linter.unusedSimpArgs false

/-! ### a nil node -/
theorem flood_Flood_Beat.nil {loc : Int} {w : World} {k : TR [(true, KS), (false, [.b])] → World → Prop} (h : ∀ w', Gro w w' → k (tS (0, 0, 0, 0, 0, 0), (false, ()), ()) w') : clS Tryz.prog F.flood_Flood_Beat [.pointer none, .int .i64 loc] w true [(true, KS), (false, [.b])] k := by
  refine flood_Flood_Beat.ok ?_
  unfold flood_Flood_Beat.wp
  exact alK_by fun p1 w2 e1 k1 u1 => brT rfl (k1.sta _ rfl rfl fun w3 k3 u3 => k3.cA (cs := KS) (tS (0, 0, 0, 0, 0, 0)) rfl (h w3 (Gro.fresh (Gro.refl _) u1 u3 e1)))
theorem flood_Flood_Time.nil {loc : Int} {w : World} {k : TR [(false, [.i .i64]), (false, [.i .i64]), (false, [.i .i64])] → World → Prop} (h : k ((0, ()), (0, ()), (2, ()), ()) w) : clS Tryz.prog F.flood_Flood_Time [.pointer none, .int .i64 loc] w true [(false, [.i .i64]), (false, [.i .i64]), (false, [.i .i64])] k := by
  refine flood_Flood_Time.ok ?_
  unfold flood_Flood_Time.wp
  exact h
theorem flood_Flood_Hear.nil {s0 s1 s2 s3 s4 s5 loc : Int} {w : World} {k : TR [(false, [.i .i64])] → World → Prop} (h : ∀ w', Gro w w' → k ((0, ()), ()) w') : clS Tryz.prog F.flood_Flood_Hear [.pointer none, .agg #[.int .i64 s0, .int .i64 s1, .int .u16 s2, .int .u16 s3, .int .i64 s4, .int .i64 s5], .int .i64 loc] w false [(false, [.i .i64])] k := by
  refine flood_Flood_Hear.ok ?_
  unfold flood_Flood_Hear.wp
  exact alK_by fun p1 w2 e1 k1 u1 => brT rfl (h w2 u1)
theorem flood_Flood_Synced.nil {w : World} {k : TR [(false, [.b])] → World → Prop} (h : ∀ w', Gro w w' → k ((false, ()), ()) w') : clS Tryz.prog F.flood_Flood_Synced [.pointer none] w false [(false, [.b])] k := by
  refine flood_Flood_Synced.ok ?_
  unfold flood_Flood_Synced.wp
  rw [drK_eq]
  exact h _ (Gro.drew w)
/-! ### the program's flood and the document's, side by side -/
structure FP (w W : World) (bf be br bE : Nat) (F0 : Fl) (me r0 r1 : Int) (O Or : Nat → Prop) (f : Fl) (e : El) (l : MkL) (es : List E3) : Prop where
  g : Gro w W
  fw : FW W O bf be f e l es
  rw' : RW W Or br bE f e l es
  dis : ∀ z, O z → ¬ Or z
  hO : ∀ z, O z → w.heap.size ≤ z
  hR : ∀ z, Or z → w.heap.size ≤ z
  ff : fgF f = F0
  em : e.me = me
  et : e.tmo = r0
  ei : e.ign = r1
theorem FP.gro {w W W' : World} {bf be br bE : Nat} {F0 : Fl} {me r0 r1 : Int} {O Or : Nat → Prop} {f : Fl} {e : El} {l : MkL} {es : List E3} (h : FP w W bf be br bE F0 me r0 r1 O Or f e l es) (u : Gro W W') : FP w W' bf be br bE F0 me r0 r1 O Or f e l es :=
  ⟨h.g.trans u, h.fw.gro u, h.rw'.gro u, h.dis, h.hO, h.hR, h.ff, h.em, h.et, h.ei⟩
theorem FP.upd {S : Nat → Prop} {w W W' : World} {bf be br bE : Nat} {F0 : Fl} {me r0 r1 : Int} {O Or : Nat → Prop} {f : Fl} {e : El} {l : MkL} {es : List E3} (h : FP w W bf be br bE F0 me r0 r1 O Or f e l es) (u : Upd S W W') (h1 : ∀ z, O z → ¬ S z) (h2 : ∀ z, Or z → ¬ S z) (h3 : ∀ z, S z → w.heap.size ≤ z) : FP w W' bf be br bE F0 me r0 r1 O Or f e l es :=
  ⟨Upd.trans h.g u fun i hi hs => by have := h3 i hs; omega, h.fw.upd u h1, h.rw'.upd u h2, h.dis, h.hO, h.hR, h.ff, h.em, h.et, h.ei⟩
/-- between the two steps -/
theorem FP.mid {w W W1 : World} {bf be br bE : Nat} {F0 : Fl} {me r0 r1 : Int} {O Or O1 : Nat → Prop} {f : Fl} {e : El} {l : MkL} {es : List E3} (h : FP w W bf be br bE F0 me r0 r1 O Or f e l es) (X : Nx O W O1 W1) : RW W1 Or br bE f e l es ∧ ∀ z, O1 z → ¬ Or z :=
  ⟨h.rw'.upd X.u fun z hz ho => h.dis z ho hz, fun z hz hr => (X.sub z hz).elim (fun ho => h.dis z ho hr) fun hs => by have := h.rw'.lt z hr; omega⟩
theorem FP.both {w W W1 W2 : World} {bf be br bE : Nat} {F0 : Fl} {me r0 r1 : Int} {O Or O1 Or1 : Nat → Prop} {f f1 : Fl} {e e1 : El} {l l1 : MkL} {es es1 : List E3} (h : FP w W bf be br bE F0 me r0 r1 O Or f e l es)
    (X1 : Nx O W O1 W1) (F1 : FW W1 O1 bf be f1 e1 l1 es1) (X2 : Nx Or W1 Or1 W2) (R2 : RW W2 Or1 br bE f1 e1 l1 es1) (ff : fgF f1 = F0) (em : e1.me = me) (et : e1.tmo = r0) (ei : e1.ign = r1) :
    FP w W2 bf be br bE F0 me r0 r1 O1 Or1 f1 e1 l1 es1 ∧ (∀ q cs, Blk W q cs → ¬ O q → ¬ Or q → Blk W2 q cs ∧ ¬ O1 q ∧ ¬ Or1 q) := by
  have d1 := (h.mid X1).2
  refine ⟨⟨Upd.trans (Upd.trans h.g X1.u fun i hi ho => by have := h.hO i ho; omega) X2.u fun i hi ho => by have := h.hR i ho; omega, F1.upd X2.u fun z hz ho => d1 z hz ho, R2, ?_, ?_, ?_, ff, em, et, ei⟩, ?_⟩
  · intro z hz hr
    rcases X2.sub z hr with h' | h'
    · exact d1 z hz h'
    · have := F1.lt z hz; omega
  · intro z hz
    rcases X1.sub z hz with h' | h'
    · exact h.hO z h'
    · exact Nat.le_trans h.g.size h'
  · intro z hz
    rcases X2.sub z hz with h' | h'
    · exact h.hR z h'
    · exact Nat.le_trans (Nat.le_trans h.g.size X1.u.size) h'
  · intro q cs hq n1 n2
    obtain ⟨b1, b2⟩ := X1.blk hq n1
    obtain ⟨b3, b4⟩ := X2.blk b1 n2
    exact ⟨b3, b2, b4⟩

end Go.Proofs.YtahojpppjpfjmaaGreat
