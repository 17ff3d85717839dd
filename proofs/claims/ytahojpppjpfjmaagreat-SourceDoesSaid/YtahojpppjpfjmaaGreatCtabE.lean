/- Contracts of layer 12, part E: the document's Hops. Conditions: none. -/
import Derived.Test.YtahojpppjpfjmaaGreatCtabC
namespace Go.Proofs.YtahojpppjpfjmaaGreat
open Go.Eng Go
set_option linter.unusedVariables false
set_option linter.unusedSimpArgs false

theorem ref12_Hops.cl {w : World} {s : Sl} {es : List E3} (hE : Ents w s es) (hn : es.length ≤ 1000000000) {k : TR [(false, [.i .i64])] → World → Prop} (hk : ∀ w', Gro w w' → k ((maxH es, ()), ()) w') :
    clS Tryz.prog F.ref12_Hops [.slice s.1 s.2.1 s.2.2] w false [(false, [.i .i64])] k := by
  refine ref12_Hops.ok ?_
  unfold ref12_Hops.wp
  have hl := hE.len
  refine LoopT.by (fun z w' => Gro w w' ∧ ∃ i : Nat, z = (maxH (es.take i), (i : Int), ()) ∧ i ≤ es.length) (fun z => (1000000000 - z.2.1).toNat) ⟨Gro.refl _, 0, rfl, by omega⟩ ?_
  rintro z w3 ⟨g, i, rfl, hi⟩ _
  refine brD (fun c => ?_) fun c => ?_
  · have hi' : i < es.length := by have c : (i : Int) < (s.2.1 : Int) := c; omega
    have he : es[i]? = some es[i] := List.getElem?_eq_getElem hi'
    generalize es[i] = e at he
    have hE3 := hE.gro g
    refine hE3.ix (z := (i : Int)) rfl he fun a ha => hE3.ldN ha he ?_
    refine alK_by fun p6 w7 e6 k6 u7 => k6.sta _ rfl rfl fun w8 k8 u8 => k8.i1 2 rfl ⟨⟨Gro.fresh g u7 u8 e6, i + 1, ?_, by omega⟩, ?_⟩
    · show ((if e.2.2 > maxH (es.take i) then e.2.2 else maxH (es.take i)), IntKind.wrap .i64 ((i : Int) + 1), ()) = _
      rw [len_succ (by omega), List.take_add_one, he]
      show _ = (maxH (es.take i ++ [e]), _)
      rw [maxH_snoc]; rfl
    · show (1000000000 - IntKind.wrap .i64 ((i : Int) + 1)).toNat < (1000000000 - (i : Int)).toNat
      rw [len_succ (by omega)]; omega
  · have hi' : i = es.length := by have c : ¬ (i : Int) < (s.2.1 : Int) := c; omega
    subst hi'
    have := hk w3 g
    rw [List.take_length]
    exact this
end Go.Proofs.YtahojpppjpfjmaaGreat
