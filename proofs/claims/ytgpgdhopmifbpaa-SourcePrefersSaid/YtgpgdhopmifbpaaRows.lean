/-
  No cell of these rows narrows 'for every input' (looked for: loops, veiled, ifaces, maps, wideKeys, modest, calm, conditions, laid).
  DERIVED. THE GIVEN ROWS OF THIS SEAT. 8 by the template 'for every input the law returns true; each argument reads behind the call as it read before'; 0 by the template 'total and deterministic' (their statements: YtgpgdhopmifbpaaTotals.lean).
  GIVEN WITH THE SEED: the statements are not yours to turn. If you find one false, say at which input.
  Laid BY PROGRAM, IN A SANDBOX (cutbox-rows.mjs): the forced cells as the released guide's own fill.sh prints them over the translation 963f2b61c42b5833… (all of the seat's roots in one cut). By AI agents, Wed Nov 11 2026. No macro, syntax, notation, axiom, sorry.
-/
import Derived.Test.YtgpgdhopmifbpaaChecked
import GoSem.Claim
import GoSem.ClaimJoined
import GoSem.ClaimMapViews
import Derived.JoinedTies
import Derived.KernelRfl
namespace Go.Proofs.Ytgpgdhopmifbpaa
/- THE CELL 'sum', in the pinned program and in every row, IS THE sha256 OF THE DUMP (.gsa) THAT YtgpgdhopmifbpaaProg.lean LOADS. Nothing in Lean hashes anything: it is a label: what it is worth is what the hold of that sum in a sandbox is worth. -/
noncomputable def Try.pinned : Pinned := { name := "ytgpgdhopmifbpaa", sum := "963f2b61c42b583358195c01c6e58291019bbe12c8edbf850df9e711e504ae13", checked := Try.checked }
namespace Rows
def none {H : Type} : Left H := { results := [], args := [] }

/-- 'angeluslaw23.AnchorRuns': WHATEVER THE INPUT: true; the input reads as it did. -/
def anchorRunsSpec : ChangeSpec := { name := "anchorRuns", fn := fun _ => fun
  | [d1, d2, d3, d4] => { results := [.lit (.bool true)], args := [d1, d2, d3, d4] }
  | _ => none }
def anchorRunsRow : OpenClaim := { program := "ytgpgdhopmifbpaa", sum := "963f2b61c42b583358195c01c6e58291019bbe12c8edbf850df9e711e504ae13", func := "angelus/angeluslaw23.AnchorRuns", spec := "anchorRuns", unfollowed := true, recurses := true, apart := false }
def AnchorRunsSaid : Prop := anchorRunsRow.holds Try.pinned (OpenSpec.ofChange anchorRunsSpec)

/-- ITS FALSE NEIGHBOUR: 'it returns false'. Refute it at one input. -/
def anchorRunsWrong : ChangeSpec := { name := "anchorRuns", fn := fun _ => fun
  | [d1, d2, d3, d4] => { results := [.lit (.bool false)], args := [d1, d2, d3, d4] }
  | _ => none }
def AnchorRunsWrongFalsely : Prop := anchorRunsRow.holds Try.pinned (OpenSpec.ofChange anchorRunsWrong)

/-- 'angeluslaw19.SourceExact': WHATEVER THE INPUT: true; the input reads as it did. -/
def sourceExactSpec : ChangeSpec := { name := "sourceExact", fn := fun _ => fun
  | [d1, d2, d3, d4] => { results := [.lit (.bool true)], args := [d1, d2, d3, d4] }
  | _ => none }
def sourceExactRow : OpenClaim := { program := "ytgpgdhopmifbpaa", sum := "963f2b61c42b583358195c01c6e58291019bbe12c8edbf850df9e711e504ae13", func := "angelus/angeluslaw19.SourceExact", spec := "sourceExact", unfollowed := true, recurses := true, named := ["math/bits.divideError", "math/bits.overflowError"], apart := false }
def SourceExactSaid : Prop := sourceExactRow.holds Try.pinned (OpenSpec.ofChange sourceExactSpec)

/-- ITS FALSE NEIGHBOUR: 'it returns false'. Refute it at one input. -/
def sourceExactWrong : ChangeSpec := { name := "sourceExact", fn := fun _ => fun
  | [d1, d2, d3, d4] => { results := [.lit (.bool false)], args := [d1, d2, d3, d4] }
  | _ => none }
def SourceExactWrongFalsely : Prop := sourceExactRow.holds Try.pinned (OpenSpec.ofChange sourceExactWrong)

/-- 'angeluslaw19.SourceAges': WHATEVER THE INPUT: true; the input reads as it did. -/
def sourceAgesSpec : ChangeSpec := { name := "sourceAges", fn := fun _ => fun
  | [d1, d2, d3] => { results := [.lit (.bool true)], args := [d1, d2, d3] }
  | _ => none }
def sourceAgesRow : OpenClaim := { program := "ytgpgdhopmifbpaa", sum := "963f2b61c42b583358195c01c6e58291019bbe12c8edbf850df9e711e504ae13", func := "angelus/angeluslaw19.SourceAges", spec := "sourceAges", unfollowed := true, recurses := true, named := ["math/bits.divideError", "math/bits.overflowError"], apart := false }
def SourceAgesSaid : Prop := sourceAgesRow.holds Try.pinned (OpenSpec.ofChange sourceAgesSpec)

/-- ITS FALSE NEIGHBOUR: 'it returns false'. Refute it at one input. -/
def sourceAgesWrong : ChangeSpec := { name := "sourceAges", fn := fun _ => fun
  | [d1, d2, d3] => { results := [.lit (.bool false)], args := [d1, d2, d3] }
  | _ => none }
def SourceAgesWrongFalsely : Prop := sourceAgesRow.holds Try.pinned (OpenSpec.ofChange sourceAgesWrong)

/-- 'angeluslaw16.FloodSays': WHATEVER THE INPUT: true; the input reads as it did. -/
def floodSaysSpec : ChangeSpec := { name := "floodSays", fn := fun _ => fun
  | [d1, d2, d3] => { results := [.lit (.bool true)], args := [d1, d2, d3] }
  | _ => none }
def floodSaysRow : OpenClaim := { program := "ytgpgdhopmifbpaa", sum := "963f2b61c42b583358195c01c6e58291019bbe12c8edbf850df9e711e504ae13", func := "angelus/angeluslaw16.FloodSays", spec := "floodSays", unfollowed := true, recurses := true, named := ["math/bits.divideError", "math/bits.overflowError"], apart := false }
def FloodSaysSaid : Prop := floodSaysRow.holds Try.pinned (OpenSpec.ofChange floodSaysSpec)

/-- ITS FALSE NEIGHBOUR: 'it returns false'. Refute it at one input. -/
def floodSaysWrong : ChangeSpec := { name := "floodSays", fn := fun _ => fun
  | [d1, d2, d3] => { results := [.lit (.bool false)], args := [d1, d2, d3] }
  | _ => none }
def FloodSaysWrongFalsely : Prop := floodSaysRow.holds Try.pinned (OpenSpec.ofChange floodSaysWrong)

/-- 'angeluslaw16.FloodChain': WHATEVER THE INPUT: true; the input reads as it did. -/
def floodChainSpec : ChangeSpec := { name := "floodChain", fn := fun _ => fun
  | [d1, d2, d3] => { results := [.lit (.bool true)], args := [d1, d2, d3] }
  | _ => none }
def floodChainRow : OpenClaim := { program := "ytgpgdhopmifbpaa", sum := "963f2b61c42b583358195c01c6e58291019bbe12c8edbf850df9e711e504ae13", func := "angelus/angeluslaw16.FloodChain", spec := "floodChain", unfollowed := true, recurses := true, named := ["math/bits.divideError", "math/bits.overflowError"], apart := false }
def FloodChainSaid : Prop := floodChainRow.holds Try.pinned (OpenSpec.ofChange floodChainSpec)

/-- ITS FALSE NEIGHBOUR: 'it returns false'. Refute it at one input. -/
def floodChainWrong : ChangeSpec := { name := "floodChain", fn := fun _ => fun
  | [d1, d2, d3] => { results := [.lit (.bool false)], args := [d1, d2, d3] }
  | _ => none }
def FloodChainWrongFalsely : Prop := floodChainRow.holds Try.pinned (OpenSpec.ofChange floodChainWrong)

/-- 'angeluslaw16.FloodCounts': WHATEVER THE INPUT: true; the input reads as it did. -/
def floodCountsSpec : ChangeSpec := { name := "floodCounts", fn := fun _ => fun
  | [d1, d2, d3] => { results := [.lit (.bool true)], args := [d1, d2, d3] }
  | _ => none }
def floodCountsRow : OpenClaim := { program := "ytgpgdhopmifbpaa", sum := "963f2b61c42b583358195c01c6e58291019bbe12c8edbf850df9e711e504ae13", func := "angelus/angeluslaw16.FloodCounts", spec := "floodCounts", unfollowed := true, recurses := true, named := ["math/bits.divideError", "math/bits.overflowError"], apart := false }
def FloodCountsSaid : Prop := floodCountsRow.holds Try.pinned (OpenSpec.ofChange floodCountsSpec)

/-- ITS FALSE NEIGHBOUR: 'it returns false'. Refute it at one input. -/
def floodCountsWrong : ChangeSpec := { name := "floodCounts", fn := fun _ => fun
  | [d1, d2, d3] => { results := [.lit (.bool false)], args := [d1, d2, d3] }
  | _ => none }
def FloodCountsWrongFalsely : Prop := floodCountsRow.holds Try.pinned (OpenSpec.ofChange floodCountsWrong)

/-- 'angeluslaw16.FloodKnows': WHATEVER THE INPUT: true; the input reads as it did. -/
def floodKnowsSpec : ChangeSpec := { name := "floodKnows", fn := fun _ => fun
  | [d1, d2, d3] => { results := [.lit (.bool true)], args := [d1, d2, d3] }
  | _ => none }
def floodKnowsRow : OpenClaim := { program := "ytgpgdhopmifbpaa", sum := "963f2b61c42b583358195c01c6e58291019bbe12c8edbf850df9e711e504ae13", func := "angelus/angeluslaw16.FloodKnows", spec := "floodKnows", unfollowed := true, recurses := true, named := ["math/bits.divideError", "math/bits.overflowError"], apart := false }
def FloodKnowsSaid : Prop := floodKnowsRow.holds Try.pinned (OpenSpec.ofChange floodKnowsSpec)

/-- ITS FALSE NEIGHBOUR: 'it returns false'. Refute it at one input. -/
def floodKnowsWrong : ChangeSpec := { name := "floodKnows", fn := fun _ => fun
  | [d1, d2, d3] => { results := [.lit (.bool false)], args := [d1, d2, d3] }
  | _ => none }
def FloodKnowsWrongFalsely : Prop := floodKnowsRow.holds Try.pinned (OpenSpec.ofChange floodKnowsWrong)

/-- 'angeluslaw19.SourcePrefers': WHATEVER THE INPUT: true; the input reads as it did. -/
def sourcePrefersSpec : ChangeSpec := { name := "sourcePrefers", fn := fun _ => fun
  | [d1, d2, d3, d4] => { results := [.lit (.bool true)], args := [d1, d2, d3, d4] }
  | _ => none }
def sourcePrefersRow : OpenClaim := { program := "ytgpgdhopmifbpaa", sum := "963f2b61c42b583358195c01c6e58291019bbe12c8edbf850df9e711e504ae13", func := "angelus/angeluslaw19.SourcePrefers", spec := "sourcePrefers", unfollowed := true, recurses := true, named := ["math/bits.divideError", "math/bits.overflowError"], apart := false }
def SourcePrefersSaid : Prop := sourcePrefersRow.holds Try.pinned (OpenSpec.ofChange sourcePrefersSpec)

/-- ITS FALSE NEIGHBOUR: 'it returns false'. Refute it at one input. -/
def sourcePrefersWrong : ChangeSpec := { name := "sourcePrefers", fn := fun _ => fun
  | [d1, d2, d3, d4] => { results := [.lit (.bool false)], args := [d1, d2, d3, d4] }
  | _ => none }
def SourcePrefersWrongFalsely : Prop := sourcePrefersRow.holds Try.pinned (OpenSpec.ofChange sourcePrefersWrong)

/- THE SECOND FORM. 'bulk': how many values and letters a reading holds, each counted each time it is reached (what is shared counts as often as it is met; a slice's spare places count too). A statement '..UptoSaid' is the law's where the arguments, and the package variables that the reading takes, are together of bulk at most 1048576: NARROWER than '..Said'. Prove '..Said' where nothing that the law and all that it calls make is longer than what came in: it says more and counts as full. Else prove '..UptoSaid'. A law counts once. -/
mutual
def uptoBulk {H : Type} : DataW H → Nat
  | .lit (.string bytes) => bytes.length + 1
  | .lit _ => 1
  | .nil => 1
  | .ptr d => uptoBulk d + 1
  | .slice elems spare => uptoBulkAll elems + uptoBulkAll spare + 1
  | .agg parts => uptoBulkAll parts + 1
  | .iface _ d => uptoBulk d + 1
  | .map entries => uptoBulkEntries entries + 1
  | .held _ => 1
def uptoBulkAll {H : Type} : List (DataW H) → Nat
  | [] => 0
  | d :: r => uptoBulk d + uptoBulkAll r
def uptoBulkEntries {H : Type} : List (Lit × DataW H) → Nat
  | [] => 0
  | x :: r => uptoBulkEntry x + uptoBulkEntries r
def uptoBulkEntry {H : Type} : Lit × DataW H → Nat
  | (.string bytes, d) => bytes.length + uptoBulk d + 1
  | (_, d) => uptoBulk d + 1
 end
def uptoSmall : (H : Type) → List (DataW H) → Bool := fun _ ds => decide (uptoBulkAll ds ≤ 1048576)
def OpenSpec.upto (s : _root_.Go.ChangeSpec) : _root_.Go.OpenSpec := { _root_.Go.OpenSpec.ofChange s with cond := some uptoSmall }

/-- 'angeluslaw23.AnchorRuns', WHERE WHAT IT READS IS OF BULK AT MOST 1048576: true; the input reads as it did. -/
def anchorRunsUptoRow : OpenClaim := { program := "ytgpgdhopmifbpaa", sum := "963f2b61c42b583358195c01c6e58291019bbe12c8edbf850df9e711e504ae13", func := "angelus/angeluslaw23.AnchorRuns", spec := "anchorRuns", unfollowed := true, recurses := true, apart := false, narrowed := true }
def AnchorRunsUptoSaid : Prop := anchorRunsUptoRow.holds Try.pinned (OpenSpec.upto anchorRunsSpec)

/-- 'angeluslaw19.SourceExact', WHERE WHAT IT READS IS OF BULK AT MOST 1048576: true; the input reads as it did. -/
def sourceExactUptoRow : OpenClaim := { program := "ytgpgdhopmifbpaa", sum := "963f2b61c42b583358195c01c6e58291019bbe12c8edbf850df9e711e504ae13", func := "angelus/angeluslaw19.SourceExact", spec := "sourceExact", unfollowed := true, recurses := true, named := ["math/bits.divideError", "math/bits.overflowError"], apart := false, narrowed := true }
def SourceExactUptoSaid : Prop := sourceExactUptoRow.holds Try.pinned (OpenSpec.upto sourceExactSpec)

/-- 'angeluslaw19.SourceAges', WHERE WHAT IT READS IS OF BULK AT MOST 1048576: true; the input reads as it did. -/
def sourceAgesUptoRow : OpenClaim := { program := "ytgpgdhopmifbpaa", sum := "963f2b61c42b583358195c01c6e58291019bbe12c8edbf850df9e711e504ae13", func := "angelus/angeluslaw19.SourceAges", spec := "sourceAges", unfollowed := true, recurses := true, named := ["math/bits.divideError", "math/bits.overflowError"], apart := false, narrowed := true }
def SourceAgesUptoSaid : Prop := sourceAgesUptoRow.holds Try.pinned (OpenSpec.upto sourceAgesSpec)

/-- 'angeluslaw16.FloodSays', WHERE WHAT IT READS IS OF BULK AT MOST 1048576: true; the input reads as it did. -/
def floodSaysUptoRow : OpenClaim := { program := "ytgpgdhopmifbpaa", sum := "963f2b61c42b583358195c01c6e58291019bbe12c8edbf850df9e711e504ae13", func := "angelus/angeluslaw16.FloodSays", spec := "floodSays", unfollowed := true, recurses := true, named := ["math/bits.divideError", "math/bits.overflowError"], apart := false, narrowed := true }
def FloodSaysUptoSaid : Prop := floodSaysUptoRow.holds Try.pinned (OpenSpec.upto floodSaysSpec)

/-- 'angeluslaw16.FloodChain', WHERE WHAT IT READS IS OF BULK AT MOST 1048576: true; the input reads as it did. -/
def floodChainUptoRow : OpenClaim := { program := "ytgpgdhopmifbpaa", sum := "963f2b61c42b583358195c01c6e58291019bbe12c8edbf850df9e711e504ae13", func := "angelus/angeluslaw16.FloodChain", spec := "floodChain", unfollowed := true, recurses := true, named := ["math/bits.divideError", "math/bits.overflowError"], apart := false, narrowed := true }
def FloodChainUptoSaid : Prop := floodChainUptoRow.holds Try.pinned (OpenSpec.upto floodChainSpec)

/-- 'angeluslaw16.FloodCounts', WHERE WHAT IT READS IS OF BULK AT MOST 1048576: true; the input reads as it did. -/
def floodCountsUptoRow : OpenClaim := { program := "ytgpgdhopmifbpaa", sum := "963f2b61c42b583358195c01c6e58291019bbe12c8edbf850df9e711e504ae13", func := "angelus/angeluslaw16.FloodCounts", spec := "floodCounts", unfollowed := true, recurses := true, named := ["math/bits.divideError", "math/bits.overflowError"], apart := false, narrowed := true }
def FloodCountsUptoSaid : Prop := floodCountsUptoRow.holds Try.pinned (OpenSpec.upto floodCountsSpec)

/-- 'angeluslaw16.FloodKnows', WHERE WHAT IT READS IS OF BULK AT MOST 1048576: true; the input reads as it did. -/
def floodKnowsUptoRow : OpenClaim := { program := "ytgpgdhopmifbpaa", sum := "963f2b61c42b583358195c01c6e58291019bbe12c8edbf850df9e711e504ae13", func := "angelus/angeluslaw16.FloodKnows", spec := "floodKnows", unfollowed := true, recurses := true, named := ["math/bits.divideError", "math/bits.overflowError"], apart := false, narrowed := true }
def FloodKnowsUptoSaid : Prop := floodKnowsUptoRow.holds Try.pinned (OpenSpec.upto floodKnowsSpec)

/-- 'angeluslaw19.SourcePrefers', WHERE WHAT IT READS IS OF BULK AT MOST 1048576: true; the input reads as it did. -/
def sourcePrefersUptoRow : OpenClaim := { program := "ytgpgdhopmifbpaa", sum := "963f2b61c42b583358195c01c6e58291019bbe12c8edbf850df9e711e504ae13", func := "angelus/angeluslaw19.SourcePrefers", spec := "sourcePrefers", unfollowed := true, recurses := true, named := ["math/bits.divideError", "math/bits.overflowError"], apart := false, narrowed := true }
def SourcePrefersUptoSaid : Prop := sourcePrefersUptoRow.holds Try.pinned (OpenSpec.upto sourcePrefersSpec)

end Rows
end Go.Proofs.Ytgpgdhopmifbpaa
