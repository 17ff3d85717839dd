/-
  No cell of these rows narrows 'for every input' (looked for: loops, veiled, ifaces, maps, wideKeys, modest, calm, conditions, laid).
  DERIVED. THE GIVEN ROWS OF THIS SEAT. 4 by the template 'for every input the law returns true; each argument reads behind the call as it read before'; 0 by the template 'total and deterministic' (their statements: YtnjmfbjgcfnanaaGreatTotals.lean).
  GIVEN WITH THE SEED: the statements are not yours to turn. If you find one false, say at which input.
  Laid BY PROGRAM, IN A SANDBOX (cutbox-rows.mjs): the forced cells as the released guide's own fill.sh prints them over the translation b384a65e3350531d… (all of the seat's roots in one cut). By AI agents, Wed Nov 11 2026. No macro, syntax, notation, axiom, sorry.
-/
import Derived.Test.YtnjmfbjgcfnanaaGreatChecked
import GoSem.Claim
import GoSem.ClaimJoined
import GoSem.ClaimMapViews
import Derived.JoinedTies
import Derived.KernelRfl
namespace Go.Proofs.YtnjmfbjgcfnanaaGreat
/- THE CELL 'sum', in the pinned program and in every row, IS THE sha256 OF THE DUMP (.gsa) THAT YtnjmfbjgcfnanaaGreatProg.lean LOADS. Nothing in Lean hashes anything: it is a label: what it is worth is what the hold of that sum in a sandbox is worth. -/
noncomputable def Tryz.pinned : Pinned := { name := "ytnjmfbjgcfnanaagreat", sum := "b384a65e3350531d8f15195aa49fdbb64df7a0629b2e56283213513cf027386f", checked := Tryz.checked }
namespace Rows
def none {H : Type} : Left H := { results := [], args := [] }

/-- 'angeluslaw26.NodeWants': WHATEVER THE INPUT: true; the input reads as it did. -/
def nodeWantsSpec : ChangeSpec := { name := "nodeWants", fn := fun _ => fun
  | [d1, d2, d3] => { results := [.lit (.bool true)], args := [d1, d2, d3] }
  | _ => none }
def nodeWantsRow : OpenClaim := { program := "ytnjmfbjgcfnanaagreat", sum := "b384a65e3350531d8f15195aa49fdbb64df7a0629b2e56283213513cf027386f", func := "angelus/angeluslaw26.NodeWants", spec := "nodeWants", unfollowed := true, recurses := true, named := ["math/bits.divideError", "math/bits.overflowError"], apart := false }
def NodeWantsSaid : Prop := nodeWantsRow.holds Tryz.pinned (OpenSpec.ofChange nodeWantsSpec)

/-- ITS FALSE NEIGHBOUR: 'it returns false'. Refute it at one input. -/
def nodeWantsWrong : ChangeSpec := { name := "nodeWants", fn := fun _ => fun
  | [d1, d2, d3] => { results := [.lit (.bool false)], args := [d1, d2, d3] }
  | _ => none }
def NodeWantsWrongFalsely : Prop := nodeWantsRow.holds Tryz.pinned (OpenSpec.ofChange nodeWantsWrong)

/-- 'angeluslaw26.NodeQuiet': WHATEVER THE INPUT: true; the input reads as it did. -/
def nodeQuietSpec : ChangeSpec := { name := "nodeQuiet", fn := fun _ => fun
  | [d1, d2, d3, d4] => { results := [.lit (.bool true)], args := [d1, d2, d3, d4] }
  | _ => none }
def nodeQuietRow : OpenClaim := { program := "ytnjmfbjgcfnanaagreat", sum := "b384a65e3350531d8f15195aa49fdbb64df7a0629b2e56283213513cf027386f", func := "angelus/angeluslaw26.NodeQuiet", spec := "nodeQuiet", unfollowed := true, recurses := true, named := ["math/bits.divideError", "math/bits.overflowError"], apart := false }
def NodeQuietSaid : Prop := nodeQuietRow.holds Tryz.pinned (OpenSpec.ofChange nodeQuietSpec)

/-- ITS FALSE NEIGHBOUR: 'it returns false'. Refute it at one input. -/
def nodeQuietWrong : ChangeSpec := { name := "nodeQuiet", fn := fun _ => fun
  | [d1, d2, d3, d4] => { results := [.lit (.bool false)], args := [d1, d2, d3, d4] }
  | _ => none }
def NodeQuietWrongFalsely : Prop := nodeQuietRow.holds Tryz.pinned (OpenSpec.ofChange nodeQuietWrong)

/-- 'angeluslaw26.NodeLives': WHATEVER THE INPUT: true; the input reads as it did. -/
def nodeLivesSpec : ChangeSpec := { name := "nodeLives", fn := fun _ => fun
  | [d1, d2, d3, d4] => { results := [.lit (.bool true)], args := [d1, d2, d3, d4] }
  | _ => none }
def nodeLivesRow : OpenClaim := { program := "ytnjmfbjgcfnanaagreat", sum := "b384a65e3350531d8f15195aa49fdbb64df7a0629b2e56283213513cf027386f", func := "angelus/angeluslaw26.NodeLives", spec := "nodeLives", unfollowed := true, recurses := true, named := ["math/bits.divideError", "math/bits.overflowError"], apart := false }
def NodeLivesSaid : Prop := nodeLivesRow.holds Tryz.pinned (OpenSpec.ofChange nodeLivesSpec)

/-- ITS FALSE NEIGHBOUR: 'it returns false'. Refute it at one input. -/
def nodeLivesWrong : ChangeSpec := { name := "nodeLives", fn := fun _ => fun
  | [d1, d2, d3, d4] => { results := [.lit (.bool false)], args := [d1, d2, d3, d4] }
  | _ => none }
def NodeLivesWrongFalsely : Prop := nodeLivesRow.holds Tryz.pinned (OpenSpec.ofChange nodeLivesWrong)

/-- 'angeluslaw26.NodeNil': WHATEVER THE INPUT: true; the input reads as it did. -/
def nodeNilSpec : ChangeSpec := { name := "nodeNil", fn := fun _ => fun
  | [d1, d2, d3] => { results := [.lit (.bool true)], args := [d1, d2, d3] }
  | _ => none }
def nodeNilRow : OpenClaim := { program := "ytnjmfbjgcfnanaagreat", sum := "b384a65e3350531d8f15195aa49fdbb64df7a0629b2e56283213513cf027386f", func := "angelus/angeluslaw26.NodeNil", spec := "nodeNil", unfollowed := true, recurses := true, named := ["math/bits.divideError", "math/bits.overflowError"], apart := false }
def NodeNilSaid : Prop := nodeNilRow.holds Tryz.pinned (OpenSpec.ofChange nodeNilSpec)

/-- ITS FALSE NEIGHBOUR: 'it returns false'. Refute it at one input. -/
def nodeNilWrong : ChangeSpec := { name := "nodeNil", fn := fun _ => fun
  | [d1, d2, d3] => { results := [.lit (.bool false)], args := [d1, d2, d3] }
  | _ => none }
def NodeNilWrongFalsely : Prop := nodeNilRow.holds Tryz.pinned (OpenSpec.ofChange nodeNilWrong)

/- THE SECOND FORM. 'bulk': how many values and letters a reading holds, each counted each time it is reached (what is shared counts as often as it is met; a slice's spare places count too). A statement '..UptoSaid' is the law's where the arguments, and the package variables that the reading takes, are together of bulk at most 1048576: NARROWER than '..Said'. Prove '..Said' where nothing that the law and all that it calls make is longer than what came in: it says more and counts as full. Else prove '..UptoSaid'. A law counts once. -/
mutual
def uptoBulk {H : Type} : DataW H → Nat
  | .lit (.string bytes) => bytes.length + 1
  | .lit _ => 1
  | .nil => 1
  | .ptr d => uptoBulk d + 1
  | .slice elems spare => uptoBulkAll elems + uptoBulkAll spare + 1
  | .agg parts => uptoBulkAll parts + 1
  | .iface _ d => uptoBulk d + 1
  | .map entries => uptoBulkEntries entries + 1
  | .held _ => 1
def uptoBulkAll {H : Type} : List (DataW H) → Nat
  | [] => 0
  | d :: r => uptoBulk d + uptoBulkAll r
def uptoBulkEntries {H : Type} : List (Lit × DataW H) → Nat
  | [] => 0
  | x :: r => uptoBulkEntry x + uptoBulkEntries r
def uptoBulkEntry {H : Type} : Lit × DataW H → Nat
  | (.string bytes, d) => bytes.length + uptoBulk d + 1
  | (_, d) => uptoBulk d + 1
 end
def uptoSmall : (H : Type) → List (DataW H) → Bool := fun _ ds => decide (uptoBulkAll ds ≤ 1048576)
def OpenSpec.upto (s : _root_.Go.ChangeSpec) : _root_.Go.OpenSpec := { _root_.Go.OpenSpec.ofChange s with cond := some uptoSmall }

/-- 'angeluslaw26.NodeWants', WHERE WHAT IT READS IS OF BULK AT MOST 1048576: true; the input reads as it did. -/
def nodeWantsUptoRow : OpenClaim := { program := "ytnjmfbjgcfnanaagreat", sum := "b384a65e3350531d8f15195aa49fdbb64df7a0629b2e56283213513cf027386f", func := "angelus/angeluslaw26.NodeWants", spec := "nodeWants", unfollowed := true, recurses := true, named := ["math/bits.divideError", "math/bits.overflowError"], apart := false, narrowed := true }
def NodeWantsUptoSaid : Prop := nodeWantsUptoRow.holds Tryz.pinned (OpenSpec.upto nodeWantsSpec)

/-- 'angeluslaw26.NodeQuiet', WHERE WHAT IT READS IS OF BULK AT MOST 1048576: true; the input reads as it did. -/
def nodeQuietUptoRow : OpenClaim := { program := "ytnjmfbjgcfnanaagreat", sum := "b384a65e3350531d8f15195aa49fdbb64df7a0629b2e56283213513cf027386f", func := "angelus/angeluslaw26.NodeQuiet", spec := "nodeQuiet", unfollowed := true, recurses := true, named := ["math/bits.divideError", "math/bits.overflowError"], apart := false, narrowed := true }
def NodeQuietUptoSaid : Prop := nodeQuietUptoRow.holds Tryz.pinned (OpenSpec.upto nodeQuietSpec)

/-- 'angeluslaw26.NodeLives', WHERE WHAT IT READS IS OF BULK AT MOST 1048576: true; the input reads as it did. -/
def nodeLivesUptoRow : OpenClaim := { program := "ytnjmfbjgcfnanaagreat", sum := "b384a65e3350531d8f15195aa49fdbb64df7a0629b2e56283213513cf027386f", func := "angelus/angeluslaw26.NodeLives", spec := "nodeLives", unfollowed := true, recurses := true, named := ["math/bits.divideError", "math/bits.overflowError"], apart := false, narrowed := true }
def NodeLivesUptoSaid : Prop := nodeLivesUptoRow.holds Tryz.pinned (OpenSpec.upto nodeLivesSpec)

/-- 'angeluslaw26.NodeNil', WHERE WHAT IT READS IS OF BULK AT MOST 1048576: true; the input reads as it did. -/
def nodeNilUptoRow : OpenClaim := { program := "ytnjmfbjgcfnanaagreat", sum := "b384a65e3350531d8f15195aa49fdbb64df7a0629b2e56283213513cf027386f", func := "angelus/angeluslaw26.NodeNil", spec := "nodeNil", unfollowed := true, recurses := true, named := ["math/bits.divideError", "math/bits.overflowError"], apart := false, narrowed := true }
def NodeNilUptoSaid : Prop := nodeNilUptoRow.holds Tryz.pinned (OpenSpec.upto nodeNilSpec)

end Rows
end Go.Proofs.YtnjmfbjgcfnanaaGreat
