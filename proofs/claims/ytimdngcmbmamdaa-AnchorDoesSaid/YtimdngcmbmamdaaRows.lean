/-
  No cell of these rows narrows 'for every input' (looked for: loops, veiled, ifaces, maps, wideKeys, modest, calm, conditions, laid).
  DERIVED. THE GIVEN ROWS OF THIS SEAT. 8 by the template 'for every input the law returns true; each argument reads behind the call as it read before'; 0 by the template 'total and deterministic' (their statements: YtimdngcmbmamdaaTotals.lean).
  GIVEN WITH THE SEED: the statements are not yours to turn. If you find one false, say at which input.
  Laid BY PROGRAM, IN A SANDBOX (cutbox-rows.mjs): the forced cells as the released guide's own fill.sh prints them over the translation 3b3409e64cb0a9df… (all of the seat's roots in one cut). By AI agents, Wed Nov 11 2026. No macro, syntax, notation, axiom, sorry.
-/
import Derived.Test.YtimdngcmbmamdaaChecked
import GoSem.Claim
import GoSem.ClaimJoined
import GoSem.ClaimMapViews
import Derived.JoinedTies
import Derived.KernelRfl
namespace Go.Proofs.Ytimdngcmbmamdaa
/- THE CELL 'sum', in the pinned program and in every row, IS THE sha256 OF THE DUMP (.gsa) THAT YtimdngcmbmamdaaProg.lean LOADS. Nothing in Lean hashes anything: it is a label: what it is worth is what the hold of that sum in a sandbox is worth. -/
noncomputable def Try.pinned : Pinned := { name := "ytimdngcmbmamdaa", sum := "3b3409e64cb0a9df1748abf6666cfa8dc2a2fb48bf193ffc0616acb2f9d42ddc", checked := Try.checked }
namespace Rows
def none {H : Type} : Left H := { results := [], args := [] }

/-- 'angeluslaw22.UtcTells': WHATEVER THE INPUT: true; the input reads as it did. -/
def utcTellsSpec : ChangeSpec := { name := "utcTells", fn := fun _ => fun
  | [d1, d2, d3] => { results := [.lit (.bool true)], args := [d1, d2, d3] }
  | _ => none }
def utcTellsRow : OpenClaim := { program := "ytimdngcmbmamdaa", sum := "3b3409e64cb0a9df1748abf6666cfa8dc2a2fb48bf193ffc0616acb2f9d42ddc", func := "angelus/angeluslaw22.UtcTells", spec := "utcTells", unfollowed := true, recurses := true, apart := false }
def UtcTellsSaid : Prop := utcTellsRow.holds Try.pinned (OpenSpec.ofChange utcTellsSpec)

/-- ITS FALSE NEIGHBOUR: 'it returns false'. Refute it at one input. -/
def utcTellsWrong : ChangeSpec := { name := "utcTells", fn := fun _ => fun
  | [d1, d2, d3] => { results := [.lit (.bool false)], args := [d1, d2, d3] }
  | _ => none }
def UtcTellsWrongFalsely : Prop := utcTellsRow.holds Try.pinned (OpenSpec.ofChange utcTellsWrong)

/-- 'angeluslaw22.UtcBack': WHATEVER THE INPUT: true; the input reads as it did. -/
def utcBackSpec : ChangeSpec := { name := "utcBack", fn := fun _ => fun
  | [d1, d2, d3] => { results := [.lit (.bool true)], args := [d1, d2, d3] }
  | _ => none }
def utcBackRow : OpenClaim := { program := "ytimdngcmbmamdaa", sum := "3b3409e64cb0a9df1748abf6666cfa8dc2a2fb48bf193ffc0616acb2f9d42ddc", func := "angelus/angeluslaw22.UtcBack", spec := "utcBack", unfollowed := true, recurses := true, apart := false }
def UtcBackSaid : Prop := utcBackRow.holds Try.pinned (OpenSpec.ofChange utcBackSpec)

/-- ITS FALSE NEIGHBOUR: 'it returns false'. Refute it at one input. -/
def utcBackWrong : ChangeSpec := { name := "utcBack", fn := fun _ => fun
  | [d1, d2, d3] => { results := [.lit (.bool false)], args := [d1, d2, d3] }
  | _ => none }
def UtcBackWrongFalsely : Prop := utcBackRow.holds Try.pinned (OpenSpec.ofChange utcBackWrong)

/-- 'angeluslaw22.UtcLeaps': WHATEVER THE INPUT: true; the input reads as it did. -/
def utcLeapsSpec : ChangeSpec := { name := "utcLeaps", fn := fun _ => fun
  | [d1, d2] => { results := [.lit (.bool true)], args := [d1, d2] }
  | _ => none }
def utcLeapsRow : OpenClaim := { program := "ytimdngcmbmamdaa", sum := "3b3409e64cb0a9df1748abf6666cfa8dc2a2fb48bf193ffc0616acb2f9d42ddc", func := "angelus/angeluslaw22.UtcLeaps", spec := "utcLeaps", unfollowed := true, recurses := true, apart := false }
def UtcLeapsSaid : Prop := utcLeapsRow.holds Try.pinned (OpenSpec.ofChange utcLeapsSpec)

/-- ITS FALSE NEIGHBOUR: 'it returns false'. Refute it at one input. -/
def utcLeapsWrong : ChangeSpec := { name := "utcLeaps", fn := fun _ => fun
  | [d1, d2] => { results := [.lit (.bool false)], args := [d1, d2] }
  | _ => none }
def UtcLeapsWrongFalsely : Prop := utcLeapsRow.holds Try.pinned (OpenSpec.ofChange utcLeapsWrong)

/-- 'angeluslaw22.UtcOrder': WHATEVER THE INPUT: true; the input reads as it did. -/
def utcOrderSpec : ChangeSpec := { name := "utcOrder", fn := fun _ => fun
  | [d1, d2, d3] => { results := [.lit (.bool true)], args := [d1, d2, d3] }
  | _ => none }
def utcOrderRow : OpenClaim := { program := "ytimdngcmbmamdaa", sum := "3b3409e64cb0a9df1748abf6666cfa8dc2a2fb48bf193ffc0616acb2f9d42ddc", func := "angelus/angeluslaw22.UtcOrder", spec := "utcOrder", unfollowed := true, recurses := true, apart := false }
def UtcOrderSaid : Prop := utcOrderRow.holds Try.pinned (OpenSpec.ofChange utcOrderSpec)

/-- ITS FALSE NEIGHBOUR: 'it returns false'. Refute it at one input. -/
def utcOrderWrong : ChangeSpec := { name := "utcOrder", fn := fun _ => fun
  | [d1, d2, d3] => { results := [.lit (.bool false)], args := [d1, d2, d3] }
  | _ => none }
def UtcOrderWrongFalsely : Prop := utcOrderRow.holds Try.pinned (OpenSpec.ofChange utcOrderWrong)

/-- 'angeluslaw22.UtcDays': WHATEVER THE INPUT: true; the input reads as it did. -/
def utcDaysSpec : ChangeSpec := { name := "utcDays", fn := fun _ => fun
  | [d1, d2] => { results := [.lit (.bool true)], args := [d1, d2] }
  | _ => none }
def utcDaysRow : OpenClaim := { program := "ytimdngcmbmamdaa", sum := "3b3409e64cb0a9df1748abf6666cfa8dc2a2fb48bf193ffc0616acb2f9d42ddc", func := "angelus/angeluslaw22.UtcDays", spec := "utcDays", unfollowed := true, recurses := true, apart := false }
def UtcDaysSaid : Prop := utcDaysRow.holds Try.pinned (OpenSpec.ofChange utcDaysSpec)

/-- ITS FALSE NEIGHBOUR: 'it returns false'. Refute it at one input. -/
def utcDaysWrong : ChangeSpec := { name := "utcDays", fn := fun _ => fun
  | [d1, d2] => { results := [.lit (.bool false)], args := [d1, d2] }
  | _ => none }
def UtcDaysWrongFalsely : Prop := utcDaysRow.holds Try.pinned (OpenSpec.ofChange utcDaysWrong)

/-- 'angeluslaw22.UtcTexts': WHATEVER THE INPUT: true; the input reads as it did. -/
def utcTextsSpec : ChangeSpec := { name := "utcTexts", fn := fun _ => fun
  | [d1, d2] => { results := [.lit (.bool true)], args := [d1, d2] }
  | _ => none }
def utcTextsRow : OpenClaim := { program := "ytimdngcmbmamdaa", sum := "3b3409e64cb0a9df1748abf6666cfa8dc2a2fb48bf193ffc0616acb2f9d42ddc", func := "angelus/angeluslaw22.UtcTexts", spec := "utcTexts", unfollowed := true, recurses := true, apart := false }
def UtcTextsSaid : Prop := utcTextsRow.holds Try.pinned (OpenSpec.ofChange utcTextsSpec)

/-- ITS FALSE NEIGHBOUR: 'it returns false'. Refute it at one input. -/
def utcTextsWrong : ChangeSpec := { name := "utcTexts", fn := fun _ => fun
  | [d1, d2] => { results := [.lit (.bool false)], args := [d1, d2] }
  | _ => none }
def UtcTextsWrongFalsely : Prop := utcTextsRow.holds Try.pinned (OpenSpec.ofChange utcTextsWrong)

/-- 'angeluslaw23.AnchorBack': WHATEVER THE INPUT: true; the input reads as it did. -/
def anchorBackSpec : ChangeSpec := { name := "anchorBack", fn := fun _ => fun
  | [d1, d2, d3] => { results := [.lit (.bool true)], args := [d1, d2, d3] }
  | _ => none }
def anchorBackRow : OpenClaim := { program := "ytimdngcmbmamdaa", sum := "3b3409e64cb0a9df1748abf6666cfa8dc2a2fb48bf193ffc0616acb2f9d42ddc", func := "angelus/angeluslaw23.AnchorBack", spec := "anchorBack", unfollowed := true, recurses := true, named := ["math/bits.divideError", "math/bits.overflowError"], apart := false }
def AnchorBackSaid : Prop := anchorBackRow.holds Try.pinned (OpenSpec.ofChange anchorBackSpec)

/-- ITS FALSE NEIGHBOUR: 'it returns false'. Refute it at one input. -/
def anchorBackWrong : ChangeSpec := { name := "anchorBack", fn := fun _ => fun
  | [d1, d2, d3] => { results := [.lit (.bool false)], args := [d1, d2, d3] }
  | _ => none }
def AnchorBackWrongFalsely : Prop := anchorBackRow.holds Try.pinned (OpenSpec.ofChange anchorBackWrong)

/-- 'angeluslaw23.AnchorDoes': WHATEVER THE INPUT: true; the input reads as it did. -/
def anchorDoesSpec : ChangeSpec := { name := "anchorDoes", fn := fun _ => fun
  | [d1, d2] => { results := [.lit (.bool true)], args := [d1, d2] }
  | _ => none }
def anchorDoesRow : OpenClaim := { program := "ytimdngcmbmamdaa", sum := "3b3409e64cb0a9df1748abf6666cfa8dc2a2fb48bf193ffc0616acb2f9d42ddc", func := "angelus/angeluslaw23.AnchorDoes", spec := "anchorDoes", unfollowed := true, recurses := true, named := ["math/bits.divideError", "math/bits.overflowError"], apart := false }
def AnchorDoesSaid : Prop := anchorDoesRow.holds Try.pinned (OpenSpec.ofChange anchorDoesSpec)

/-- ITS FALSE NEIGHBOUR: 'it returns false'. Refute it at one input. -/
def anchorDoesWrong : ChangeSpec := { name := "anchorDoes", fn := fun _ => fun
  | [d1, d2] => { results := [.lit (.bool false)], args := [d1, d2] }
  | _ => none }
def AnchorDoesWrongFalsely : Prop := anchorDoesRow.holds Try.pinned (OpenSpec.ofChange anchorDoesWrong)

/- THE SECOND FORM. 'bulk': how many values and letters a reading holds, each counted each time it is reached (what is shared counts as often as it is met; a slice's spare places count too). A statement '..UptoSaid' is the law's where the arguments, and the package variables that the reading takes, are together of bulk at most 1048576: NARROWER than '..Said'. Prove '..Said' where nothing that the law and all that it calls make is longer than what came in: it says more and counts as full. Else prove '..UptoSaid'. A law counts once. -/
mutual
def uptoBulk {H : Type} : DataW H → Nat
  | .lit (.string bytes) => bytes.length + 1
  | .lit _ => 1
  | .nil => 1
  | .ptr d => uptoBulk d + 1
  | .slice elems spare => uptoBulkAll elems + uptoBulkAll spare + 1
  | .agg parts => uptoBulkAll parts + 1
  | .iface _ d => uptoBulk d + 1
  | .map entries => uptoBulkEntries entries + 1
  | .held _ => 1
def uptoBulkAll {H : Type} : List (DataW H) → Nat
  | [] => 0
  | d :: r => uptoBulk d + uptoBulkAll r
def uptoBulkEntries {H : Type} : List (Lit × DataW H) → Nat
  | [] => 0
  | x :: r => uptoBulkEntry x + uptoBulkEntries r
def uptoBulkEntry {H : Type} : Lit × DataW H → Nat
  | (.string bytes, d) => bytes.length + uptoBulk d + 1
  | (_, d) => uptoBulk d + 1
 end
def uptoSmall : (H : Type) → List (DataW H) → Bool := fun _ ds => decide (uptoBulkAll ds ≤ 1048576)
def OpenSpec.upto (s : _root_.Go.ChangeSpec) : _root_.Go.OpenSpec := { _root_.Go.OpenSpec.ofChange s with cond := some uptoSmall }

/-- 'angeluslaw22.UtcTells', WHERE WHAT IT READS IS OF BULK AT MOST 1048576: true; the input reads as it did. -/
def utcTellsUptoRow : OpenClaim := { program := "ytimdngcmbmamdaa", sum := "3b3409e64cb0a9df1748abf6666cfa8dc2a2fb48bf193ffc0616acb2f9d42ddc", func := "angelus/angeluslaw22.UtcTells", spec := "utcTells", unfollowed := true, recurses := true, apart := false, narrowed := true }
def UtcTellsUptoSaid : Prop := utcTellsUptoRow.holds Try.pinned (OpenSpec.upto utcTellsSpec)

/-- 'angeluslaw22.UtcBack', WHERE WHAT IT READS IS OF BULK AT MOST 1048576: true; the input reads as it did. -/
def utcBackUptoRow : OpenClaim := { program := "ytimdngcmbmamdaa", sum := "3b3409e64cb0a9df1748abf6666cfa8dc2a2fb48bf193ffc0616acb2f9d42ddc", func := "angelus/angeluslaw22.UtcBack", spec := "utcBack", unfollowed := true, recurses := true, apart := false, narrowed := true }
def UtcBackUptoSaid : Prop := utcBackUptoRow.holds Try.pinned (OpenSpec.upto utcBackSpec)

/-- 'angeluslaw22.UtcLeaps', WHERE WHAT IT READS IS OF BULK AT MOST 1048576: true; the input reads as it did. -/
def utcLeapsUptoRow : OpenClaim := { program := "ytimdngcmbmamdaa", sum := "3b3409e64cb0a9df1748abf6666cfa8dc2a2fb48bf193ffc0616acb2f9d42ddc", func := "angelus/angeluslaw22.UtcLeaps", spec := "utcLeaps", unfollowed := true, recurses := true, apart := false, narrowed := true }
def UtcLeapsUptoSaid : Prop := utcLeapsUptoRow.holds Try.pinned (OpenSpec.upto utcLeapsSpec)

/-- 'angeluslaw22.UtcOrder', WHERE WHAT IT READS IS OF BULK AT MOST 1048576: true; the input reads as it did. -/
def utcOrderUptoRow : OpenClaim := { program := "ytimdngcmbmamdaa", sum := "3b3409e64cb0a9df1748abf6666cfa8dc2a2fb48bf193ffc0616acb2f9d42ddc", func := "angelus/angeluslaw22.UtcOrder", spec := "utcOrder", unfollowed := true, recurses := true, apart := false, narrowed := true }
def UtcOrderUptoSaid : Prop := utcOrderUptoRow.holds Try.pinned (OpenSpec.upto utcOrderSpec)

/-- 'angeluslaw22.UtcDays', WHERE WHAT IT READS IS OF BULK AT MOST 1048576: true; the input reads as it did. -/
def utcDaysUptoRow : OpenClaim := { program := "ytimdngcmbmamdaa", sum := "3b3409e64cb0a9df1748abf6666cfa8dc2a2fb48bf193ffc0616acb2f9d42ddc", func := "angelus/angeluslaw22.UtcDays", spec := "utcDays", unfollowed := true, recurses := true, apart := false, narrowed := true }
def UtcDaysUptoSaid : Prop := utcDaysUptoRow.holds Try.pinned (OpenSpec.upto utcDaysSpec)

/-- 'angeluslaw22.UtcTexts', WHERE WHAT IT READS IS OF BULK AT MOST 1048576: true; the input reads as it did. -/
def utcTextsUptoRow : OpenClaim := { program := "ytimdngcmbmamdaa", sum := "3b3409e64cb0a9df1748abf6666cfa8dc2a2fb48bf193ffc0616acb2f9d42ddc", func := "angelus/angeluslaw22.UtcTexts", spec := "utcTexts", unfollowed := true, recurses := true, apart := false, narrowed := true }
def UtcTextsUptoSaid : Prop := utcTextsUptoRow.holds Try.pinned (OpenSpec.upto utcTextsSpec)

/-- 'angeluslaw23.AnchorBack', WHERE WHAT IT READS IS OF BULK AT MOST 1048576: true; the input reads as it did. -/
def anchorBackUptoRow : OpenClaim := { program := "ytimdngcmbmamdaa", sum := "3b3409e64cb0a9df1748abf6666cfa8dc2a2fb48bf193ffc0616acb2f9d42ddc", func := "angelus/angeluslaw23.AnchorBack", spec := "anchorBack", unfollowed := true, recurses := true, named := ["math/bits.divideError", "math/bits.overflowError"], apart := false, narrowed := true }
def AnchorBackUptoSaid : Prop := anchorBackUptoRow.holds Try.pinned (OpenSpec.upto anchorBackSpec)

/-- 'angeluslaw23.AnchorDoes', WHERE WHAT IT READS IS OF BULK AT MOST 1048576: true; the input reads as it did. -/
def anchorDoesUptoRow : OpenClaim := { program := "ytimdngcmbmamdaa", sum := "3b3409e64cb0a9df1748abf6666cfa8dc2a2fb48bf193ffc0616acb2f9d42ddc", func := "angelus/angeluslaw23.AnchorDoes", spec := "anchorDoes", unfollowed := true, recurses := true, named := ["math/bits.divideError", "math/bits.overflowError"], apart := false, narrowed := true }
def AnchorDoesUptoSaid : Prop := anchorDoesUptoRow.holds Try.pinned (OpenSpec.upto anchorDoesSpec)

end Rows
end Go.Proofs.Ytimdngcmbmamdaa
