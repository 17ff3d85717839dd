/-
  No cell of these rows narrows 'for every input' (looked for: loops, veiled, ifaces, maps, wideKeys, modest, calm, conditions, laid).
  DERIVED. THE GIVEN ROWS OF THIS SEAT. 5 by the template 'for every input the law returns true; each argument reads behind the call as it read before'; 0 by the template 'total and deterministic' (their statements: YthgkdjfcdbjpdaaTotals.lean).
  GIVEN WITH THE SEED: the statements are not yours to turn. If you find one false, say at which input.
  Laid BY PROGRAM, IN A SANDBOX (cutbox-rows.mjs): the forced cells as the released guide's own fill.sh prints them over the translation 2f6dd7e7809d2feb… (all of the seat's roots in one cut). By AI agents, Wed Nov 11 2026. No macro, syntax, notation, axiom, sorry.
-/
import Derived.Test.YthgkdjfcdbjpdaaChecked
import GoSem.Claim
import GoSem.ClaimJoined
import GoSem.ClaimMapViews
import Derived.JoinedTies
import Derived.KernelRfl
namespace Go.Proofs.Ythgkdjfcdbjpdaa
/- THE CELL 'sum', in the pinned program and in every row, IS THE sha256 OF THE DUMP (.gsa) THAT YthgkdjfcdbjpdaaProg.lean LOADS. Nothing in Lean hashes anything: it is a label: what it is worth is what the hold of that sum in a sandbox is worth. -/
noncomputable def Try.pinned : Pinned := { name := "ythgkdjfcdbjpdaa", sum := "2f6dd7e7809d2feba4e6585cc2e237649286954b82a2db55eea4670806cca35b", checked := Try.checked }
namespace Rows
def none {H : Type} : Left H := { results := [], args := [] }

/-- 'angeluslaw14.GlobeIs': WHATEVER THE INPUT: true; the input reads as it did. -/
def globeIsSpec : ChangeSpec := { name := "globeIs", fn := fun _ => fun
  | [d1, d2, d3] => { results := [.lit (.bool true)], args := [d1, d2, d3] }
  | _ => none }
def globeIsRow : OpenClaim := { program := "ythgkdjfcdbjpdaa", sum := "2f6dd7e7809d2feba4e6585cc2e237649286954b82a2db55eea4670806cca35b", func := "angelus/angeluslaw14.GlobeIs", spec := "globeIs", unfollowed := true, recurses := true, named := ["math/bits.divideError", "math/bits.overflowError"], apart := false }
def GlobeIsSaid : Prop := globeIsRow.holds Try.pinned (OpenSpec.ofChange globeIsSpec)

/-- ITS FALSE NEIGHBOUR: 'it returns false'. Refute it at one input. -/
def globeIsWrong : ChangeSpec := { name := "globeIs", fn := fun _ => fun
  | [d1, d2, d3] => { results := [.lit (.bool false)], args := [d1, d2, d3] }
  | _ => none }
def GlobeIsWrongFalsely : Prop := globeIsRow.holds Try.pinned (OpenSpec.ofChange globeIsWrong)

/-- 'angeluslaw14.GlobeOn': WHATEVER THE INPUT: true; the input reads as it did. -/
def globeOnSpec : ChangeSpec := { name := "globeOn", fn := fun _ => fun
  | [d1, d2, d3, d4] => { results := [.lit (.bool true)], args := [d1, d2, d3, d4] }
  | _ => none }
def globeOnRow : OpenClaim := { program := "ythgkdjfcdbjpdaa", sum := "2f6dd7e7809d2feba4e6585cc2e237649286954b82a2db55eea4670806cca35b", func := "angelus/angeluslaw14.GlobeOn", spec := "globeOn", unfollowed := true, recurses := true, named := ["math/bits.divideError", "math/bits.overflowError"], apart := false }
def GlobeOnSaid : Prop := globeOnRow.holds Try.pinned (OpenSpec.ofChange globeOnSpec)

/-- ITS FALSE NEIGHBOUR: 'it returns false'. Refute it at one input. -/
def globeOnWrong : ChangeSpec := { name := "globeOn", fn := fun _ => fun
  | [d1, d2, d3, d4] => { results := [.lit (.bool false)], args := [d1, d2, d3, d4] }
  | _ => none }
def GlobeOnWrongFalsely : Prop := globeOnRow.holds Try.pinned (OpenSpec.ofChange globeOnWrong)

/-- 'angeluslaw14.GlobeBack': WHATEVER THE INPUT: true; the input reads as it did. -/
def globeBackSpec : ChangeSpec := { name := "globeBack", fn := fun _ => fun
  | [d1, d2, d3, d4] => { results := [.lit (.bool true)], args := [d1, d2, d3, d4] }
  | _ => none }
def globeBackRow : OpenClaim := { program := "ythgkdjfcdbjpdaa", sum := "2f6dd7e7809d2feba4e6585cc2e237649286954b82a2db55eea4670806cca35b", func := "angelus/angeluslaw14.GlobeBack", spec := "globeBack", unfollowed := true, recurses := true, named := ["math/bits.divideError", "math/bits.overflowError"], apart := false }
def GlobeBackSaid : Prop := globeBackRow.holds Try.pinned (OpenSpec.ofChange globeBackSpec)

/-- ITS FALSE NEIGHBOUR: 'it returns false'. Refute it at one input. -/
def globeBackWrong : ChangeSpec := { name := "globeBack", fn := fun _ => fun
  | [d1, d2, d3, d4] => { results := [.lit (.bool false)], args := [d1, d2, d3, d4] }
  | _ => none }
def GlobeBackWrongFalsely : Prop := globeBackRow.holds Try.pinned (OpenSpec.ofChange globeBackWrong)

/-- 'angeluslaw14.GlobeNear': WHATEVER THE INPUT: true; the input reads as it did. -/
def globeNearSpec : ChangeSpec := { name := "globeNear", fn := fun _ => fun
  | [d1, d2, d3, d4, d5, d6, d7] => { results := [.lit (.bool true)], args := [d1, d2, d3, d4, d5, d6, d7] }
  | _ => none }
def globeNearRow : OpenClaim := { program := "ythgkdjfcdbjpdaa", sum := "2f6dd7e7809d2feba4e6585cc2e237649286954b82a2db55eea4670806cca35b", func := "angelus/angeluslaw14.GlobeNear", spec := "globeNear", unfollowed := true, recurses := true, named := ["math/bits.divideError", "math/bits.overflowError"], apart := false }
def GlobeNearSaid : Prop := globeNearRow.holds Try.pinned (OpenSpec.ofChange globeNearSpec)

/-- ITS FALSE NEIGHBOUR: 'it returns false'. Refute it at one input. -/
def globeNearWrong : ChangeSpec := { name := "globeNear", fn := fun _ => fun
  | [d1, d2, d3, d4, d5, d6, d7] => { results := [.lit (.bool false)], args := [d1, d2, d3, d4, d5, d6, d7] }
  | _ => none }
def GlobeNearWrongFalsely : Prop := globeNearRow.holds Try.pinned (OpenSpec.ofChange globeNearWrong)

/-- 'angeluslaw14.GlobeOne': WHATEVER THE INPUT: true; the input reads as it did. -/
def globeOneSpec : ChangeSpec := { name := "globeOne", fn := fun _ => fun
  | [d1, d2, d3] => { results := [.lit (.bool true)], args := [d1, d2, d3] }
  | _ => none }
def globeOneRow : OpenClaim := { program := "ythgkdjfcdbjpdaa", sum := "2f6dd7e7809d2feba4e6585cc2e237649286954b82a2db55eea4670806cca35b", func := "angelus/angeluslaw14.GlobeOne", spec := "globeOne", unfollowed := true, recurses := true, named := ["math/bits.divideError", "math/bits.overflowError"], apart := false }
def GlobeOneSaid : Prop := globeOneRow.holds Try.pinned (OpenSpec.ofChange globeOneSpec)

/-- ITS FALSE NEIGHBOUR: 'it returns false'. Refute it at one input. -/
def globeOneWrong : ChangeSpec := { name := "globeOne", fn := fun _ => fun
  | [d1, d2, d3] => { results := [.lit (.bool false)], args := [d1, d2, d3] }
  | _ => none }
def GlobeOneWrongFalsely : Prop := globeOneRow.holds Try.pinned (OpenSpec.ofChange globeOneWrong)

/- THE SECOND FORM. 'bulk': how many values and letters a reading holds, each counted each time it is reached (what is shared counts as often as it is met; a slice's spare places count too). A statement '..UptoSaid' is the law's where the arguments, and the package variables that the reading takes, are together of bulk at most 1048576: NARROWER than '..Said'. Prove '..Said' where nothing that the law and all that it calls make is longer than what came in: it says more and counts as full. Else prove '..UptoSaid'. A law counts once. -/
mutual
def uptoBulk {H : Type} : DataW H → Nat
  | .lit (.string bytes) => bytes.length + 1
  | .lit _ => 1
  | .nil => 1
  | .ptr d => uptoBulk d + 1
  | .slice elems spare => uptoBulkAll elems + uptoBulkAll spare + 1
  | .agg parts => uptoBulkAll parts + 1
  | .iface _ d => uptoBulk d + 1
  | .map entries => uptoBulkEntries entries + 1
  | .held _ => 1
def uptoBulkAll {H : Type} : List (DataW H) → Nat
  | [] => 0
  | d :: r => uptoBulk d + uptoBulkAll r
def uptoBulkEntries {H : Type} : List (Lit × DataW H) → Nat
  | [] => 0
  | x :: r => uptoBulkEntry x + uptoBulkEntries r
def uptoBulkEntry {H : Type} : Lit × DataW H → Nat
  | (.string bytes, d) => bytes.length + uptoBulk d + 1
  | (_, d) => uptoBulk d + 1
 end
def uptoSmall : (H : Type) → List (DataW H) → Bool := fun _ ds => decide (uptoBulkAll ds ≤ 1048576)
def OpenSpec.upto (s : _root_.Go.ChangeSpec) : _root_.Go.OpenSpec := { _root_.Go.OpenSpec.ofChange s with cond := some uptoSmall }

/-- 'angeluslaw14.GlobeIs', WHERE WHAT IT READS IS OF BULK AT MOST 1048576: true; the input reads as it did. -/
def globeIsUptoRow : OpenClaim := { program := "ythgkdjfcdbjpdaa", sum := "2f6dd7e7809d2feba4e6585cc2e237649286954b82a2db55eea4670806cca35b", func := "angelus/angeluslaw14.GlobeIs", spec := "globeIs", unfollowed := true, recurses := true, named := ["math/bits.divideError", "math/bits.overflowError"], apart := false, narrowed := true }
def GlobeIsUptoSaid : Prop := globeIsUptoRow.holds Try.pinned (OpenSpec.upto globeIsSpec)

/-- 'angeluslaw14.GlobeOn', WHERE WHAT IT READS IS OF BULK AT MOST 1048576: true; the input reads as it did. -/
def globeOnUptoRow : OpenClaim := { program := "ythgkdjfcdbjpdaa", sum := "2f6dd7e7809d2feba4e6585cc2e237649286954b82a2db55eea4670806cca35b", func := "angelus/angeluslaw14.GlobeOn", spec := "globeOn", unfollowed := true, recurses := true, named := ["math/bits.divideError", "math/bits.overflowError"], apart := false, narrowed := true }
def GlobeOnUptoSaid : Prop := globeOnUptoRow.holds Try.pinned (OpenSpec.upto globeOnSpec)

/-- 'angeluslaw14.GlobeBack', WHERE WHAT IT READS IS OF BULK AT MOST 1048576: true; the input reads as it did. -/
def globeBackUptoRow : OpenClaim := { program := "ythgkdjfcdbjpdaa", sum := "2f6dd7e7809d2feba4e6585cc2e237649286954b82a2db55eea4670806cca35b", func := "angelus/angeluslaw14.GlobeBack", spec := "globeBack", unfollowed := true, recurses := true, named := ["math/bits.divideError", "math/bits.overflowError"], apart := false, narrowed := true }
def GlobeBackUptoSaid : Prop := globeBackUptoRow.holds Try.pinned (OpenSpec.upto globeBackSpec)

/-- 'angeluslaw14.GlobeNear', WHERE WHAT IT READS IS OF BULK AT MOST 1048576: true; the input reads as it did. -/
def globeNearUptoRow : OpenClaim := { program := "ythgkdjfcdbjpdaa", sum := "2f6dd7e7809d2feba4e6585cc2e237649286954b82a2db55eea4670806cca35b", func := "angelus/angeluslaw14.GlobeNear", spec := "globeNear", unfollowed := true, recurses := true, named := ["math/bits.divideError", "math/bits.overflowError"], apart := false, narrowed := true }
def GlobeNearUptoSaid : Prop := globeNearUptoRow.holds Try.pinned (OpenSpec.upto globeNearSpec)

/-- 'angeluslaw14.GlobeOne', WHERE WHAT IT READS IS OF BULK AT MOST 1048576: true; the input reads as it did. -/
def globeOneUptoRow : OpenClaim := { program := "ythgkdjfcdbjpdaa", sum := "2f6dd7e7809d2feba4e6585cc2e237649286954b82a2db55eea4670806cca35b", func := "angelus/angeluslaw14.GlobeOne", spec := "globeOne", unfollowed := true, recurses := true, named := ["math/bits.divideError", "math/bits.overflowError"], apart := false, narrowed := true }
def GlobeOneUptoSaid : Prop := globeOneUptoRow.holds Try.pinned (OpenSpec.upto globeOneSpec)

end Rows
end Go.Proofs.Ythgkdjfcdbjpdaa
