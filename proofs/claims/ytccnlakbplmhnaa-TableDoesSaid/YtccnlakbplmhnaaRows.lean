/-
  No cell of these rows narrows 'for every input' (looked for: loops, veiled, ifaces, maps, wideKeys, modest, calm, conditions, laid).
  DERIVED. THE GIVEN ROWS OF THIS SEAT. 16 by the template 'for every input the law returns true; each argument reads behind the call as it read before'; 0 by the template 'total and deterministic' (their statements: YtccnlakbplmhnaaTotals.lean).
  GIVEN WITH THE SEED: the statements are not yours to turn. If you find one false, say at which input.
  Laid BY PROGRAM, IN A SANDBOX (cutbox-rows.mjs): the forced cells as the released guide's own fill.sh prints them over the translation 8788e98e97aa8963… (all of the seat's roots in one cut). By AI agents, Wed Nov 11 2026. No macro, syntax, notation, axiom, sorry.
-/
import Derived.Test.YtccnlakbplmhnaaChecked
import GoSem.Claim
import GoSem.ClaimJoined
import GoSem.ClaimMapViews
import Derived.JoinedTies
import Derived.KernelRfl
namespace Go.Proofs.Ytccnlakbplmhnaa
/- THE CELL 'sum', in the pinned program and in every row, IS THE sha256 OF THE DUMP (.gsa) THAT YtccnlakbplmhnaaProg.lean LOADS. Nothing in Lean hashes anything: it is a label: what it is worth is what the hold of that sum in a sandbox is worth. -/
noncomputable def Try.pinned : Pinned := { name := "ytccnlakbplmhnaa", sum := "8788e98e97aa8963d8e937709d724a559c42540d579c67299007f499d62094f8", checked := Try.checked }
namespace Rows
def none {H : Type} : Left H := { results := [], args := [] }

/-- 'angeluslaw12.TableRises': WHATEVER THE INPUT: true; the input reads as it did. -/
def tableRisesSpec : ChangeSpec := { name := "tableRises", fn := fun _ => fun
  | [d] => { results := [.lit (.bool true)], args := [d] }
  | _ => none }
def tableRisesRow : OpenClaim := { program := "ytccnlakbplmhnaa", sum := "8788e98e97aa8963d8e937709d724a559c42540d579c67299007f499d62094f8", func := "angelus/angeluslaw12.TableRises", spec := "tableRises", unfollowed := true, recurses := true, apart := false }
def TableRisesSaid : Prop := tableRisesRow.holds Try.pinned (OpenSpec.ofChange tableRisesSpec)

/-- ITS FALSE NEIGHBOUR: 'it returns false'. Refute it at one input. -/
def tableRisesWrong : ChangeSpec := { name := "tableRises", fn := fun _ => fun
  | [d] => { results := [.lit (.bool false)], args := [d] }
  | _ => none }
def TableRisesWrongFalsely : Prop := tableRisesRow.holds Try.pinned (OpenSpec.ofChange tableRisesWrong)

/-- 'angeluslaw12.TableNewest': WHATEVER THE INPUT: true; the input reads as it did. -/
def tableNewestSpec : ChangeSpec := { name := "tableNewest", fn := fun _ => fun
  | [d1, d2] => { results := [.lit (.bool true)], args := [d1, d2] }
  | _ => none }
def tableNewestRow : OpenClaim := { program := "ytccnlakbplmhnaa", sum := "8788e98e97aa8963d8e937709d724a559c42540d579c67299007f499d62094f8", func := "angelus/angeluslaw12.TableNewest", spec := "tableNewest", unfollowed := true, recurses := true, apart := false }
def TableNewestSaid : Prop := tableNewestRow.holds Try.pinned (OpenSpec.ofChange tableNewestSpec)

/-- ITS FALSE NEIGHBOUR: 'it returns false'. Refute it at one input. -/
def tableNewestWrong : ChangeSpec := { name := "tableNewest", fn := fun _ => fun
  | [d1, d2] => { results := [.lit (.bool false)], args := [d1, d2] }
  | _ => none }
def TableNewestWrongFalsely : Prop := tableNewestRow.holds Try.pinned (OpenSpec.ofChange tableNewestWrong)

/-- 'angeluslaw12.TableDoes': WHATEVER THE INPUT: true; the input reads as it did. -/
def tableDoesSpec : ChangeSpec := { name := "tableDoes", fn := fun _ => fun
  | [d1, d2, d3] => { results := [.lit (.bool true)], args := [d1, d2, d3] }
  | _ => none }
def tableDoesRow : OpenClaim := { program := "ytccnlakbplmhnaa", sum := "8788e98e97aa8963d8e937709d724a559c42540d579c67299007f499d62094f8", func := "angelus/angeluslaw12.TableDoes", spec := "tableDoes", unfollowed := true, recurses := true, apart := false }
def TableDoesSaid : Prop := tableDoesRow.holds Try.pinned (OpenSpec.ofChange tableDoesSpec)

/-- ITS FALSE NEIGHBOUR: 'it returns false'. Refute it at one input. -/
def tableDoesWrong : ChangeSpec := { name := "tableDoes", fn := fun _ => fun
  | [d1, d2, d3] => { results := [.lit (.bool false)], args := [d1, d2, d3] }
  | _ => none }
def TableDoesWrongFalsely : Prop := tableDoesRow.holds Try.pinned (OpenSpec.ofChange tableDoesWrong)

/-- 'angeluslaw13.SlopeIs': WHATEVER THE INPUT: true; the input reads as it did. -/
def slopeIsSpec : ChangeSpec := { name := "slopeIs", fn := fun _ => fun
  | [d1, d2] => { results := [.lit (.bool true)], args := [d1, d2] }
  | _ => none }
def slopeIsRow : OpenClaim := { program := "ytccnlakbplmhnaa", sum := "8788e98e97aa8963d8e937709d724a559c42540d579c67299007f499d62094f8", func := "angelus/angeluslaw13.SlopeIs", spec := "slopeIs", apart := false }
def SlopeIsSaid : Prop := slopeIsRow.holds Try.pinned (OpenSpec.ofChange slopeIsSpec)

/-- ITS FALSE NEIGHBOUR: 'it returns false'. Refute it at one input. -/
def slopeIsWrong : ChangeSpec := { name := "slopeIs", fn := fun _ => fun
  | [d1, d2] => { results := [.lit (.bool false)], args := [d1, d2] }
  | _ => none }
def SlopeIsWrongFalsely : Prop := slopeIsRow.holds Try.pinned (OpenSpec.ofChange slopeIsWrong)

/-- 'angeluslaw13.SlopeBound': WHATEVER THE INPUT: true; the input reads as it did. -/
def slopeBoundSpec : ChangeSpec := { name := "slopeBound", fn := fun _ => fun
  | [d1, d2] => { results := [.lit (.bool true)], args := [d1, d2] }
  | _ => none }
def slopeBoundRow : OpenClaim := { program := "ytccnlakbplmhnaa", sum := "8788e98e97aa8963d8e937709d724a559c42540d579c67299007f499d62094f8", func := "angelus/angeluslaw13.SlopeBound", spec := "slopeBound", apart := false }
def SlopeBoundSaid : Prop := slopeBoundRow.holds Try.pinned (OpenSpec.ofChange slopeBoundSpec)

/-- ITS FALSE NEIGHBOUR: 'it returns false'. Refute it at one input. -/
def slopeBoundWrong : ChangeSpec := { name := "slopeBound", fn := fun _ => fun
  | [d1, d2] => { results := [.lit (.bool false)], args := [d1, d2] }
  | _ => none }
def SlopeBoundWrongFalsely : Prop := slopeBoundRow.holds Try.pinned (OpenSpec.ofChange slopeBoundWrong)

/-- 'angeluslaw13.SlopeLine': WHATEVER THE INPUT: true; the input reads as it did. -/
def slopeLineSpec : ChangeSpec := { name := "slopeLine", fn := fun _ => fun
  | [d1, d2, d3, d4, d5, d6] => { results := [.lit (.bool true)], args := [d1, d2, d3, d4, d5, d6] }
  | _ => none }
def slopeLineRow : OpenClaim := { program := "ytccnlakbplmhnaa", sum := "8788e98e97aa8963d8e937709d724a559c42540d579c67299007f499d62094f8", func := "angelus/angeluslaw13.SlopeLine", spec := "slopeLine", apart := false }
def SlopeLineSaid : Prop := slopeLineRow.holds Try.pinned (OpenSpec.ofChange slopeLineSpec)

/-- ITS FALSE NEIGHBOUR: 'it returns false'. Refute it at one input. -/
def slopeLineWrong : ChangeSpec := { name := "slopeLine", fn := fun _ => fun
  | [d1, d2, d3, d4, d5, d6] => { results := [.lit (.bool false)], args := [d1, d2, d3, d4, d5, d6] }
  | _ => none }
def SlopeLineWrongFalsely : Prop := slopeLineRow.holds Try.pinned (OpenSpec.ofChange slopeLineWrong)

/-- 'angeluslaw13.SlopeMoved': WHATEVER THE INPUT: true; the input reads as it did. -/
def slopeMovedSpec : ChangeSpec := { name := "slopeMoved", fn := fun _ => fun
  | [d1, d2, d3, d4] => { results := [.lit (.bool true)], args := [d1, d2, d3, d4] }
  | _ => none }
def slopeMovedRow : OpenClaim := { program := "ytccnlakbplmhnaa", sum := "8788e98e97aa8963d8e937709d724a559c42540d579c67299007f499d62094f8", func := "angelus/angeluslaw13.SlopeMoved", spec := "slopeMoved", apart := false }
def SlopeMovedSaid : Prop := slopeMovedRow.holds Try.pinned (OpenSpec.ofChange slopeMovedSpec)

/-- ITS FALSE NEIGHBOUR: 'it returns false'. Refute it at one input. -/
def slopeMovedWrong : ChangeSpec := { name := "slopeMoved", fn := fun _ => fun
  | [d1, d2, d3, d4] => { results := [.lit (.bool false)], args := [d1, d2, d3, d4] }
  | _ => none }
def SlopeMovedWrongFalsely : Prop := slopeMovedRow.holds Try.pinned (OpenSpec.ofChange slopeMovedWrong)

/-- 'angeluslaw13.SlopeSigns': WHATEVER THE INPUT: true; the input reads as it did. -/
def slopeSignsSpec : ChangeSpec := { name := "slopeSigns", fn := fun _ => fun
  | [d1, d2] => { results := [.lit (.bool true)], args := [d1, d2] }
  | _ => none }
def slopeSignsRow : OpenClaim := { program := "ytccnlakbplmhnaa", sum := "8788e98e97aa8963d8e937709d724a559c42540d579c67299007f499d62094f8", func := "angelus/angeluslaw13.SlopeSigns", spec := "slopeSigns", apart := false }
def SlopeSignsSaid : Prop := slopeSignsRow.holds Try.pinned (OpenSpec.ofChange slopeSignsSpec)

/-- ITS FALSE NEIGHBOUR: 'it returns false'. Refute it at one input. -/
def slopeSignsWrong : ChangeSpec := { name := "slopeSigns", fn := fun _ => fun
  | [d1, d2] => { results := [.lit (.bool false)], args := [d1, d2] }
  | _ => none }
def SlopeSignsWrongFalsely : Prop := slopeSignsRow.holds Try.pinned (OpenSpec.ofChange slopeSignsWrong)

/-- 'angeluslaw01.FixFloors': WHATEVER THE INPUT: true; the input reads as it did. -/
def fixFloorsSpec : ChangeSpec := { name := "fixFloors", fn := fun _ => fun
  | [d1, d2] => { results := [.lit (.bool true)], args := [d1, d2] }
  | _ => none }
def fixFloorsRow : OpenClaim := { program := "ytccnlakbplmhnaa", sum := "8788e98e97aa8963d8e937709d724a559c42540d579c67299007f499d62094f8", func := "angelus/angeluslaw01.FixFloors", spec := "fixFloors", named := ["math/bits.divideError", "math/bits.overflowError"], apart := false }
def FixFloorsSaid : Prop := fixFloorsRow.holds Try.pinned (OpenSpec.ofChange fixFloorsSpec)

/-- ITS FALSE NEIGHBOUR: 'it returns false'. Refute it at one input. -/
def fixFloorsWrong : ChangeSpec := { name := "fixFloors", fn := fun _ => fun
  | [d1, d2] => { results := [.lit (.bool false)], args := [d1, d2] }
  | _ => none }
def FixFloorsWrongFalsely : Prop := fixFloorsRow.holds Try.pinned (OpenSpec.ofChange fixFloorsWrong)

/-- 'angeluslaw01.FixProducts': WHATEVER THE INPUT: true; the input reads as it did. -/
def fixProductsSpec : ChangeSpec := { name := "fixProducts", fn := fun _ => fun
  | [d1, d2, d3] => { results := [.lit (.bool true)], args := [d1, d2, d3] }
  | _ => none }
def fixProductsRow : OpenClaim := { program := "ytccnlakbplmhnaa", sum := "8788e98e97aa8963d8e937709d724a559c42540d579c67299007f499d62094f8", func := "angelus/angeluslaw01.FixProducts", spec := "fixProducts", named := ["math/bits.divideError", "math/bits.overflowError"], apart := false }
def FixProductsSaid : Prop := fixProductsRow.holds Try.pinned (OpenSpec.ofChange fixProductsSpec)

/-- ITS FALSE NEIGHBOUR: 'it returns false'. Refute it at one input. -/
def fixProductsWrong : ChangeSpec := { name := "fixProducts", fn := fun _ => fun
  | [d1, d2, d3] => { results := [.lit (.bool false)], args := [d1, d2, d3] }
  | _ => none }
def FixProductsWrongFalsely : Prop := fixProductsRow.holds Try.pinned (OpenSpec.ofChange fixProductsWrong)

/-- 'angeluslaw01.FixScales': WHATEVER THE INPUT: true; the input reads as it did. -/
def fixScalesSpec : ChangeSpec := { name := "fixScales", fn := fun _ => fun
  | [d1, d2] => { results := [.lit (.bool true)], args := [d1, d2] }
  | _ => none }
def fixScalesRow : OpenClaim := { program := "ytccnlakbplmhnaa", sum := "8788e98e97aa8963d8e937709d724a559c42540d579c67299007f499d62094f8", func := "angelus/angeluslaw01.FixScales", spec := "fixScales", named := ["math/bits.divideError", "math/bits.overflowError"], apart := false }
def FixScalesSaid : Prop := fixScalesRow.holds Try.pinned (OpenSpec.ofChange fixScalesSpec)

/-- ITS FALSE NEIGHBOUR: 'it returns false'. Refute it at one input. -/
def fixScalesWrong : ChangeSpec := { name := "fixScales", fn := fun _ => fun
  | [d1, d2] => { results := [.lit (.bool false)], args := [d1, d2] }
  | _ => none }
def FixScalesWrongFalsely : Prop := fixScalesRow.holds Try.pinned (OpenSpec.ofChange fixScalesWrong)

/-- 'angeluslaw01.FixClamps': WHATEVER THE INPUT: true; the input reads as it did. -/
def fixClampsSpec : ChangeSpec := { name := "fixClamps", fn := fun _ => fun
  | [d1, d2, d3] => { results := [.lit (.bool true)], args := [d1, d2, d3] }
  | _ => none }
def fixClampsRow : OpenClaim := { program := "ytccnlakbplmhnaa", sum := "8788e98e97aa8963d8e937709d724a559c42540d579c67299007f499d62094f8", func := "angelus/angeluslaw01.FixClamps", spec := "fixClamps", named := ["math/bits.divideError", "math/bits.overflowError"], apart := false }
def FixClampsSaid : Prop := fixClampsRow.holds Try.pinned (OpenSpec.ofChange fixClampsSpec)

/-- ITS FALSE NEIGHBOUR: 'it returns false'. Refute it at one input. -/
def fixClampsWrong : ChangeSpec := { name := "fixClamps", fn := fun _ => fun
  | [d1, d2, d3] => { results := [.lit (.bool false)], args := [d1, d2, d3] }
  | _ => none }
def FixClampsWrongFalsely : Prop := fixClampsRow.holds Try.pinned (OpenSpec.ofChange fixClampsWrong)

/-- 'angeluslaw01.FixOrder': WHATEVER THE INPUT: true; the input reads as it did. -/
def fixOrderSpec : ChangeSpec := { name := "fixOrder", fn := fun _ => fun
  | [d1, d2, d3] => { results := [.lit (.bool true)], args := [d1, d2, d3] }
  | _ => none }
def fixOrderRow : OpenClaim := { program := "ytccnlakbplmhnaa", sum := "8788e98e97aa8963d8e937709d724a559c42540d579c67299007f499d62094f8", func := "angelus/angeluslaw01.FixOrder", spec := "fixOrder", named := ["math/bits.divideError", "math/bits.overflowError"], apart := false }
def FixOrderSaid : Prop := fixOrderRow.holds Try.pinned (OpenSpec.ofChange fixOrderSpec)

/-- ITS FALSE NEIGHBOUR: 'it returns false'. Refute it at one input. -/
def fixOrderWrong : ChangeSpec := { name := "fixOrder", fn := fun _ => fun
  | [d1, d2, d3] => { results := [.lit (.bool false)], args := [d1, d2, d3] }
  | _ => none }
def FixOrderWrongFalsely : Prop := fixOrderRow.holds Try.pinned (OpenSpec.ofChange fixOrderWrong)

/-- 'angeluslaw01.FixSums': WHATEVER THE INPUT: true; the input reads as it did. -/
def fixSumsSpec : ChangeSpec := { name := "fixSums", fn := fun _ => fun
  | [d1, d2] => { results := [.lit (.bool true)], args := [d1, d2] }
  | _ => none }
def fixSumsRow : OpenClaim := { program := "ytccnlakbplmhnaa", sum := "8788e98e97aa8963d8e937709d724a559c42540d579c67299007f499d62094f8", func := "angelus/angeluslaw01.FixSums", spec := "fixSums", named := ["math/bits.divideError", "math/bits.overflowError"], apart := false }
def FixSumsSaid : Prop := fixSumsRow.holds Try.pinned (OpenSpec.ofChange fixSumsSpec)

/-- ITS FALSE NEIGHBOUR: 'it returns false'. Refute it at one input. -/
def fixSumsWrong : ChangeSpec := { name := "fixSums", fn := fun _ => fun
  | [d1, d2] => { results := [.lit (.bool false)], args := [d1, d2] }
  | _ => none }
def FixSumsWrongFalsely : Prop := fixSumsRow.holds Try.pinned (OpenSpec.ofChange fixSumsWrong)

/-- 'angeluslaw01.FixBack': WHATEVER THE INPUT: true; the input reads as it did. -/
def fixBackSpec : ChangeSpec := { name := "fixBack", fn := fun _ => fun
  | [d1, d2] => { results := [.lit (.bool true)], args := [d1, d2] }
  | _ => none }
def fixBackRow : OpenClaim := { program := "ytccnlakbplmhnaa", sum := "8788e98e97aa8963d8e937709d724a559c42540d579c67299007f499d62094f8", func := "angelus/angeluslaw01.FixBack", spec := "fixBack", named := ["math/bits.divideError", "math/bits.overflowError"], apart := false }
def FixBackSaid : Prop := fixBackRow.holds Try.pinned (OpenSpec.ofChange fixBackSpec)

/-- ITS FALSE NEIGHBOUR: 'it returns false'. Refute it at one input. -/
def fixBackWrong : ChangeSpec := { name := "fixBack", fn := fun _ => fun
  | [d1, d2] => { results := [.lit (.bool false)], args := [d1, d2] }
  | _ => none }
def FixBackWrongFalsely : Prop := fixBackRow.holds Try.pinned (OpenSpec.ofChange fixBackWrong)

/-- 'angeluslaw13.SlopeGains': WHATEVER THE INPUT: true; the input reads as it did. -/
def slopeGainsSpec : ChangeSpec := { name := "slopeGains", fn := fun _ => fun
  | [d1, d2, d3, d4] => { results := [.lit (.bool true)], args := [d1, d2, d3, d4] }
  | _ => none }
def slopeGainsRow : OpenClaim := { program := "ytccnlakbplmhnaa", sum := "8788e98e97aa8963d8e937709d724a559c42540d579c67299007f499d62094f8", func := "angelus/angeluslaw13.SlopeGains", spec := "slopeGains", named := ["math/bits.divideError", "math/bits.overflowError"], apart := false }
def SlopeGainsSaid : Prop := slopeGainsRow.holds Try.pinned (OpenSpec.ofChange slopeGainsSpec)

/-- ITS FALSE NEIGHBOUR: 'it returns false'. Refute it at one input. -/
def slopeGainsWrong : ChangeSpec := { name := "slopeGains", fn := fun _ => fun
  | [d1, d2, d3, d4] => { results := [.lit (.bool false)], args := [d1, d2, d3, d4] }
  | _ => none }
def SlopeGainsWrongFalsely : Prop := slopeGainsRow.holds Try.pinned (OpenSpec.ofChange slopeGainsWrong)

/- THE SECOND FORM. 'bulk': how many values and letters a reading holds, each counted each time it is reached (what is shared counts as often as it is met; a slice's spare places count too). A statement '..UptoSaid' is the law's where the arguments, and the package variables that the reading takes, are together of bulk at most 1048576: NARROWER than '..Said'. Prove '..Said' where nothing that the law and all that it calls make is longer than what came in: it says more and counts as full. Else prove '..UptoSaid'. A law counts once. -/
mutual
def uptoBulk {H : Type} : DataW H → Nat
  | .lit (.string bytes) => bytes.length + 1
  | .lit _ => 1
  | .nil => 1
  | .ptr d => uptoBulk d + 1
  | .slice elems spare => uptoBulkAll elems + uptoBulkAll spare + 1
  | .agg parts => uptoBulkAll parts + 1
  | .iface _ d => uptoBulk d + 1
  | .map entries => uptoBulkEntries entries + 1
  | .held _ => 1
def uptoBulkAll {H : Type} : List (DataW H) → Nat
  | [] => 0
  | d :: r => uptoBulk d + uptoBulkAll r
def uptoBulkEntries {H : Type} : List (Lit × DataW H) → Nat
  | [] => 0
  | x :: r => uptoBulkEntry x + uptoBulkEntries r
def uptoBulkEntry {H : Type} : Lit × DataW H → Nat
  | (.string bytes, d) => bytes.length + uptoBulk d + 1
  | (_, d) => uptoBulk d + 1
 end
def uptoSmall : (H : Type) → List (DataW H) → Bool := fun _ ds => decide (uptoBulkAll ds ≤ 1048576)
def OpenSpec.upto (s : _root_.Go.ChangeSpec) : _root_.Go.OpenSpec := { _root_.Go.OpenSpec.ofChange s with cond := some uptoSmall }

/-- 'angeluslaw12.TableRises', WHERE WHAT IT READS IS OF BULK AT MOST 1048576: true; the input reads as it did. -/
def tableRisesUptoRow : OpenClaim := { program := "ytccnlakbplmhnaa", sum := "8788e98e97aa8963d8e937709d724a559c42540d579c67299007f499d62094f8", func := "angelus/angeluslaw12.TableRises", spec := "tableRises", unfollowed := true, recurses := true, apart := false, narrowed := true }
def TableRisesUptoSaid : Prop := tableRisesUptoRow.holds Try.pinned (OpenSpec.upto tableRisesSpec)

/-- 'angeluslaw12.TableNewest', WHERE WHAT IT READS IS OF BULK AT MOST 1048576: true; the input reads as it did. -/
def tableNewestUptoRow : OpenClaim := { program := "ytccnlakbplmhnaa", sum := "8788e98e97aa8963d8e937709d724a559c42540d579c67299007f499d62094f8", func := "angelus/angeluslaw12.TableNewest", spec := "tableNewest", unfollowed := true, recurses := true, apart := false, narrowed := true }
def TableNewestUptoSaid : Prop := tableNewestUptoRow.holds Try.pinned (OpenSpec.upto tableNewestSpec)

/-- 'angeluslaw12.TableDoes', WHERE WHAT IT READS IS OF BULK AT MOST 1048576: true; the input reads as it did. -/
def tableDoesUptoRow : OpenClaim := { program := "ytccnlakbplmhnaa", sum := "8788e98e97aa8963d8e937709d724a559c42540d579c67299007f499d62094f8", func := "angelus/angeluslaw12.TableDoes", spec := "tableDoes", unfollowed := true, recurses := true, apart := false, narrowed := true }
def TableDoesUptoSaid : Prop := tableDoesUptoRow.holds Try.pinned (OpenSpec.upto tableDoesSpec)

/-- 'angeluslaw13.SlopeIs', WHERE WHAT IT READS IS OF BULK AT MOST 1048576: true; the input reads as it did. -/
def slopeIsUptoRow : OpenClaim := { program := "ytccnlakbplmhnaa", sum := "8788e98e97aa8963d8e937709d724a559c42540d579c67299007f499d62094f8", func := "angelus/angeluslaw13.SlopeIs", spec := "slopeIs", apart := false, narrowed := true }
def SlopeIsUptoSaid : Prop := slopeIsUptoRow.holds Try.pinned (OpenSpec.upto slopeIsSpec)

/-- 'angeluslaw13.SlopeBound', WHERE WHAT IT READS IS OF BULK AT MOST 1048576: true; the input reads as it did. -/
def slopeBoundUptoRow : OpenClaim := { program := "ytccnlakbplmhnaa", sum := "8788e98e97aa8963d8e937709d724a559c42540d579c67299007f499d62094f8", func := "angelus/angeluslaw13.SlopeBound", spec := "slopeBound", apart := false, narrowed := true }
def SlopeBoundUptoSaid : Prop := slopeBoundUptoRow.holds Try.pinned (OpenSpec.upto slopeBoundSpec)

/-- 'angeluslaw13.SlopeLine', WHERE WHAT IT READS IS OF BULK AT MOST 1048576: true; the input reads as it did. -/
def slopeLineUptoRow : OpenClaim := { program := "ytccnlakbplmhnaa", sum := "8788e98e97aa8963d8e937709d724a559c42540d579c67299007f499d62094f8", func := "angelus/angeluslaw13.SlopeLine", spec := "slopeLine", apart := false, narrowed := true }
def SlopeLineUptoSaid : Prop := slopeLineUptoRow.holds Try.pinned (OpenSpec.upto slopeLineSpec)

/-- 'angeluslaw13.SlopeMoved', WHERE WHAT IT READS IS OF BULK AT MOST 1048576: true; the input reads as it did. -/
def slopeMovedUptoRow : OpenClaim := { program := "ytccnlakbplmhnaa", sum := "8788e98e97aa8963d8e937709d724a559c42540d579c67299007f499d62094f8", func := "angelus/angeluslaw13.SlopeMoved", spec := "slopeMoved", apart := false, narrowed := true }
def SlopeMovedUptoSaid : Prop := slopeMovedUptoRow.holds Try.pinned (OpenSpec.upto slopeMovedSpec)

/-- 'angeluslaw13.SlopeSigns', WHERE WHAT IT READS IS OF BULK AT MOST 1048576: true; the input reads as it did. -/
def slopeSignsUptoRow : OpenClaim := { program := "ytccnlakbplmhnaa", sum := "8788e98e97aa8963d8e937709d724a559c42540d579c67299007f499d62094f8", func := "angelus/angeluslaw13.SlopeSigns", spec := "slopeSigns", apart := false, narrowed := true }
def SlopeSignsUptoSaid : Prop := slopeSignsUptoRow.holds Try.pinned (OpenSpec.upto slopeSignsSpec)

/-- 'angeluslaw01.FixFloors', WHERE WHAT IT READS IS OF BULK AT MOST 1048576: true; the input reads as it did. -/
def fixFloorsUptoRow : OpenClaim := { program := "ytccnlakbplmhnaa", sum := "8788e98e97aa8963d8e937709d724a559c42540d579c67299007f499d62094f8", func := "angelus/angeluslaw01.FixFloors", spec := "fixFloors", named := ["math/bits.divideError", "math/bits.overflowError"], apart := false, narrowed := true }
def FixFloorsUptoSaid : Prop := fixFloorsUptoRow.holds Try.pinned (OpenSpec.upto fixFloorsSpec)

/-- 'angeluslaw01.FixProducts', WHERE WHAT IT READS IS OF BULK AT MOST 1048576: true; the input reads as it did. -/
def fixProductsUptoRow : OpenClaim := { program := "ytccnlakbplmhnaa", sum := "8788e98e97aa8963d8e937709d724a559c42540d579c67299007f499d62094f8", func := "angelus/angeluslaw01.FixProducts", spec := "fixProducts", named := ["math/bits.divideError", "math/bits.overflowError"], apart := false, narrowed := true }
def FixProductsUptoSaid : Prop := fixProductsUptoRow.holds Try.pinned (OpenSpec.upto fixProductsSpec)

/-- 'angeluslaw01.FixScales', WHERE WHAT IT READS IS OF BULK AT MOST 1048576: true; the input reads as it did. -/
def fixScalesUptoRow : OpenClaim := { program := "ytccnlakbplmhnaa", sum := "8788e98e97aa8963d8e937709d724a559c42540d579c67299007f499d62094f8", func := "angelus/angeluslaw01.FixScales", spec := "fixScales", named := ["math/bits.divideError", "math/bits.overflowError"], apart := false, narrowed := true }
def FixScalesUptoSaid : Prop := fixScalesUptoRow.holds Try.pinned (OpenSpec.upto fixScalesSpec)

/-- 'angeluslaw01.FixClamps', WHERE WHAT IT READS IS OF BULK AT MOST 1048576: true; the input reads as it did. -/
def fixClampsUptoRow : OpenClaim := { program := "ytccnlakbplmhnaa", sum := "8788e98e97aa8963d8e937709d724a559c42540d579c67299007f499d62094f8", func := "angelus/angeluslaw01.FixClamps", spec := "fixClamps", named := ["math/bits.divideError", "math/bits.overflowError"], apart := false, narrowed := true }
def FixClampsUptoSaid : Prop := fixClampsUptoRow.holds Try.pinned (OpenSpec.upto fixClampsSpec)

/-- 'angeluslaw01.FixOrder', WHERE WHAT IT READS IS OF BULK AT MOST 1048576: true; the input reads as it did. -/
def fixOrderUptoRow : OpenClaim := { program := "ytccnlakbplmhnaa", sum := "8788e98e97aa8963d8e937709d724a559c42540d579c67299007f499d62094f8", func := "angelus/angeluslaw01.FixOrder", spec := "fixOrder", named := ["math/bits.divideError", "math/bits.overflowError"], apart := false, narrowed := true }
def FixOrderUptoSaid : Prop := fixOrderUptoRow.holds Try.pinned (OpenSpec.upto fixOrderSpec)

/-- 'angeluslaw01.FixSums', WHERE WHAT IT READS IS OF BULK AT MOST 1048576: true; the input reads as it did. -/
def fixSumsUptoRow : OpenClaim := { program := "ytccnlakbplmhnaa", sum := "8788e98e97aa8963d8e937709d724a559c42540d579c67299007f499d62094f8", func := "angelus/angeluslaw01.FixSums", spec := "fixSums", named := ["math/bits.divideError", "math/bits.overflowError"], apart := false, narrowed := true }
def FixSumsUptoSaid : Prop := fixSumsUptoRow.holds Try.pinned (OpenSpec.upto fixSumsSpec)

/-- 'angeluslaw01.FixBack', WHERE WHAT IT READS IS OF BULK AT MOST 1048576: true; the input reads as it did. -/
def fixBackUptoRow : OpenClaim := { program := "ytccnlakbplmhnaa", sum := "8788e98e97aa8963d8e937709d724a559c42540d579c67299007f499d62094f8", func := "angelus/angeluslaw01.FixBack", spec := "fixBack", named := ["math/bits.divideError", "math/bits.overflowError"], apart := false, narrowed := true }
def FixBackUptoSaid : Prop := fixBackUptoRow.holds Try.pinned (OpenSpec.upto fixBackSpec)

/-- 'angeluslaw13.SlopeGains', WHERE WHAT IT READS IS OF BULK AT MOST 1048576: true; the input reads as it did. -/
def slopeGainsUptoRow : OpenClaim := { program := "ytccnlakbplmhnaa", sum := "8788e98e97aa8963d8e937709d724a559c42540d579c67299007f499d62094f8", func := "angelus/angeluslaw13.SlopeGains", spec := "slopeGains", named := ["math/bits.divideError", "math/bits.overflowError"], apart := false, narrowed := true }
def SlopeGainsUptoSaid : Prop := slopeGainsUptoRow.holds Try.pinned (OpenSpec.upto slopeGainsSpec)

end Rows
end Go.Proofs.Ytccnlakbplmhnaa
