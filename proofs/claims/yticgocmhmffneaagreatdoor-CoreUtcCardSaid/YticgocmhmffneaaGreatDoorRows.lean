/-
  NARROWER THAN 'FOR EVERY INPUT', by the rows' own cells (each row's printed sentence says how): CoreRises: laid · CoreIssued: laid · CoreOnce: laid · NetIdle: laid · NetApart: laid · NetTwice: laid · NetHeard: laid · NetKeeps: laid · NetNil: laid · NetDoes: laid · CoreUtc: laid.
  DERIVED. THE GIVEN ROWS OF THIS SEAT. 11 by the template 'for every input the law returns true; each argument reads behind the call as it read before'; 0 by the template 'total and deterministic' (their statements: YticgocmhmffneaaGreatDoorTotals.lean).
  GIVEN WITH THE SEED: the statements are not yours to turn. If you find one false, say at which input.
  Laid BY PROGRAM, IN A SANDBOX (cutbox-rows.mjs): the forced cells as the released guide's own fill.sh prints them over the translation eec61f2ada033f5f… (all of the seat's roots in one cut). By AI agents, Wed Nov 11 2026. No macro, syntax, notation, axiom, sorry.
-/
import Derived.Test.YticgocmhmffneaaGreatDoorChecked
import GoSem.Claim
import GoSem.ClaimJoined
import GoSem.ClaimMapViews
import Derived.JoinedTies
import Derived.KernelRfl
namespace Go.Proofs.YticgocmhmffneaaGreatDoor
/- THE CELL 'sum', in the pinned program and in every row, IS THE sha256 OF THE DUMP (.gsa) THAT YticgocmhmffneaaGreatDoorProg.lean LOADS. Nothing in Lean hashes anything: it is a label: what it is worth is what the hold of that sum in a sandbox is worth. -/
noncomputable def Tryz.pinned : Pinned := { name := "yticgocmhmffneaagreatdoor", sum := "eec61f2ada033f5fad6e44780dee187298c3f6aee56b01bca770f82f1e660a45", checked := Tryz.checked }
namespace Rows
def none {H : Type} : Left H := { results := [], args := [] }

/- WHAT THE LISTED PACKAGE-LEVEL VARIABLES READ AS WHEN THE CALL BEGINS. Each datum BY PROGRAM (the guide's laid-datum.mjs) off the statement by which the dump's own 'gosem.cut.vars' lays the variable. In a bare row this is a premise. The card (YticgocmhmffneaaGreatDoorCards.lean) ties it to the program's text. -/
def laid_math_bits_deBruijn64tab {H : Type} : DataW H := .agg [.lit (.int .u8 0), .lit (.int .u8 1), .lit (.int .u8 56), .lit (.int .u8 2), .lit (.int .u8 57), .lit (.int .u8 49), .lit (.int .u8 28), .lit (.int .u8 3), .lit (.int .u8 61), .lit (.int .u8 58), .lit (.int .u8 42), .lit (.int .u8 50), .lit (.int .u8 38), .lit (.int .u8 29), .lit (.int .u8 17), .lit (.int .u8 4), .lit (.int .u8 62), .lit (.int .u8 47), .lit (.int .u8 59), .lit (.int .u8 36), .lit (.int .u8 45), .lit (.int .u8 43), .lit (.int .u8 51), .lit (.int .u8 22), .lit (.int .u8 53), .lit (.int .u8 39), .lit (.int .u8 33), .lit (.int .u8 30), .lit (.int .u8 24), .lit (.int .u8 18), .lit (.int .u8 12), .lit (.int .u8 5), .lit (.int .u8 63), .lit (.int .u8 55), .lit (.int .u8 48), .lit (.int .u8 27), .lit (.int .u8 60), .lit (.int .u8 41), .lit (.int .u8 37), .lit (.int .u8 16), .lit (.int .u8 46), .lit (.int .u8 35), .lit (.int .u8 44), .lit (.int .u8 21), .lit (.int .u8 52), .lit (.int .u8 32), .lit (.int .u8 23), .lit (.int .u8 11), .lit (.int .u8 54), .lit (.int .u8 26), .lit (.int .u8 40), .lit (.int .u8 15), .lit (.int .u8 34), .lit (.int .u8 20), .lit (.int .u8 31), .lit (.int .u8 10), .lit (.int .u8 25), .lit (.int .u8 14), .lit (.int .u8 19), .lit (.int .u8 9), .lit (.int .u8 13), .lit (.int .u8 8), .lit (.int .u8 7), .lit (.int .u8 6)]

/-- 'angelustop.CoreRises': WHATEVER THE INPUT: true; the input reads as it did. -/
def coreRisesSpec : ChangeSpec := { name := "coreRises", fn := fun _ => fun
  | [d1, d2] => { results := [.lit (.bool true)], args := [d1, d2] }
  | _ => none }
def coreRisesRow : OpenClaim := { program := "yticgocmhmffneaagreatdoor", sum := "eec61f2ada033f5fad6e44780dee187298c3f6aee56b01bca770f82f1e660a45", func := "angelus/angelustop.CoreRises", spec := "coreRises", unfollowed := true, recurses := true, named := ["math/bits.divideError", "math/bits.overflowError", "math/bits.deBruijn64tab"], apart := false, laid := [("math/bits.deBruijn64tab", laid_math_bits_deBruijn64tab)] }
def CoreRisesSaid : Prop := coreRisesRow.holds Tryz.pinned (OpenSpec.ofChange coreRisesSpec)

/-- ITS FALSE NEIGHBOUR: 'it returns false'. Refute it at one input. -/
def coreRisesWrong : ChangeSpec := { name := "coreRises", fn := fun _ => fun
  | [d1, d2] => { results := [.lit (.bool false)], args := [d1, d2] }
  | _ => none }
def CoreRisesWrongFalsely : Prop := coreRisesRow.holds Tryz.pinned (OpenSpec.ofChange coreRisesWrong)

/-- 'angelustop.CoreIssued': WHATEVER THE INPUT: true; the input reads as it did. -/
def coreIssuedSpec : ChangeSpec := { name := "coreIssued", fn := fun _ => fun
  | [d1, d2] => { results := [.lit (.bool true)], args := [d1, d2] }
  | _ => none }
def coreIssuedRow : OpenClaim := { program := "yticgocmhmffneaagreatdoor", sum := "eec61f2ada033f5fad6e44780dee187298c3f6aee56b01bca770f82f1e660a45", func := "angelus/angelustop.CoreIssued", spec := "coreIssued", unfollowed := true, recurses := true, named := ["math/bits.divideError", "math/bits.overflowError", "math/bits.deBruijn64tab"], apart := false, laid := [("math/bits.deBruijn64tab", laid_math_bits_deBruijn64tab)] }
def CoreIssuedSaid : Prop := coreIssuedRow.holds Tryz.pinned (OpenSpec.ofChange coreIssuedSpec)

/-- ITS FALSE NEIGHBOUR: 'it returns false'. Refute it at one input. -/
def coreIssuedWrong : ChangeSpec := { name := "coreIssued", fn := fun _ => fun
  | [d1, d2] => { results := [.lit (.bool false)], args := [d1, d2] }
  | _ => none }
def CoreIssuedWrongFalsely : Prop := coreIssuedRow.holds Tryz.pinned (OpenSpec.ofChange coreIssuedWrong)

/-- 'angelustop.CoreOnce': WHATEVER THE INPUT: true; the input reads as it did. -/
def coreOnceSpec : ChangeSpec := { name := "coreOnce", fn := fun _ => fun
  | [d1, d2] => { results := [.lit (.bool true)], args := [d1, d2] }
  | _ => none }
def coreOnceRow : OpenClaim := { program := "yticgocmhmffneaagreatdoor", sum := "eec61f2ada033f5fad6e44780dee187298c3f6aee56b01bca770f82f1e660a45", func := "angelus/angelustop.CoreOnce", spec := "coreOnce", unfollowed := true, recurses := true, named := ["math/bits.divideError", "math/bits.overflowError", "math/bits.deBruijn64tab"], apart := false, laid := [("math/bits.deBruijn64tab", laid_math_bits_deBruijn64tab)] }
def CoreOnceSaid : Prop := coreOnceRow.holds Tryz.pinned (OpenSpec.ofChange coreOnceSpec)

/-- ITS FALSE NEIGHBOUR: 'it returns false'. Refute it at one input. -/
def coreOnceWrong : ChangeSpec := { name := "coreOnce", fn := fun _ => fun
  | [d1, d2] => { results := [.lit (.bool false)], args := [d1, d2] }
  | _ => none }
def CoreOnceWrongFalsely : Prop := coreOnceRow.holds Tryz.pinned (OpenSpec.ofChange coreOnceWrong)

/-- 'angeluslaw27.NetIdle': WHATEVER THE INPUT: true; the input reads as it did. -/
def netIdleSpec : ChangeSpec := { name := "netIdle", fn := fun _ => fun
  | [d1, d2] => { results := [.lit (.bool true)], args := [d1, d2] }
  | _ => none }
def netIdleRow : OpenClaim := { program := "yticgocmhmffneaagreatdoor", sum := "eec61f2ada033f5fad6e44780dee187298c3f6aee56b01bca770f82f1e660a45", func := "angelus/angeluslaw27.NetIdle", spec := "netIdle", unfollowed := true, recurses := true, named := ["math/bits.divideError", "math/bits.overflowError", "math/bits.deBruijn64tab"], apart := false, laid := [("math/bits.deBruijn64tab", laid_math_bits_deBruijn64tab)] }
def NetIdleSaid : Prop := netIdleRow.holds Tryz.pinned (OpenSpec.ofChange netIdleSpec)

/-- ITS FALSE NEIGHBOUR: 'it returns false'. Refute it at one input. -/
def netIdleWrong : ChangeSpec := { name := "netIdle", fn := fun _ => fun
  | [d1, d2] => { results := [.lit (.bool false)], args := [d1, d2] }
  | _ => none }
def NetIdleWrongFalsely : Prop := netIdleRow.holds Tryz.pinned (OpenSpec.ofChange netIdleWrong)

/-- 'angeluslaw27.NetApart': WHATEVER THE INPUT: true; the input reads as it did. -/
def netApartSpec : ChangeSpec := { name := "netApart", fn := fun _ => fun
  | [d1, d2, d3] => { results := [.lit (.bool true)], args := [d1, d2, d3] }
  | _ => none }
def netApartRow : OpenClaim := { program := "yticgocmhmffneaagreatdoor", sum := "eec61f2ada033f5fad6e44780dee187298c3f6aee56b01bca770f82f1e660a45", func := "angelus/angeluslaw27.NetApart", spec := "netApart", unfollowed := true, recurses := true, named := ["math/bits.divideError", "math/bits.overflowError", "math/bits.deBruijn64tab"], apart := false, laid := [("math/bits.deBruijn64tab", laid_math_bits_deBruijn64tab)] }
def NetApartSaid : Prop := netApartRow.holds Tryz.pinned (OpenSpec.ofChange netApartSpec)

/-- ITS FALSE NEIGHBOUR: 'it returns false'. Refute it at one input. -/
def netApartWrong : ChangeSpec := { name := "netApart", fn := fun _ => fun
  | [d1, d2, d3] => { results := [.lit (.bool false)], args := [d1, d2, d3] }
  | _ => none }
def NetApartWrongFalsely : Prop := netApartRow.holds Tryz.pinned (OpenSpec.ofChange netApartWrong)

/-- 'angeluslaw27.NetTwice': WHATEVER THE INPUT: true; the input reads as it did. -/
def netTwiceSpec : ChangeSpec := { name := "netTwice", fn := fun _ => fun
  | [d1, d2] => { results := [.lit (.bool true)], args := [d1, d2] }
  | _ => none }
def netTwiceRow : OpenClaim := { program := "yticgocmhmffneaagreatdoor", sum := "eec61f2ada033f5fad6e44780dee187298c3f6aee56b01bca770f82f1e660a45", func := "angelus/angeluslaw27.NetTwice", spec := "netTwice", unfollowed := true, recurses := true, named := ["math/bits.divideError", "math/bits.overflowError", "math/bits.deBruijn64tab"], apart := false, laid := [("math/bits.deBruijn64tab", laid_math_bits_deBruijn64tab)] }
def NetTwiceSaid : Prop := netTwiceRow.holds Tryz.pinned (OpenSpec.ofChange netTwiceSpec)

/-- ITS FALSE NEIGHBOUR: 'it returns false'. Refute it at one input. -/
def netTwiceWrong : ChangeSpec := { name := "netTwice", fn := fun _ => fun
  | [d1, d2] => { results := [.lit (.bool false)], args := [d1, d2] }
  | _ => none }
def NetTwiceWrongFalsely : Prop := netTwiceRow.holds Tryz.pinned (OpenSpec.ofChange netTwiceWrong)

/-- 'angeluslaw27.NetHeard': WHATEVER THE INPUT: true; the input reads as it did. -/
def netHeardSpec : ChangeSpec := { name := "netHeard", fn := fun _ => fun
  | [d1, d2] => { results := [.lit (.bool true)], args := [d1, d2] }
  | _ => none }
def netHeardRow : OpenClaim := { program := "yticgocmhmffneaagreatdoor", sum := "eec61f2ada033f5fad6e44780dee187298c3f6aee56b01bca770f82f1e660a45", func := "angelus/angeluslaw27.NetHeard", spec := "netHeard", unfollowed := true, recurses := true, named := ["math/bits.divideError", "math/bits.overflowError", "math/bits.deBruijn64tab"], apart := false, laid := [("math/bits.deBruijn64tab", laid_math_bits_deBruijn64tab)] }
def NetHeardSaid : Prop := netHeardRow.holds Tryz.pinned (OpenSpec.ofChange netHeardSpec)

/-- ITS FALSE NEIGHBOUR: 'it returns false'. Refute it at one input. -/
def netHeardWrong : ChangeSpec := { name := "netHeard", fn := fun _ => fun
  | [d1, d2] => { results := [.lit (.bool false)], args := [d1, d2] }
  | _ => none }
def NetHeardWrongFalsely : Prop := netHeardRow.holds Tryz.pinned (OpenSpec.ofChange netHeardWrong)

/-- 'angeluslaw27.NetKeeps': WHATEVER THE INPUT: true; the input reads as it did. -/
def netKeepsSpec : ChangeSpec := { name := "netKeeps", fn := fun _ => fun
  | [d1, d2] => { results := [.lit (.bool true)], args := [d1, d2] }
  | _ => none }
def netKeepsRow : OpenClaim := { program := "yticgocmhmffneaagreatdoor", sum := "eec61f2ada033f5fad6e44780dee187298c3f6aee56b01bca770f82f1e660a45", func := "angelus/angeluslaw27.NetKeeps", spec := "netKeeps", unfollowed := true, recurses := true, named := ["math/bits.divideError", "math/bits.overflowError", "math/bits.deBruijn64tab"], apart := false, laid := [("math/bits.deBruijn64tab", laid_math_bits_deBruijn64tab)] }
def NetKeepsSaid : Prop := netKeepsRow.holds Tryz.pinned (OpenSpec.ofChange netKeepsSpec)

/-- ITS FALSE NEIGHBOUR: 'it returns false'. Refute it at one input. -/
def netKeepsWrong : ChangeSpec := { name := "netKeeps", fn := fun _ => fun
  | [d1, d2] => { results := [.lit (.bool false)], args := [d1, d2] }
  | _ => none }
def NetKeepsWrongFalsely : Prop := netKeepsRow.holds Tryz.pinned (OpenSpec.ofChange netKeepsWrong)

/-- 'angeluslaw27.NetNil': WHATEVER THE INPUT: true; the input reads as it did. -/
def netNilSpec : ChangeSpec := { name := "netNil", fn := fun _ => fun
  | [d1, d2, d3] => { results := [.lit (.bool true)], args := [d1, d2, d3] }
  | _ => none }
def netNilRow : OpenClaim := { program := "yticgocmhmffneaagreatdoor", sum := "eec61f2ada033f5fad6e44780dee187298c3f6aee56b01bca770f82f1e660a45", func := "angelus/angeluslaw27.NetNil", spec := "netNil", unfollowed := true, recurses := true, named := ["math/bits.divideError", "math/bits.overflowError", "math/bits.deBruijn64tab"], apart := false, laid := [("math/bits.deBruijn64tab", laid_math_bits_deBruijn64tab)] }
def NetNilSaid : Prop := netNilRow.holds Tryz.pinned (OpenSpec.ofChange netNilSpec)

/-- ITS FALSE NEIGHBOUR: 'it returns false'. Refute it at one input. -/
def netNilWrong : ChangeSpec := { name := "netNil", fn := fun _ => fun
  | [d1, d2, d3] => { results := [.lit (.bool false)], args := [d1, d2, d3] }
  | _ => none }
def NetNilWrongFalsely : Prop := netNilRow.holds Tryz.pinned (OpenSpec.ofChange netNilWrong)

/-- 'angeluslaw27.NetDoes': WHATEVER THE INPUT: true; the input reads as it did. -/
def netDoesSpec : ChangeSpec := { name := "netDoes", fn := fun _ => fun
  | [d1, d2, d3] => { results := [.lit (.bool true)], args := [d1, d2, d3] }
  | _ => none }
def netDoesRow : OpenClaim := { program := "yticgocmhmffneaagreatdoor", sum := "eec61f2ada033f5fad6e44780dee187298c3f6aee56b01bca770f82f1e660a45", func := "angelus/angeluslaw27.NetDoes", spec := "netDoes", unfollowed := true, recurses := true, named := ["math/bits.divideError", "math/bits.overflowError", "math/bits.deBruijn64tab"], apart := false, laid := [("math/bits.deBruijn64tab", laid_math_bits_deBruijn64tab)] }
def NetDoesSaid : Prop := netDoesRow.holds Tryz.pinned (OpenSpec.ofChange netDoesSpec)

/-- ITS FALSE NEIGHBOUR: 'it returns false'. Refute it at one input. -/
def netDoesWrong : ChangeSpec := { name := "netDoes", fn := fun _ => fun
  | [d1, d2, d3] => { results := [.lit (.bool false)], args := [d1, d2, d3] }
  | _ => none }
def NetDoesWrongFalsely : Prop := netDoesRow.holds Tryz.pinned (OpenSpec.ofChange netDoesWrong)

/-- 'angelustop.CoreUtc': WHATEVER THE INPUT: true; the input reads as it did. -/
def coreUtcSpec : ChangeSpec := { name := "coreUtc", fn := fun _ => fun
  | [d1, d2, d3] => { results := [.lit (.bool true)], args := [d1, d2, d3] }
  | _ => none }
def coreUtcRow : OpenClaim := { program := "yticgocmhmffneaagreatdoor", sum := "eec61f2ada033f5fad6e44780dee187298c3f6aee56b01bca770f82f1e660a45", func := "angelus/angelustop.CoreUtc", spec := "coreUtc", unfollowed := true, recurses := true, named := ["math/bits.divideError", "math/bits.overflowError", "math/bits.deBruijn64tab"], apart := false, laid := [("math/bits.deBruijn64tab", laid_math_bits_deBruijn64tab)] }
def CoreUtcSaid : Prop := coreUtcRow.holds Tryz.pinned (OpenSpec.ofChange coreUtcSpec)

/-- ITS FALSE NEIGHBOUR: 'it returns false'. Refute it at one input. -/
def coreUtcWrong : ChangeSpec := { name := "coreUtc", fn := fun _ => fun
  | [d1, d2, d3] => { results := [.lit (.bool false)], args := [d1, d2, d3] }
  | _ => none }
def CoreUtcWrongFalsely : Prop := coreUtcRow.holds Tryz.pinned (OpenSpec.ofChange coreUtcWrong)

/- THE SECOND FORM. 'bulk': how many values and letters a reading holds, each counted each time it is reached (what is shared counts as often as it is met; a slice's spare places count too). A statement '..UptoSaid' is the law's where the arguments, and the package variables that the reading takes, are together of bulk at most 1048576: NARROWER than '..Said'. Prove '..Said' where nothing that the law and all that it calls make is longer than what came in: it says more and counts as full. Else prove '..UptoSaid'. A law counts once. -/
mutual
def uptoBulk {H : Type} : DataW H → Nat
  | .lit (.string bytes) => bytes.length + 1
  | .lit _ => 1
  | .nil => 1
  | .ptr d => uptoBulk d + 1
  | .slice elems spare => uptoBulkAll elems + uptoBulkAll spare + 1
  | .agg parts => uptoBulkAll parts + 1
  | .iface _ d => uptoBulk d + 1
  | .map entries => uptoBulkEntries entries + 1
  | .held _ => 1
def uptoBulkAll {H : Type} : List (DataW H) → Nat
  | [] => 0
  | d :: r => uptoBulk d + uptoBulkAll r
def uptoBulkEntries {H : Type} : List (Lit × DataW H) → Nat
  | [] => 0
  | x :: r => uptoBulkEntry x + uptoBulkEntries r
def uptoBulkEntry {H : Type} : Lit × DataW H → Nat
  | (.string bytes, d) => bytes.length + uptoBulk d + 1
  | (_, d) => uptoBulk d + 1
 end
def uptoSmall : (H : Type) → List (DataW H) → Bool := fun _ ds => decide (uptoBulkAll ds ≤ 1048576)
def OpenSpec.upto (s : _root_.Go.ChangeSpec) : _root_.Go.OpenSpec := { _root_.Go.OpenSpec.ofChange s with cond := some uptoSmall }

/-- 'angelustop.CoreRises', WHERE WHAT IT READS IS OF BULK AT MOST 1048576: true; the input reads as it did. -/
def coreRisesUptoRow : OpenClaim := { program := "yticgocmhmffneaagreatdoor", sum := "eec61f2ada033f5fad6e44780dee187298c3f6aee56b01bca770f82f1e660a45", func := "angelus/angelustop.CoreRises", spec := "coreRises", unfollowed := true, recurses := true, named := ["math/bits.divideError", "math/bits.overflowError", "math/bits.deBruijn64tab"], apart := false, laid := [("math/bits.deBruijn64tab", laid_math_bits_deBruijn64tab)], narrowed := true }
def CoreRisesUptoSaid : Prop := coreRisesUptoRow.holds Tryz.pinned (OpenSpec.upto coreRisesSpec)

/-- 'angelustop.CoreIssued', WHERE WHAT IT READS IS OF BULK AT MOST 1048576: true; the input reads as it did. -/
def coreIssuedUptoRow : OpenClaim := { program := "yticgocmhmffneaagreatdoor", sum := "eec61f2ada033f5fad6e44780dee187298c3f6aee56b01bca770f82f1e660a45", func := "angelus/angelustop.CoreIssued", spec := "coreIssued", unfollowed := true, recurses := true, named := ["math/bits.divideError", "math/bits.overflowError", "math/bits.deBruijn64tab"], apart := false, laid := [("math/bits.deBruijn64tab", laid_math_bits_deBruijn64tab)], narrowed := true }
def CoreIssuedUptoSaid : Prop := coreIssuedUptoRow.holds Tryz.pinned (OpenSpec.upto coreIssuedSpec)

/-- 'angelustop.CoreOnce', WHERE WHAT IT READS IS OF BULK AT MOST 1048576: true; the input reads as it did. -/
def coreOnceUptoRow : OpenClaim := { program := "yticgocmhmffneaagreatdoor", sum := "eec61f2ada033f5fad6e44780dee187298c3f6aee56b01bca770f82f1e660a45", func := "angelus/angelustop.CoreOnce", spec := "coreOnce", unfollowed := true, recurses := true, named := ["math/bits.divideError", "math/bits.overflowError", "math/bits.deBruijn64tab"], apart := false, laid := [("math/bits.deBruijn64tab", laid_math_bits_deBruijn64tab)], narrowed := true }
def CoreOnceUptoSaid : Prop := coreOnceUptoRow.holds Tryz.pinned (OpenSpec.upto coreOnceSpec)

/-- 'angeluslaw27.NetIdle', WHERE WHAT IT READS IS OF BULK AT MOST 1048576: true; the input reads as it did. -/
def netIdleUptoRow : OpenClaim := { program := "yticgocmhmffneaagreatdoor", sum := "eec61f2ada033f5fad6e44780dee187298c3f6aee56b01bca770f82f1e660a45", func := "angelus/angeluslaw27.NetIdle", spec := "netIdle", unfollowed := true, recurses := true, named := ["math/bits.divideError", "math/bits.overflowError", "math/bits.deBruijn64tab"], apart := false, laid := [("math/bits.deBruijn64tab", laid_math_bits_deBruijn64tab)], narrowed := true }
def NetIdleUptoSaid : Prop := netIdleUptoRow.holds Tryz.pinned (OpenSpec.upto netIdleSpec)

/-- 'angeluslaw27.NetApart', WHERE WHAT IT READS IS OF BULK AT MOST 1048576: true; the input reads as it did. -/
def netApartUptoRow : OpenClaim := { program := "yticgocmhmffneaagreatdoor", sum := "eec61f2ada033f5fad6e44780dee187298c3f6aee56b01bca770f82f1e660a45", func := "angelus/angeluslaw27.NetApart", spec := "netApart", unfollowed := true, recurses := true, named := ["math/bits.divideError", "math/bits.overflowError", "math/bits.deBruijn64tab"], apart := false, laid := [("math/bits.deBruijn64tab", laid_math_bits_deBruijn64tab)], narrowed := true }
def NetApartUptoSaid : Prop := netApartUptoRow.holds Tryz.pinned (OpenSpec.upto netApartSpec)

/-- 'angeluslaw27.NetTwice', WHERE WHAT IT READS IS OF BULK AT MOST 1048576: true; the input reads as it did. -/
def netTwiceUptoRow : OpenClaim := { program := "yticgocmhmffneaagreatdoor", sum := "eec61f2ada033f5fad6e44780dee187298c3f6aee56b01bca770f82f1e660a45", func := "angelus/angeluslaw27.NetTwice", spec := "netTwice", unfollowed := true, recurses := true, named := ["math/bits.divideError", "math/bits.overflowError", "math/bits.deBruijn64tab"], apart := false, laid := [("math/bits.deBruijn64tab", laid_math_bits_deBruijn64tab)], narrowed := true }
def NetTwiceUptoSaid : Prop := netTwiceUptoRow.holds Tryz.pinned (OpenSpec.upto netTwiceSpec)

/-- 'angeluslaw27.NetHeard', WHERE WHAT IT READS IS OF BULK AT MOST 1048576: true; the input reads as it did. -/
def netHeardUptoRow : OpenClaim := { program := "yticgocmhmffneaagreatdoor", sum := "eec61f2ada033f5fad6e44780dee187298c3f6aee56b01bca770f82f1e660a45", func := "angelus/angeluslaw27.NetHeard", spec := "netHeard", unfollowed := true, recurses := true, named := ["math/bits.divideError", "math/bits.overflowError", "math/bits.deBruijn64tab"], apart := false, laid := [("math/bits.deBruijn64tab", laid_math_bits_deBruijn64tab)], narrowed := true }
def NetHeardUptoSaid : Prop := netHeardUptoRow.holds Tryz.pinned (OpenSpec.upto netHeardSpec)

/-- 'angeluslaw27.NetKeeps', WHERE WHAT IT READS IS OF BULK AT MOST 1048576: true; the input reads as it did. -/
def netKeepsUptoRow : OpenClaim := { program := "yticgocmhmffneaagreatdoor", sum := "eec61f2ada033f5fad6e44780dee187298c3f6aee56b01bca770f82f1e660a45", func := "angelus/angeluslaw27.NetKeeps", spec := "netKeeps", unfollowed := true, recurses := true, named := ["math/bits.divideError", "math/bits.overflowError", "math/bits.deBruijn64tab"], apart := false, laid := [("math/bits.deBruijn64tab", laid_math_bits_deBruijn64tab)], narrowed := true }
def NetKeepsUptoSaid : Prop := netKeepsUptoRow.holds Tryz.pinned (OpenSpec.upto netKeepsSpec)

/-- 'angeluslaw27.NetNil', WHERE WHAT IT READS IS OF BULK AT MOST 1048576: true; the input reads as it did. -/
def netNilUptoRow : OpenClaim := { program := "yticgocmhmffneaagreatdoor", sum := "eec61f2ada033f5fad6e44780dee187298c3f6aee56b01bca770f82f1e660a45", func := "angelus/angeluslaw27.NetNil", spec := "netNil", unfollowed := true, recurses := true, named := ["math/bits.divideError", "math/bits.overflowError", "math/bits.deBruijn64tab"], apart := false, laid := [("math/bits.deBruijn64tab", laid_math_bits_deBruijn64tab)], narrowed := true }
def NetNilUptoSaid : Prop := netNilUptoRow.holds Tryz.pinned (OpenSpec.upto netNilSpec)

/-- 'angeluslaw27.NetDoes', WHERE WHAT IT READS IS OF BULK AT MOST 1048576: true; the input reads as it did. -/
def netDoesUptoRow : OpenClaim := { program := "yticgocmhmffneaagreatdoor", sum := "eec61f2ada033f5fad6e44780dee187298c3f6aee56b01bca770f82f1e660a45", func := "angelus/angeluslaw27.NetDoes", spec := "netDoes", unfollowed := true, recurses := true, named := ["math/bits.divideError", "math/bits.overflowError", "math/bits.deBruijn64tab"], apart := false, laid := [("math/bits.deBruijn64tab", laid_math_bits_deBruijn64tab)], narrowed := true }
def NetDoesUptoSaid : Prop := netDoesUptoRow.holds Tryz.pinned (OpenSpec.upto netDoesSpec)

/-- 'angelustop.CoreUtc', WHERE WHAT IT READS IS OF BULK AT MOST 1048576: true; the input reads as it did. -/
def coreUtcUptoRow : OpenClaim := { program := "yticgocmhmffneaagreatdoor", sum := "eec61f2ada033f5fad6e44780dee187298c3f6aee56b01bca770f82f1e660a45", func := "angelus/angelustop.CoreUtc", spec := "coreUtc", unfollowed := true, recurses := true, named := ["math/bits.divideError", "math/bits.overflowError", "math/bits.deBruijn64tab"], apart := false, laid := [("math/bits.deBruijn64tab", laid_math_bits_deBruijn64tab)], narrowed := true }
def CoreUtcUptoSaid : Prop := coreUtcUptoRow.holds Tryz.pinned (OpenSpec.upto coreUtcSpec)

end Rows
end Go.Proofs.YticgocmhmffneaaGreatDoor
