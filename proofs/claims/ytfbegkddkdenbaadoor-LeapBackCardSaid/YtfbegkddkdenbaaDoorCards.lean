/-
  DERIVED. GIVEN WITH THE SEED: THE CARDS: each row of YtfbegkddkdenbaaDoorRows.lean that lists a variable, with what it lists TIED to the program's text (the seventh form; the later family's looks); each row that meets fmt, with fmt's text TOLD by the authors' own Lean function (tested against real Go, not proved from fmt's source: count such statements apart). THE CARD IS WHAT COUNTS. Prove the row's statement (the work); the ties are given (YtfbegkddkdenbaaDoorTie.lean); close each card by the builder's one call (the guide's Derived/Test/ToyasCard.lean, 'card_holds'). Laid BY PROGRAM, IN A SANDBOX (cutbox-door.mjs). By AI agents, Wed Nov 11 2026. No macro, syntax, notation, axiom, sorry.
-/
import Derived.Test.YtfbegkddkdenbaaDoorRows
import GoSem.ClaimSeven
namespace Go.Proofs.YtfbegkddkdenbaaDoor
namespace Rows

/-- THE TIED CARD OF 'angeluslaw21.LeapSteps'. -/
def leapStepsCard : Claim7 := { stood := { row := leapStepsRow, standIns := [], harness := (true, "a68ef177736f69e96d83f4001fb0c804d6d41f560617b7f3ab5ddd2c91cd97f2"), looks := true }, kinds := [], alts := [], laidByText := true, laidKinds := [.data, .data, .data, .data, .sentinel, .sentinel, .pinned], laidTests := true, laidLooks := .later }
def LeapStepsCardSaid : Prop := Claim7.holds Tryd.pinned (.plain (OpenSpec.ofChange leapStepsSpec)) leapStepsCard

/-- THE TIED CARD OF 'angeluslaw21.LeapReads'. -/
def leapReadsCard : Claim7 := { stood := { row := leapReadsRow, standIns := [], harness := (true, "a68ef177736f69e96d83f4001fb0c804d6d41f560617b7f3ab5ddd2c91cd97f2"), looks := true }, kinds := [], alts := [], laidByText := true, laidKinds := [.data, .data, .data, .data, .sentinel, .sentinel, .pinned], laidTests := true, laidLooks := .later }
def LeapReadsCardSaid : Prop := Claim7.holds Tryd.pinned (.plain (OpenSpec.ofChange leapReadsSpec)) leapReadsCard

/-- THE TIED CARD OF 'angeluslaw21.LeapCuts'. -/
def leapCutsCard : Claim7 := { stood := { row := leapCutsRow, standIns := [], harness := (true, "a68ef177736f69e96d83f4001fb0c804d6d41f560617b7f3ab5ddd2c91cd97f2"), looks := true }, kinds := [], alts := [], laidByText := true, laidKinds := [.data, .data, .data, .data, .sentinel, .sentinel, .pinned], laidTests := true, laidLooks := .later }
def LeapCutsCardSaid : Prop := Claim7.holds Tryd.pinned (.plain (OpenSpec.ofChange leapCutsSpec)) leapCutsCard

/-- THE TIED CARD OF 'angeluslaw21.LeapBack'. -/
def leapBackCard : Claim7 := { stood := { row := leapBackRow, standIns := [], harness := (true, "a68ef177736f69e96d83f4001fb0c804d6d41f560617b7f3ab5ddd2c91cd97f2"), looks := true }, kinds := [], alts := [], laidByText := true, laidKinds := [.data, .data, .data, .data, .sentinel, .sentinel, .pinned], laidTests := true, laidLooks := .later }
def LeapBackCardSaid : Prop := Claim7.holds Tryd.pinned (.plain (OpenSpec.ofChange leapBackSpec)) leapBackCard

/-- THE SECOND FORM's CARD OF 'angeluslaw21.LeapSteps'. -/
def leapStepsUptoCard : Claim7 := { stood := { row := leapStepsUptoRow, standIns := [], harness := (true, "a68ef177736f69e96d83f4001fb0c804d6d41f560617b7f3ab5ddd2c91cd97f2"), looks := true }, kinds := [], alts := [], laidByText := true, laidKinds := [.data, .data, .data, .data, .sentinel, .sentinel, .pinned], laidTests := true, laidLooks := .later }
def LeapStepsUptoCardSaid : Prop := Claim7.holds Tryd.pinned (.plain (OpenSpec.upto leapStepsSpec)) leapStepsUptoCard

/-- THE SECOND FORM's CARD OF 'angeluslaw21.LeapReads'. -/
def leapReadsUptoCard : Claim7 := { stood := { row := leapReadsUptoRow, standIns := [], harness := (true, "a68ef177736f69e96d83f4001fb0c804d6d41f560617b7f3ab5ddd2c91cd97f2"), looks := true }, kinds := [], alts := [], laidByText := true, laidKinds := [.data, .data, .data, .data, .sentinel, .sentinel, .pinned], laidTests := true, laidLooks := .later }
def LeapReadsUptoCardSaid : Prop := Claim7.holds Tryd.pinned (.plain (OpenSpec.upto leapReadsSpec)) leapReadsUptoCard

/-- THE SECOND FORM's CARD OF 'angeluslaw21.LeapCuts'. -/
def leapCutsUptoCard : Claim7 := { stood := { row := leapCutsUptoRow, standIns := [], harness := (true, "a68ef177736f69e96d83f4001fb0c804d6d41f560617b7f3ab5ddd2c91cd97f2"), looks := true }, kinds := [], alts := [], laidByText := true, laidKinds := [.data, .data, .data, .data, .sentinel, .sentinel, .pinned], laidTests := true, laidLooks := .later }
def LeapCutsUptoCardSaid : Prop := Claim7.holds Tryd.pinned (.plain (OpenSpec.upto leapCutsSpec)) leapCutsUptoCard

/-- THE SECOND FORM's CARD OF 'angeluslaw21.LeapBack'. -/
def leapBackUptoCard : Claim7 := { stood := { row := leapBackUptoRow, standIns := [], harness := (true, "a68ef177736f69e96d83f4001fb0c804d6d41f560617b7f3ab5ddd2c91cd97f2"), looks := true }, kinds := [], alts := [], laidByText := true, laidKinds := [.data, .data, .data, .data, .sentinel, .sentinel, .pinned], laidTests := true, laidLooks := .later }
def LeapBackUptoCardSaid : Prop := Claim7.holds Tryd.pinned (.plain (OpenSpec.upto leapBackSpec)) leapBackUptoCard
end Rows
end Go.Proofs.YtfbegkddkdenbaaDoor
