/-
  DERIVED. GIVEN WITH THE SEED: THE CARDS: each row of YtfbegkddkdenbaaGreatDoorRows.lean that lists a variable, with what it lists TIED to the program's text (the seventh form; the later family's looks); each row that meets fmt, with fmt's text TOLD by the authors' own Lean function (tested against real Go, not proved from fmt's source: count such statements apart). THE CARD IS WHAT COUNTS. Prove the row's statement (the work); the ties are given (YtfbegkddkdenbaaGreatDoorTie.lean); close each card by the builder's one call (the guide's Derived/Test/ToyasCard.lean, 'card_holds'). Laid BY PROGRAM, IN A SANDBOX (cutbox-door.mjs). By AI agents, Wed Nov 11 2026. No macro, syntax, notation, axiom, sorry.
-/
import Derived.Test.YtfbegkddkdenbaaGreatDoorRows
import GoSem.ClaimSeven
namespace Go.Proofs.YtfbegkddkdenbaaGreatDoor
namespace Rows

/-- THE TIED CARD OF 'angeluslaw21.LeapMakes'. -/
def leapMakesCard : Claim7 := { stood := { row := leapMakesRow, standIns := [], harness := (true, "124b784c50fdf732b03b80007096f2d1c30c200810585d6b4c704119aa126a07"), looks := true }, kinds := [], alts := [], laidByText := true, laidKinds := [.data, .data, .data, .data, .sentinel, .sentinel, .pinned], laidTests := true, laidLooks := .later }
def LeapMakesCardSaid : Prop := Claim7.holds Tryz.pinned (.plain (OpenSpec.ofChange leapMakesSpec)) leapMakesCard

/-- THE SECOND FORM's CARD OF 'angeluslaw21.LeapMakes'. -/
def leapMakesUptoCard : Claim7 := { stood := { row := leapMakesUptoRow, standIns := [], harness := (true, "124b784c50fdf732b03b80007096f2d1c30c200810585d6b4c704119aa126a07"), looks := true }, kinds := [], alts := [], laidByText := true, laidKinds := [.data, .data, .data, .data, .sentinel, .sentinel, .pinned], laidTests := true, laidLooks := .later }
def LeapMakesUptoCardSaid : Prop := Claim7.holds Tryz.pinned (.plain (OpenSpec.upto leapMakesSpec)) leapMakesUptoCard
end Rows
end Go.Proofs.YtfbegkddkdenbaaGreatDoor
