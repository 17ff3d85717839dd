/-
  DERIVED. GIVEN WITH THE SEED: THE CARDS: each row of YtppeepkmnijdpaaGreatDoorRows.lean that lists a variable, with what it lists TIED to the program's text (the seventh form; the later family's looks); each row that meets fmt, with fmt's text TOLD by the authors' own Lean function (tested against real Go, not proved from fmt's source: count such statements apart). THE CARD IS WHAT COUNTS. Prove the row's statement (the work); the ties are given (YtppeepkmnijdpaaGreatDoorTie.lean); close each card by the builder's one call (the guide's Derived/Test/ToyasCard.lean, 'card_holds'). Laid BY PROGRAM, IN A SANDBOX (cutbox-door.mjs). By AI agents, Wed Nov 11 2026. No macro, syntax, notation, axiom, sorry.
-/
import Derived.Test.YtppeepkmnijdpaaGreatDoorRows
import GoSem.ClaimSeven
namespace Go.Proofs.YtppeepkmnijdpaaGreatDoor
namespace Rows

/-- THE TIED CARD OF 'angelustop.CoreLeaps'. -/
def coreLeapsCard : Claim7 := { stood := { row := coreLeapsRow, standIns := [], harness := (true, "03133262e2074ed831112a4d9beade972f400db329989f62699cd12a793ef6f6"), looks := true }, kinds := [], alts := [], laidByText := true, laidKinds := [.data, .data, .data, .data, .sentinel, .sentinel, .pinned], laidTests := true, laidLooks := .later }
def CoreLeapsCardSaid : Prop := Claim7.holds Tryz.pinned (.plain (OpenSpec.ofChange coreLeapsSpec)) coreLeapsCard

/-- THE SECOND FORM's CARD OF 'angelustop.CoreLeaps'. -/
def coreLeapsUptoCard : Claim7 := { stood := { row := coreLeapsUptoRow, standIns := [], harness := (true, "03133262e2074ed831112a4d9beade972f400db329989f62699cd12a793ef6f6"), looks := true }, kinds := [], alts := [], laidByText := true, laidKinds := [.data, .data, .data, .data, .sentinel, .sentinel, .pinned], laidTests := true, laidLooks := .later }
def CoreLeapsUptoCardSaid : Prop := Claim7.holds Tryz.pinned (.plain (OpenSpec.upto coreLeapsSpec)) coreLeapsUptoCard
end Rows
end Go.Proofs.YtppeepkmnijdpaaGreatDoor
