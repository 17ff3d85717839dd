/-
  DERIVED. GIVEN WITH THE SEED: THE CARDS: each row of YticgocmhmffneaaGreatDoorRows.lean that lists a variable, with what it lists TIED to the program's text (the seventh form; the later family's looks); each row that meets fmt, with fmt's text TOLD by the authors' own Lean function (tested against real Go, not proved from fmt's source: count such statements apart). THE CARD IS WHAT COUNTS. Prove the row's statement (the work); the ties are given (YticgocmhmffneaaGreatDoorTie.lean); close each card by the builder's one call (the guide's Derived/Test/ToyasCard.lean, 'card_holds'). Laid BY PROGRAM, IN A SANDBOX (cutbox-door.mjs). By AI agents, Wed Nov 11 2026. No macro, syntax, notation, axiom, sorry.
-/
import Derived.Test.YticgocmhmffneaaGreatDoorRows
import GoSem.ClaimSeven
namespace Go.Proofs.YticgocmhmffneaaGreatDoor
namespace Rows

/-- THE TIED CARD OF 'angelustop.CoreRises'. -/
def coreRisesCard : Claim7 := { stood := { row := coreRisesRow, standIns := [], harness := (true, "e76bbcf0e0abc421b0f9b582a4c3210a395a7d39ff817130e5f2bdcff26bd25b"), looks := true }, kinds := [], alts := [], laidByText := true, laidKinds := [.data], laidTests := true, laidLooks := .later }
def CoreRisesCardSaid : Prop := Claim7.holds Tryz.pinned (.plain (OpenSpec.ofChange coreRisesSpec)) coreRisesCard

/-- THE TIED CARD OF 'angelustop.CoreIssued'. -/
def coreIssuedCard : Claim7 := { stood := { row := coreIssuedRow, standIns := [], harness := (true, "e76bbcf0e0abc421b0f9b582a4c3210a395a7d39ff817130e5f2bdcff26bd25b"), looks := true }, kinds := [], alts := [], laidByText := true, laidKinds := [.data], laidTests := true, laidLooks := .later }
def CoreIssuedCardSaid : Prop := Claim7.holds Tryz.pinned (.plain (OpenSpec.ofChange coreIssuedSpec)) coreIssuedCard

/-- THE TIED CARD OF 'angelustop.CoreOnce'. -/
def coreOnceCard : Claim7 := { stood := { row := coreOnceRow, standIns := [], harness := (true, "e76bbcf0e0abc421b0f9b582a4c3210a395a7d39ff817130e5f2bdcff26bd25b"), looks := true }, kinds := [], alts := [], laidByText := true, laidKinds := [.data], laidTests := true, laidLooks := .later }
def CoreOnceCardSaid : Prop := Claim7.holds Tryz.pinned (.plain (OpenSpec.ofChange coreOnceSpec)) coreOnceCard

/-- THE TIED CARD OF 'angeluslaw27.NetIdle'. -/
def netIdleCard : Claim7 := { stood := { row := netIdleRow, standIns := [], harness := (true, "e76bbcf0e0abc421b0f9b582a4c3210a395a7d39ff817130e5f2bdcff26bd25b"), looks := true }, kinds := [], alts := [], laidByText := true, laidKinds := [.data], laidTests := true, laidLooks := .later }
def NetIdleCardSaid : Prop := Claim7.holds Tryz.pinned (.plain (OpenSpec.ofChange netIdleSpec)) netIdleCard

/-- THE TIED CARD OF 'angeluslaw27.NetApart'. -/
def netApartCard : Claim7 := { stood := { row := netApartRow, standIns := [], harness := (true, "e76bbcf0e0abc421b0f9b582a4c3210a395a7d39ff817130e5f2bdcff26bd25b"), looks := true }, kinds := [], alts := [], laidByText := true, laidKinds := [.data], laidTests := true, laidLooks := .later }
def NetApartCardSaid : Prop := Claim7.holds Tryz.pinned (.plain (OpenSpec.ofChange netApartSpec)) netApartCard

/-- THE TIED CARD OF 'angeluslaw27.NetTwice'. -/
def netTwiceCard : Claim7 := { stood := { row := netTwiceRow, standIns := [], harness := (true, "e76bbcf0e0abc421b0f9b582a4c3210a395a7d39ff817130e5f2bdcff26bd25b"), looks := true }, kinds := [], alts := [], laidByText := true, laidKinds := [.data], laidTests := true, laidLooks := .later }
def NetTwiceCardSaid : Prop := Claim7.holds Tryz.pinned (.plain (OpenSpec.ofChange netTwiceSpec)) netTwiceCard

/-- THE TIED CARD OF 'angeluslaw27.NetHeard'. -/
def netHeardCard : Claim7 := { stood := { row := netHeardRow, standIns := [], harness := (true, "e76bbcf0e0abc421b0f9b582a4c3210a395a7d39ff817130e5f2bdcff26bd25b"), looks := true }, kinds := [], alts := [], laidByText := true, laidKinds := [.data], laidTests := true, laidLooks := .later }
def NetHeardCardSaid : Prop := Claim7.holds Tryz.pinned (.plain (OpenSpec.ofChange netHeardSpec)) netHeardCard

/-- THE TIED CARD OF 'angeluslaw27.NetKeeps'. -/
def netKeepsCard : Claim7 := { stood := { row := netKeepsRow, standIns := [], harness := (true, "e76bbcf0e0abc421b0f9b582a4c3210a395a7d39ff817130e5f2bdcff26bd25b"), looks := true }, kinds := [], alts := [], laidByText := true, laidKinds := [.data], laidTests := true, laidLooks := .later }
def NetKeepsCardSaid : Prop := Claim7.holds Tryz.pinned (.plain (OpenSpec.ofChange netKeepsSpec)) netKeepsCard

/-- THE TIED CARD OF 'angeluslaw27.NetNil'. -/
def netNilCard : Claim7 := { stood := { row := netNilRow, standIns := [], harness := (true, "e76bbcf0e0abc421b0f9b582a4c3210a395a7d39ff817130e5f2bdcff26bd25b"), looks := true }, kinds := [], alts := [], laidByText := true, laidKinds := [.data], laidTests := true, laidLooks := .later }
def NetNilCardSaid : Prop := Claim7.holds Tryz.pinned (.plain (OpenSpec.ofChange netNilSpec)) netNilCard

/-- THE TIED CARD OF 'angeluslaw27.NetDoes'. -/
def netDoesCard : Claim7 := { stood := { row := netDoesRow, standIns := [], harness := (true, "e76bbcf0e0abc421b0f9b582a4c3210a395a7d39ff817130e5f2bdcff26bd25b"), looks := true }, kinds := [], alts := [], laidByText := true, laidKinds := [.data], laidTests := true, laidLooks := .later }
def NetDoesCardSaid : Prop := Claim7.holds Tryz.pinned (.plain (OpenSpec.ofChange netDoesSpec)) netDoesCard

/-- THE TIED CARD OF 'angelustop.CoreUtc'. -/
def coreUtcCard : Claim7 := { stood := { row := coreUtcRow, standIns := [], harness := (true, "e76bbcf0e0abc421b0f9b582a4c3210a395a7d39ff817130e5f2bdcff26bd25b"), looks := true }, kinds := [], alts := [], laidByText := true, laidKinds := [.data], laidTests := true, laidLooks := .later }
def CoreUtcCardSaid : Prop := Claim7.holds Tryz.pinned (.plain (OpenSpec.ofChange coreUtcSpec)) coreUtcCard

/-- THE SECOND FORM's CARD OF 'angelustop.CoreRises'. -/
def coreRisesUptoCard : Claim7 := { stood := { row := coreRisesUptoRow, standIns := [], harness := (true, "e76bbcf0e0abc421b0f9b582a4c3210a395a7d39ff817130e5f2bdcff26bd25b"), looks := true }, kinds := [], alts := [], laidByText := true, laidKinds := [.data], laidTests := true, laidLooks := .later }
def CoreRisesUptoCardSaid : Prop := Claim7.holds Tryz.pinned (.plain (OpenSpec.upto coreRisesSpec)) coreRisesUptoCard

/-- THE SECOND FORM's CARD OF 'angelustop.CoreIssued'. -/
def coreIssuedUptoCard : Claim7 := { stood := { row := coreIssuedUptoRow, standIns := [], harness := (true, "e76bbcf0e0abc421b0f9b582a4c3210a395a7d39ff817130e5f2bdcff26bd25b"), looks := true }, kinds := [], alts := [], laidByText := true, laidKinds := [.data], laidTests := true, laidLooks := .later }
def CoreIssuedUptoCardSaid : Prop := Claim7.holds Tryz.pinned (.plain (OpenSpec.upto coreIssuedSpec)) coreIssuedUptoCard

/-- THE SECOND FORM's CARD OF 'angelustop.CoreOnce'. -/
def coreOnceUptoCard : Claim7 := { stood := { row := coreOnceUptoRow, standIns := [], harness := (true, "e76bbcf0e0abc421b0f9b582a4c3210a395a7d39ff817130e5f2bdcff26bd25b"), looks := true }, kinds := [], alts := [], laidByText := true, laidKinds := [.data], laidTests := true, laidLooks := .later }
def CoreOnceUptoCardSaid : Prop := Claim7.holds Tryz.pinned (.plain (OpenSpec.upto coreOnceSpec)) coreOnceUptoCard

/-- THE SECOND FORM's CARD OF 'angeluslaw27.NetIdle'. -/
def netIdleUptoCard : Claim7 := { stood := { row := netIdleUptoRow, standIns := [], harness := (true, "e76bbcf0e0abc421b0f9b582a4c3210a395a7d39ff817130e5f2bdcff26bd25b"), looks := true }, kinds := [], alts := [], laidByText := true, laidKinds := [.data], laidTests := true, laidLooks := .later }
def NetIdleUptoCardSaid : Prop := Claim7.holds Tryz.pinned (.plain (OpenSpec.upto netIdleSpec)) netIdleUptoCard

/-- THE SECOND FORM's CARD OF 'angeluslaw27.NetApart'. -/
def netApartUptoCard : Claim7 := { stood := { row := netApartUptoRow, standIns := [], harness := (true, "e76bbcf0e0abc421b0f9b582a4c3210a395a7d39ff817130e5f2bdcff26bd25b"), looks := true }, kinds := [], alts := [], laidByText := true, laidKinds := [.data], laidTests := true, laidLooks := .later }
def NetApartUptoCardSaid : Prop := Claim7.holds Tryz.pinned (.plain (OpenSpec.upto netApartSpec)) netApartUptoCard

/-- THE SECOND FORM's CARD OF 'angeluslaw27.NetTwice'. -/
def netTwiceUptoCard : Claim7 := { stood := { row := netTwiceUptoRow, standIns := [], harness := (true, "e76bbcf0e0abc421b0f9b582a4c3210a395a7d39ff817130e5f2bdcff26bd25b"), looks := true }, kinds := [], alts := [], laidByText := true, laidKinds := [.data], laidTests := true, laidLooks := .later }
def NetTwiceUptoCardSaid : Prop := Claim7.holds Tryz.pinned (.plain (OpenSpec.upto netTwiceSpec)) netTwiceUptoCard

/-- THE SECOND FORM's CARD OF 'angeluslaw27.NetHeard'. -/
def netHeardUptoCard : Claim7 := { stood := { row := netHeardUptoRow, standIns := [], harness := (true, "e76bbcf0e0abc421b0f9b582a4c3210a395a7d39ff817130e5f2bdcff26bd25b"), looks := true }, kinds := [], alts := [], laidByText := true, laidKinds := [.data], laidTests := true, laidLooks := .later }
def NetHeardUptoCardSaid : Prop := Claim7.holds Tryz.pinned (.plain (OpenSpec.upto netHeardSpec)) netHeardUptoCard

/-- THE SECOND FORM's CARD OF 'angeluslaw27.NetKeeps'. -/
def netKeepsUptoCard : Claim7 := { stood := { row := netKeepsUptoRow, standIns := [], harness := (true, "e76bbcf0e0abc421b0f9b582a4c3210a395a7d39ff817130e5f2bdcff26bd25b"), looks := true }, kinds := [], alts := [], laidByText := true, laidKinds := [.data], laidTests := true, laidLooks := .later }
def NetKeepsUptoCardSaid : Prop := Claim7.holds Tryz.pinned (.plain (OpenSpec.upto netKeepsSpec)) netKeepsUptoCard

/-- THE SECOND FORM's CARD OF 'angeluslaw27.NetNil'. -/
def netNilUptoCard : Claim7 := { stood := { row := netNilUptoRow, standIns := [], harness := (true, "e76bbcf0e0abc421b0f9b582a4c3210a395a7d39ff817130e5f2bdcff26bd25b"), looks := true }, kinds := [], alts := [], laidByText := true, laidKinds := [.data], laidTests := true, laidLooks := .later }
def NetNilUptoCardSaid : Prop := Claim7.holds Tryz.pinned (.plain (OpenSpec.upto netNilSpec)) netNilUptoCard

/-- THE SECOND FORM's CARD OF 'angeluslaw27.NetDoes'. -/
def netDoesUptoCard : Claim7 := { stood := { row := netDoesUptoRow, standIns := [], harness := (true, "e76bbcf0e0abc421b0f9b582a4c3210a395a7d39ff817130e5f2bdcff26bd25b"), looks := true }, kinds := [], alts := [], laidByText := true, laidKinds := [.data], laidTests := true, laidLooks := .later }
def NetDoesUptoCardSaid : Prop := Claim7.holds Tryz.pinned (.plain (OpenSpec.upto netDoesSpec)) netDoesUptoCard

/-- THE SECOND FORM's CARD OF 'angelustop.CoreUtc'. -/
def coreUtcUptoCard : Claim7 := { stood := { row := coreUtcUptoRow, standIns := [], harness := (true, "e76bbcf0e0abc421b0f9b582a4c3210a395a7d39ff817130e5f2bdcff26bd25b"), looks := true }, kinds := [], alts := [], laidByText := true, laidKinds := [.data], laidTests := true, laidLooks := .later }
def CoreUtcUptoCardSaid : Prop := Claim7.holds Tryz.pinned (.plain (OpenSpec.upto coreUtcSpec)) coreUtcUptoCard
end Rows
end Go.Proofs.YticgocmhmffneaaGreatDoor
