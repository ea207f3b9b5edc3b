/-
  DERIVED. GIVEN WITH THE SEED: THE CARDS: each row of YtifoddpbmlajfaaGreatDoorRows.lean that lists a variable, with what it lists TIED to the program's text (the seventh form; the later family's looks); each row that meets fmt, with fmt's text TOLD by the authors' own Lean function (tested against real Go, not proved from fmt's source: count such statements apart). THE CARD IS WHAT COUNTS. Prove the row's statement (the work); the ties are given (YtifoddpbmlajfaaGreatDoorTie.lean); close each card by the builder's one call (the guide's Derived/Test/ToyasCard.lean, 'card_holds'). Laid BY PROGRAM, IN A SANDBOX (cutbox-door.mjs). By AI agents, Wed Nov 11 2026. No macro, syntax, notation, axiom, sorry.
-/
import Derived.Test.YtifoddpbmlajfaaGreatDoorRows
import GoSem.ClaimSeven
namespace Go.Proofs.YtifoddpbmlajfaaGreatDoor
namespace Rows

/-- THE TIED CARD OF 'tabardlaw18.FuncsChoice'. -/
def funcsChoiceCard : Claim7 := { stood := { row := funcsChoiceRow, standIns := [], harness := (true, "2e439e6d42ee5c2567b933df5c8e958ca161026b9b8deee592f5b80075035014"), looks := true }, kinds := [], alts := [], laidByText := true, laidKinds := [.data, .data, .data, .data, .sentinel, .sentinel, .data, .data, .data, .pinned], laidTests := true, laidLooks := .later }
def FuncsChoiceCardSaid : Prop := Claim7.holds Tryz.pinned (.plain (OpenSpec.ofChange funcsChoiceSpec)) funcsChoiceCard

/-- THE TIED CARD OF 'tabardlaw18.FuncsRight'. -/
def funcsRightCard : Claim7 := { stood := { row := funcsRightRow, standIns := [], harness := (true, "2e439e6d42ee5c2567b933df5c8e958ca161026b9b8deee592f5b80075035014"), looks := true }, kinds := [], alts := [], laidByText := true, laidKinds := [.data, .data, .data, .data, .sentinel, .sentinel, .data, .data, .data, .pinned], laidTests := true, laidLooks := .later }
def FuncsRightCardSaid : Prop := Claim7.holds Tryz.pinned (.plain (OpenSpec.ofChange funcsRightSpec)) funcsRightCard

/-- THE SECOND FORM's CARD OF 'tabardlaw18.FuncsChoice'. -/
def funcsChoiceUptoCard : Claim7 := { stood := { row := funcsChoiceUptoRow, standIns := [], harness := (true, "2e439e6d42ee5c2567b933df5c8e958ca161026b9b8deee592f5b80075035014"), looks := true }, kinds := [], alts := [], laidByText := true, laidKinds := [.data, .data, .data, .data, .sentinel, .sentinel, .data, .data, .data, .pinned], laidTests := true, laidLooks := .later }
def FuncsChoiceUptoCardSaid : Prop := Claim7.holds Tryz.pinned (.plain (OpenSpec.upto funcsChoiceSpec)) funcsChoiceUptoCard

/-- THE SECOND FORM's CARD OF 'tabardlaw18.FuncsRight'. -/
def funcsRightUptoCard : Claim7 := { stood := { row := funcsRightUptoRow, standIns := [], harness := (true, "2e439e6d42ee5c2567b933df5c8e958ca161026b9b8deee592f5b80075035014"), looks := true }, kinds := [], alts := [], laidByText := true, laidKinds := [.data, .data, .data, .data, .sentinel, .sentinel, .data, .data, .data, .pinned], laidTests := true, laidLooks := .later }
def FuncsRightUptoCardSaid : Prop := Claim7.holds Tryz.pinned (.plain (OpenSpec.upto funcsRightSpec)) funcsRightUptoCard
end Rows
end Go.Proofs.YtifoddpbmlajfaaGreatDoor
