/-
  DERIVED. GIVEN WITH THE SEED: THE CARDS: each row of YthhcdmmihjhipaaGreatDoorRows.lean that lists a variable, with what it lists TIED to the program's text (the seventh form; the later family's looks); each row that meets fmt, with fmt's text TOLD by the authors' own Lean function (tested against real Go, not proved from fmt's source: count such statements apart). THE CARD IS WHAT COUNTS. Prove the row's statement (the work); the ties are given (YthhcdmmihjhipaaGreatDoorTie.lean); close each card by the builder's one call (the guide's Derived/Test/ToyasCard.lean, 'card_holds'). Laid BY PROGRAM, IN A SANDBOX (cutbox-door.mjs). By AI agents, Wed Nov 11 2026. No macro, syntax, notation, axiom, sorry.
-/
import Derived.Test.YthhcdmmihjhipaaGreatDoorRows
import GoSem.ClaimSeven
namespace Go.Proofs.YthhcdmmihjhipaaGreatDoor
namespace Rows

/-- THE TIED CARD OF 'tabardlaw19.EvalNeeds'. -/
def evalNeedsCard : Claim7 := { stood := { row := evalNeedsRow, standIns := [], harness := (true, "4c7bb278da007780f821faab8259d86923a487d1dd9facaafb1ace535a410064"), looks := true }, kinds := [], alts := [], laidByText := true, laidKinds := [.data, .data, .sentinel, .sentinel, .data, .data, .data, .pinned, .data, .data], laidTests := true, laidLooks := .later }
def EvalNeedsCardSaid : Prop := Claim7.holds Tryz.pinned (.plain (OpenSpec.ofChange evalNeedsSpec)) evalNeedsCard

/-- THE SECOND FORM's CARD OF 'tabardlaw19.EvalNeeds'. -/
def evalNeedsUptoCard : Claim7 := { stood := { row := evalNeedsUptoRow, standIns := [], harness := (true, "4c7bb278da007780f821faab8259d86923a487d1dd9facaafb1ace535a410064"), looks := true }, kinds := [], alts := [], laidByText := true, laidKinds := [.data, .data, .sentinel, .sentinel, .data, .data, .data, .pinned, .data, .data], laidTests := true, laidLooks := .later }
def EvalNeedsUptoCardSaid : Prop := Claim7.holds Tryz.pinned (.plain (OpenSpec.upto evalNeedsSpec)) evalNeedsUptoCard
end Rows
end Go.Proofs.YthhcdmmihjhipaaGreatDoor
