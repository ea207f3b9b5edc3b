/-
  DERIVED. GIVEN WITH THE SEED: THE CARDS: each row of YtlhpnccdfgjifaaGreatDoorRows.lean that lists a variable, with what it lists TIED to the program's text (the seventh form; the later family's looks); each row that meets fmt, with fmt's text TOLD by the authors' own Lean function (tested against real Go, not proved from fmt's source: count such statements apart). THE CARD IS WHAT COUNTS. Prove the row's statement (the work); the ties are given (YtlhpnccdfgjifaaGreatDoorTie.lean); close each card by the builder's one call (the guide's Derived/Test/ToyasCard.lean, 'card_holds'). Laid BY PROGRAM, IN A SANDBOX (cutbox-door.mjs). By AI agents, Wed Nov 11 2026. No macro, syntax, notation, axiom, sorry.
-/
import Derived.Test.YtlhpnccdfgjifaaGreatDoorRows
import GoSem.ClaimSeven
namespace Go.Proofs.YtlhpnccdfgjifaaGreatDoor
namespace Rows

/-- THE TIED CARD OF 'tabardlaw22.FileQuotes'. -/
def fileQuotesCard : Claim7 := { stood := { row := fileQuotesRow, standIns := [], harness := (true, "ab213fc03f519edb5098ecf1c95890755887c98ed58edcf4826ecf7ae3fa6166"), looks := true }, kinds := [], alts := [], laidByText := true, laidKinds := [.data, .data, .data, .data, .sentinel, .sentinel, .data, .data, .data, .pinned, .pinned], laidTests := true, laidLooks := .later }
def FileQuotesCardSaid : Prop := Claim7.holds Tryz.pinned (.plain (OpenSpec.ofChange fileQuotesSpec)) fileQuotesCard

/-- THE SECOND FORM's CARD OF 'tabardlaw22.FileQuotes'. -/
def fileQuotesUptoCard : Claim7 := { stood := { row := fileQuotesUptoRow, standIns := [], harness := (true, "ab213fc03f519edb5098ecf1c95890755887c98ed58edcf4826ecf7ae3fa6166"), looks := true }, kinds := [], alts := [], laidByText := true, laidKinds := [.data, .data, .data, .data, .sentinel, .sentinel, .data, .data, .data, .pinned, .pinned], laidTests := true, laidLooks := .later }
def FileQuotesUptoCardSaid : Prop := Claim7.holds Tryz.pinned (.plain (OpenSpec.upto fileQuotesSpec)) fileQuotesUptoCard
end Rows
end Go.Proofs.YtlhpnccdfgjifaaGreatDoor
