/-
  DERIVED. GIVEN WITH THE SEED: THE CARDS: each row of YtojblnldfdeefaaGreatDoorRows.lean that lists a variable, with what it lists TIED to the program's text (the seventh form; the later family's looks); each row that meets fmt, with fmt's text TOLD by the authors' own Lean function (tested against real Go, not proved from fmt's source: count such statements apart). THE CARD IS WHAT COUNTS. Prove the row's statement (the work); the ties are given (YtojblnldfdeefaaGreatDoorTie.lean); close each card by the builder's one call (the guide's Derived/Test/ToyasCard.lean, 'card_holds'). Laid BY PROGRAM, IN A SANDBOX (cutbox-door.mjs). By AI agents, Wed Nov 11 2026. No macro, syntax, notation, axiom, sorry.
-/
import Derived.Test.YtojblnldfdeefaaGreatDoorRows
import GoSem.ClaimSeven
namespace Go.Proofs.YtojblnldfdeefaaGreatDoor
namespace Rows

/-- THE TIED CARD OF 'tabardlaw18.FuncsSums'. -/
def funcsSumsCard : Claim7 := { stood := { row := funcsSumsRow, standIns := [], harness := (true, "9c200012d03465ca04c5d429f1d7adde44c53840c41b55793e4b2605a0e2dd46"), looks := true }, kinds := [], alts := [], laidByText := true, laidKinds := [.data, .data, .data, .data, .sentinel, .sentinel, .data, .data, .data, .pinned], laidTests := true, laidLooks := .later }
def FuncsSumsCardSaid : Prop := Claim7.holds Tryz.pinned (.plain (OpenSpec.ofChange funcsSumsSpec)) funcsSumsCard

/-- THE SECOND FORM's CARD OF 'tabardlaw18.FuncsSums'. -/
def funcsSumsUptoCard : Claim7 := { stood := { row := funcsSumsUptoRow, standIns := [], harness := (true, "9c200012d03465ca04c5d429f1d7adde44c53840c41b55793e4b2605a0e2dd46"), looks := true }, kinds := [], alts := [], laidByText := true, laidKinds := [.data, .data, .data, .data, .sentinel, .sentinel, .data, .data, .data, .pinned], laidTests := true, laidLooks := .later }
def FuncsSumsUptoCardSaid : Prop := Claim7.holds Tryz.pinned (.plain (OpenSpec.upto funcsSumsSpec)) funcsSumsUptoCard
end Rows
end Go.Proofs.YtojblnldfdeefaaGreatDoor
