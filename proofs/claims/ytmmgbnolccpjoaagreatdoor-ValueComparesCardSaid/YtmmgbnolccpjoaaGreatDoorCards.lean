/-
  DERIVED. GIVEN WITH THE SEED: THE CARDS: each row of YtmmgbnolccpjoaaGreatDoorRows.lean that lists a variable, with what it lists TIED to the program's text (the seventh form; the later family's looks); each row that meets fmt, with fmt's text TOLD by the authors' own Lean function (tested against real Go, not proved from fmt's source: count such statements apart). THE CARD IS WHAT COUNTS. Prove the row's statement (the work); the ties are given (YtmmgbnolccpjoaaGreatDoorTie.lean); close each card by the builder's one call (the guide's Derived/Test/ToyasCard.lean, 'card_holds'). Laid BY PROGRAM, IN A SANDBOX (cutbox-door.mjs). By AI agents, Wed Nov 11 2026. No macro, syntax, notation, axiom, sorry.
-/
import Derived.Test.YtmmgbnolccpjoaaGreatDoorRows
import GoSem.ClaimSeven
namespace Go.Proofs.YtmmgbnolccpjoaaGreatDoor
namespace Rows

/-- THE TIED CARD OF 'tabardlaw17.ValueTurns'. -/
def valueTurnsCard : Claim7 := { stood := { row := valueTurnsRow, standIns := [], harness := (true, "f704989f6919a0ea7c8883d8e1cb54e6184a9502f3eaac99d17da075bde6860b"), looks := true }, kinds := [], alts := [], laidByText := true, laidKinds := [.data, .data, .data, .data, .sentinel, .sentinel, .data, .data, .pinned], laidTests := true, laidLooks := .later }
def ValueTurnsCardSaid : Prop := Claim7.holds Tryz.pinned (.plain (OpenSpec.ofChange valueTurnsSpec)) valueTurnsCard

/-- THE TIED CARD OF 'tabardlaw17.ValueCompares'. -/
def valueComparesCard : Claim7 := { stood := { row := valueComparesRow, standIns := [], harness := (true, "f704989f6919a0ea7c8883d8e1cb54e6184a9502f3eaac99d17da075bde6860b"), looks := true }, kinds := [], alts := [], laidByText := true, laidKinds := [.data, .data, .data, .data, .sentinel, .sentinel, .data, .data, .pinned], laidTests := true, laidLooks := .later }
def ValueComparesCardSaid : Prop := Claim7.holds Tryz.pinned (.plain (OpenSpec.ofChange valueComparesSpec)) valueComparesCard

/-- THE TIED CARD OF 'tabardlaw17.ValueOperates'. -/
def valueOperatesCard : Claim7 := { stood := { row := valueOperatesRow, standIns := [], harness := (true, "f704989f6919a0ea7c8883d8e1cb54e6184a9502f3eaac99d17da075bde6860b"), looks := true }, kinds := [], alts := [], laidByText := true, laidKinds := [.data, .data, .data, .data, .sentinel, .sentinel, .data, .data, .pinned], laidTests := true, laidLooks := .later }
def ValueOperatesCardSaid : Prop := Claim7.holds Tryz.pinned (.plain (OpenSpec.ofChange valueOperatesSpec)) valueOperatesCard

/-- THE TIED CARD OF 'tabardlaw17.ValueBack'. -/
def valueBackCard : Claim7 := { stood := { row := valueBackRow, standIns := [], harness := (true, "f704989f6919a0ea7c8883d8e1cb54e6184a9502f3eaac99d17da075bde6860b"), looks := true }, kinds := [], alts := [], laidByText := true, laidKinds := [.data, .data, .data, .data, .sentinel, .sentinel, .data, .data, .pinned], laidTests := true, laidLooks := .later }
def ValueBackCardSaid : Prop := Claim7.holds Tryz.pinned (.plain (OpenSpec.ofChange valueBackSpec)) valueBackCard

/-- THE TIED CARD OF 'tabardlaw17.ValueRight'. -/
def valueRightCard : Claim7 := { stood := { row := valueRightRow, standIns := [], harness := (true, "f704989f6919a0ea7c8883d8e1cb54e6184a9502f3eaac99d17da075bde6860b"), looks := true }, kinds := [], alts := [], laidByText := true, laidKinds := [.data, .data, .data, .data, .sentinel, .sentinel, .data, .data, .pinned], laidTests := true, laidLooks := .later }
def ValueRightCardSaid : Prop := Claim7.holds Tryz.pinned (.plain (OpenSpec.ofChange valueRightSpec)) valueRightCard

/-- THE SECOND FORM's CARD OF 'tabardlaw17.ValueTurns'. -/
def valueTurnsUptoCard : Claim7 := { stood := { row := valueTurnsUptoRow, standIns := [], harness := (true, "f704989f6919a0ea7c8883d8e1cb54e6184a9502f3eaac99d17da075bde6860b"), looks := true }, kinds := [], alts := [], laidByText := true, laidKinds := [.data, .data, .data, .data, .sentinel, .sentinel, .data, .data, .pinned], laidTests := true, laidLooks := .later }
def ValueTurnsUptoCardSaid : Prop := Claim7.holds Tryz.pinned (.plain (OpenSpec.upto valueTurnsSpec)) valueTurnsUptoCard

/-- THE SECOND FORM's CARD OF 'tabardlaw17.ValueCompares'. -/
def valueComparesUptoCard : Claim7 := { stood := { row := valueComparesUptoRow, standIns := [], harness := (true, "f704989f6919a0ea7c8883d8e1cb54e6184a9502f3eaac99d17da075bde6860b"), looks := true }, kinds := [], alts := [], laidByText := true, laidKinds := [.data, .data, .data, .data, .sentinel, .sentinel, .data, .data, .pinned], laidTests := true, laidLooks := .later }
def ValueComparesUptoCardSaid : Prop := Claim7.holds Tryz.pinned (.plain (OpenSpec.upto valueComparesSpec)) valueComparesUptoCard

/-- THE SECOND FORM's CARD OF 'tabardlaw17.ValueOperates'. -/
def valueOperatesUptoCard : Claim7 := { stood := { row := valueOperatesUptoRow, standIns := [], harness := (true, "f704989f6919a0ea7c8883d8e1cb54e6184a9502f3eaac99d17da075bde6860b"), looks := true }, kinds := [], alts := [], laidByText := true, laidKinds := [.data, .data, .data, .data, .sentinel, .sentinel, .data, .data, .pinned], laidTests := true, laidLooks := .later }
def ValueOperatesUptoCardSaid : Prop := Claim7.holds Tryz.pinned (.plain (OpenSpec.upto valueOperatesSpec)) valueOperatesUptoCard

/-- THE SECOND FORM's CARD OF 'tabardlaw17.ValueBack'. -/
def valueBackUptoCard : Claim7 := { stood := { row := valueBackUptoRow, standIns := [], harness := (true, "f704989f6919a0ea7c8883d8e1cb54e6184a9502f3eaac99d17da075bde6860b"), looks := true }, kinds := [], alts := [], laidByText := true, laidKinds := [.data, .data, .data, .data, .sentinel, .sentinel, .data, .data, .pinned], laidTests := true, laidLooks := .later }
def ValueBackUptoCardSaid : Prop := Claim7.holds Tryz.pinned (.plain (OpenSpec.upto valueBackSpec)) valueBackUptoCard

/-- THE SECOND FORM's CARD OF 'tabardlaw17.ValueRight'. -/
def valueRightUptoCard : Claim7 := { stood := { row := valueRightUptoRow, standIns := [], harness := (true, "f704989f6919a0ea7c8883d8e1cb54e6184a9502f3eaac99d17da075bde6860b"), looks := true }, kinds := [], alts := [], laidByText := true, laidKinds := [.data, .data, .data, .data, .sentinel, .sentinel, .data, .data, .pinned], laidTests := true, laidLooks := .later }
def ValueRightUptoCardSaid : Prop := Claim7.holds Tryz.pinned (.plain (OpenSpec.upto valueRightSpec)) valueRightUptoCard
end Rows
end Go.Proofs.YtmmgbnolccpjoaaGreatDoor
