/-
  DERIVED. GIVEN WITH THE SEED: THE CARDS: each row of YteedncdcbgplfaaGreatDoorRows.lean that lists a variable, with what it lists TIED to the program's text (the seventh form; the later family's looks); each row that meets fmt, with fmt's text TOLD by the authors' own Lean function (tested against real Go, not proved from fmt's source: count such statements apart). THE CARD IS WHAT COUNTS. Prove the row's statement (the work); the ties are given (YteedncdcbgplfaaGreatDoorTie.lean); close each card by the builder's one call (the guide's Derived/Test/ToyasCard.lean, 'card_holds'). Laid BY PROGRAM, IN A SANDBOX (cutbox-door.mjs). By AI agents, Wed Nov 11 2026. No macro, syntax, notation, axiom, sorry.
-/
import Derived.Test.YteedncdcbgplfaaGreatDoorRows
import GoSem.ClaimSeven
namespace Go.Proofs.YteedncdcbgplfaaGreatDoor
namespace Rows

/-- THE TIED CARD OF 'tabardlaw14.RenderNumbers'. -/
def renderNumbersCard : Claim7 := { stood := { row := renderNumbersRow, standIns := [], harness := (true, "2746d48b2fe447adbdb2c015641de02e31eb2287da6537fa34eeb98064423fc9"), looks := true }, kinds := [], alts := [], laidByText := true, laidKinds := [.data, .data, .data, .data, .sentinel, .sentinel, .data, .data, .pinned], laidTests := true, laidLooks := .later }
def RenderNumbersCardSaid : Prop := Claim7.holds Tryz.pinned (.plain (OpenSpec.ofChange renderNumbersSpec)) renderNumbersCard

/-- THE TIED CARD OF 'tabardlaw14.RenderTexts'. -/
def renderTextsCard : Claim7 := { stood := { row := renderTextsRow, standIns := [], harness := (true, "2746d48b2fe447adbdb2c015641de02e31eb2287da6537fa34eeb98064423fc9"), looks := true }, kinds := [], alts := [], laidByText := true, laidKinds := [.data, .data, .data, .data, .sentinel, .sentinel, .data, .data, .pinned], laidTests := true, laidLooks := .later }
def RenderTextsCardSaid : Prop := Claim7.holds Tryz.pinned (.plain (OpenSpec.ofChange renderTextsSpec)) renderTextsCard

/-- THE TIED CARD OF 'tabardlaw14.RenderSigns'. -/
def renderSignsCard : Claim7 := { stood := { row := renderSignsRow, standIns := [], harness := (true, "2746d48b2fe447adbdb2c015641de02e31eb2287da6537fa34eeb98064423fc9"), looks := true }, kinds := [], alts := [], laidByText := true, laidKinds := [.data, .data, .data, .data, .sentinel, .sentinel, .data, .data, .pinned], laidTests := true, laidLooks := .later }
def RenderSignsCardSaid : Prop := Claim7.holds Tryz.pinned (.plain (OpenSpec.ofChange renderSignsSpec)) renderSignsCard

/-- THE TIED CARD OF 'tabardlaw14.RenderParts'. -/
def renderPartsCard : Claim7 := { stood := { row := renderPartsRow, standIns := [], harness := (true, "2746d48b2fe447adbdb2c015641de02e31eb2287da6537fa34eeb98064423fc9"), looks := true }, kinds := [], alts := [], laidByText := true, laidKinds := [.data, .data, .data, .data, .sentinel, .sentinel, .data, .data, .pinned], laidTests := true, laidLooks := .later }
def RenderPartsCardSaid : Prop := Claim7.holds Tryz.pinned (.plain (OpenSpec.ofChange renderPartsSpec)) renderPartsCard

/-- THE TIED CARD OF 'tabardlaw14.RenderDigits'. -/
def renderDigitsCard : Claim7 := { stood := { row := renderDigitsRow, standIns := [], harness := (true, "2746d48b2fe447adbdb2c015641de02e31eb2287da6537fa34eeb98064423fc9"), looks := true }, kinds := [], alts := [], laidByText := true, laidKinds := [.data, .data, .data, .data, .sentinel, .sentinel, .data, .data, .pinned], laidTests := true, laidLooks := .later }
def RenderDigitsCardSaid : Prop := Claim7.holds Tryz.pinned (.plain (OpenSpec.ofChange renderDigitsSpec)) renderDigitsCard

/-- THE TIED CARD OF 'tabardlaw14.RenderEnters'. -/
def renderEntersCard : Claim7 := { stood := { row := renderEntersRow, standIns := [], harness := (true, "2746d48b2fe447adbdb2c015641de02e31eb2287da6537fa34eeb98064423fc9"), looks := true }, kinds := [], alts := [], laidByText := true, laidKinds := [.data, .data, .data, .data, .sentinel, .sentinel, .data, .data, .pinned], laidTests := true, laidLooks := .later }
def RenderEntersCardSaid : Prop := Claim7.holds Tryz.pinned (.plain (OpenSpec.ofChange renderEntersSpec)) renderEntersCard

/-- THE SECOND FORM's CARD OF 'tabardlaw14.RenderNumbers'. -/
def renderNumbersUptoCard : Claim7 := { stood := { row := renderNumbersUptoRow, standIns := [], harness := (true, "2746d48b2fe447adbdb2c015641de02e31eb2287da6537fa34eeb98064423fc9"), looks := true }, kinds := [], alts := [], laidByText := true, laidKinds := [.data, .data, .data, .data, .sentinel, .sentinel, .data, .data, .pinned], laidTests := true, laidLooks := .later }
def RenderNumbersUptoCardSaid : Prop := Claim7.holds Tryz.pinned (.plain (OpenSpec.upto renderNumbersSpec)) renderNumbersUptoCard

/-- THE SECOND FORM's CARD OF 'tabardlaw14.RenderTexts'. -/
def renderTextsUptoCard : Claim7 := { stood := { row := renderTextsUptoRow, standIns := [], harness := (true, "2746d48b2fe447adbdb2c015641de02e31eb2287da6537fa34eeb98064423fc9"), looks := true }, kinds := [], alts := [], laidByText := true, laidKinds := [.data, .data, .data, .data, .sentinel, .sentinel, .data, .data, .pinned], laidTests := true, laidLooks := .later }
def RenderTextsUptoCardSaid : Prop := Claim7.holds Tryz.pinned (.plain (OpenSpec.upto renderTextsSpec)) renderTextsUptoCard

/-- THE SECOND FORM's CARD OF 'tabardlaw14.RenderSigns'. -/
def renderSignsUptoCard : Claim7 := { stood := { row := renderSignsUptoRow, standIns := [], harness := (true, "2746d48b2fe447adbdb2c015641de02e31eb2287da6537fa34eeb98064423fc9"), looks := true }, kinds := [], alts := [], laidByText := true, laidKinds := [.data, .data, .data, .data, .sentinel, .sentinel, .data, .data, .pinned], laidTests := true, laidLooks := .later }
def RenderSignsUptoCardSaid : Prop := Claim7.holds Tryz.pinned (.plain (OpenSpec.upto renderSignsSpec)) renderSignsUptoCard

/-- THE SECOND FORM's CARD OF 'tabardlaw14.RenderParts'. -/
def renderPartsUptoCard : Claim7 := { stood := { row := renderPartsUptoRow, standIns := [], harness := (true, "2746d48b2fe447adbdb2c015641de02e31eb2287da6537fa34eeb98064423fc9"), looks := true }, kinds := [], alts := [], laidByText := true, laidKinds := [.data, .data, .data, .data, .sentinel, .sentinel, .data, .data, .pinned], laidTests := true, laidLooks := .later }
def RenderPartsUptoCardSaid : Prop := Claim7.holds Tryz.pinned (.plain (OpenSpec.upto renderPartsSpec)) renderPartsUptoCard

/-- THE SECOND FORM's CARD OF 'tabardlaw14.RenderDigits'. -/
def renderDigitsUptoCard : Claim7 := { stood := { row := renderDigitsUptoRow, standIns := [], harness := (true, "2746d48b2fe447adbdb2c015641de02e31eb2287da6537fa34eeb98064423fc9"), looks := true }, kinds := [], alts := [], laidByText := true, laidKinds := [.data, .data, .data, .data, .sentinel, .sentinel, .data, .data, .pinned], laidTests := true, laidLooks := .later }
def RenderDigitsUptoCardSaid : Prop := Claim7.holds Tryz.pinned (.plain (OpenSpec.upto renderDigitsSpec)) renderDigitsUptoCard

/-- THE SECOND FORM's CARD OF 'tabardlaw14.RenderEnters'. -/
def renderEntersUptoCard : Claim7 := { stood := { row := renderEntersUptoRow, standIns := [], harness := (true, "2746d48b2fe447adbdb2c015641de02e31eb2287da6537fa34eeb98064423fc9"), looks := true }, kinds := [], alts := [], laidByText := true, laidKinds := [.data, .data, .data, .data, .sentinel, .sentinel, .data, .data, .pinned], laidTests := true, laidLooks := .later }
def RenderEntersUptoCardSaid : Prop := Claim7.holds Tryz.pinned (.plain (OpenSpec.upto renderEntersSpec)) renderEntersUptoCard
end Rows
end Go.Proofs.YteedncdcbgplfaaGreatDoor
