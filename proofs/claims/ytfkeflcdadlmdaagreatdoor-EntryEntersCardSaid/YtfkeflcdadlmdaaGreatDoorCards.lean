/-
  DERIVED. GIVEN WITH THE SEED: THE CARDS: each row of YtfkeflcdadlmdaaGreatDoorRows.lean that lists a variable, with what it lists TIED to the program's text (the seventh form; the later family's looks); each row that meets fmt, with fmt's text TOLD by the authors' own Lean function (tested against real Go, not proved from fmt's source: count such statements apart). THE CARD IS WHAT COUNTS. Prove the row's statement (the work); the ties are given (YtfkeflcdadlmdaaGreatDoorTie.lean); close each card by the builder's one call (the guide's Derived/Test/ToyasCard.lean, 'card_holds'). Laid BY PROGRAM, IN A SANDBOX (cutbox-door.mjs). By AI agents, Wed Nov 11 2026. No macro, syntax, notation, axiom, sorry.
-/
import Derived.Test.YtfkeflcdadlmdaaGreatDoorRows
import GoSem.ClaimSeven
namespace Go.Proofs.YtfkeflcdadlmdaaGreatDoor
namespace Rows

/-- THE TIED CARD OF 'tabardlaw12.EntryEnters'. -/
def entryEntersCard : Claim7 := { stood := { row := entryEntersRow, standIns := [], harness := (true, "4ab4727cc84f38c5e75afde52710d4e75b54721a7c56f3a7991c1102d09f5b94"), looks := true }, kinds := [], alts := [], laidByText := true, laidKinds := [.data, .data, .data, .data, .sentinel, .sentinel, .data, .data, .pinned], laidTests := true, laidLooks := .later }
def EntryEntersCardSaid : Prop := Claim7.holds Tryz.pinned (.plain (OpenSpec.ofChange entryEntersSpec)) entryEntersCard

/-- THE TIED CARD OF 'tabardlaw12.EntryShows'. -/
def entryShowsCard : Claim7 := { stood := { row := entryShowsRow, standIns := [], harness := (true, "4ab4727cc84f38c5e75afde52710d4e75b54721a7c56f3a7991c1102d09f5b94"), looks := true }, kinds := [], alts := [], laidByText := true, laidKinds := [.data, .data, .data, .data, .sentinel, .sentinel, .data, .data, .pinned], laidTests := true, laidLooks := .later }
def EntryShowsCardSaid : Prop := Claim7.holds Tryz.pinned (.plain (OpenSpec.ofChange entryShowsSpec)) entryShowsCard

/-- THE TIED CARD OF 'tabardlaw12.EntryBack'. -/
def entryBackCard : Claim7 := { stood := { row := entryBackRow, standIns := [], harness := (true, "4ab4727cc84f38c5e75afde52710d4e75b54721a7c56f3a7991c1102d09f5b94"), looks := true }, kinds := [], alts := [], laidByText := true, laidKinds := [.data, .data, .data, .data, .sentinel, .sentinel, .data, .data, .pinned], laidTests := true, laidLooks := .later }
def EntryBackCardSaid : Prop := Claim7.holds Tryz.pinned (.plain (OpenSpec.ofChange entryBackSpec)) entryBackCard

/-- THE TIED CARD OF 'tabardlaw12.EntryBlanks'. -/
def entryBlanksCard : Claim7 := { stood := { row := entryBlanksRow, standIns := [], harness := (true, "4ab4727cc84f38c5e75afde52710d4e75b54721a7c56f3a7991c1102d09f5b94"), looks := true }, kinds := [], alts := [], laidByText := true, laidKinds := [.data, .data, .data, .data, .sentinel, .sentinel, .data, .data, .pinned], laidTests := true, laidLooks := .later }
def EntryBlanksCardSaid : Prop := Claim7.holds Tryz.pinned (.plain (OpenSpec.ofChange entryBlanksSpec)) entryBlanksCard

/-- THE TIED CARD OF 'tabardlaw12.EntryWrites'. -/
def entryWritesCard : Claim7 := { stood := { row := entryWritesRow, standIns := [], harness := (true, "4ab4727cc84f38c5e75afde52710d4e75b54721a7c56f3a7991c1102d09f5b94"), looks := true }, kinds := [], alts := [], laidByText := true, laidKinds := [.data, .data, .data, .data, .sentinel, .sentinel, .data, .data, .pinned], laidTests := true, laidLooks := .later }
def EntryWritesCardSaid : Prop := Claim7.holds Tryz.pinned (.plain (OpenSpec.ofChange entryWritesSpec)) entryWritesCard

/-- THE SECOND FORM's CARD OF 'tabardlaw12.EntryEnters'. -/
def entryEntersUptoCard : Claim7 := { stood := { row := entryEntersUptoRow, standIns := [], harness := (true, "4ab4727cc84f38c5e75afde52710d4e75b54721a7c56f3a7991c1102d09f5b94"), looks := true }, kinds := [], alts := [], laidByText := true, laidKinds := [.data, .data, .data, .data, .sentinel, .sentinel, .data, .data, .pinned], laidTests := true, laidLooks := .later }
def EntryEntersUptoCardSaid : Prop := Claim7.holds Tryz.pinned (.plain (OpenSpec.upto entryEntersSpec)) entryEntersUptoCard

/-- THE SECOND FORM's CARD OF 'tabardlaw12.EntryShows'. -/
def entryShowsUptoCard : Claim7 := { stood := { row := entryShowsUptoRow, standIns := [], harness := (true, "4ab4727cc84f38c5e75afde52710d4e75b54721a7c56f3a7991c1102d09f5b94"), looks := true }, kinds := [], alts := [], laidByText := true, laidKinds := [.data, .data, .data, .data, .sentinel, .sentinel, .data, .data, .pinned], laidTests := true, laidLooks := .later }
def EntryShowsUptoCardSaid : Prop := Claim7.holds Tryz.pinned (.plain (OpenSpec.upto entryShowsSpec)) entryShowsUptoCard

/-- THE SECOND FORM's CARD OF 'tabardlaw12.EntryBack'. -/
def entryBackUptoCard : Claim7 := { stood := { row := entryBackUptoRow, standIns := [], harness := (true, "4ab4727cc84f38c5e75afde52710d4e75b54721a7c56f3a7991c1102d09f5b94"), looks := true }, kinds := [], alts := [], laidByText := true, laidKinds := [.data, .data, .data, .data, .sentinel, .sentinel, .data, .data, .pinned], laidTests := true, laidLooks := .later }
def EntryBackUptoCardSaid : Prop := Claim7.holds Tryz.pinned (.plain (OpenSpec.upto entryBackSpec)) entryBackUptoCard

/-- THE SECOND FORM's CARD OF 'tabardlaw12.EntryBlanks'. -/
def entryBlanksUptoCard : Claim7 := { stood := { row := entryBlanksUptoRow, standIns := [], harness := (true, "4ab4727cc84f38c5e75afde52710d4e75b54721a7c56f3a7991c1102d09f5b94"), looks := true }, kinds := [], alts := [], laidByText := true, laidKinds := [.data, .data, .data, .data, .sentinel, .sentinel, .data, .data, .pinned], laidTests := true, laidLooks := .later }
def EntryBlanksUptoCardSaid : Prop := Claim7.holds Tryz.pinned (.plain (OpenSpec.upto entryBlanksSpec)) entryBlanksUptoCard

/-- THE SECOND FORM's CARD OF 'tabardlaw12.EntryWrites'. -/
def entryWritesUptoCard : Claim7 := { stood := { row := entryWritesUptoRow, standIns := [], harness := (true, "4ab4727cc84f38c5e75afde52710d4e75b54721a7c56f3a7991c1102d09f5b94"), looks := true }, kinds := [], alts := [], laidByText := true, laidKinds := [.data, .data, .data, .data, .sentinel, .sentinel, .data, .data, .pinned], laidTests := true, laidLooks := .later }
def EntryWritesUptoCardSaid : Prop := Claim7.holds Tryz.pinned (.plain (OpenSpec.upto entryWritesSpec)) entryWritesUptoCard
end Rows
end Go.Proofs.YtfkeflcdadlmdaaGreatDoor
