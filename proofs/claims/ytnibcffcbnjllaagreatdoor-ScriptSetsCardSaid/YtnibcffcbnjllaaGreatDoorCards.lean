/-
  DERIVED. GIVEN WITH THE SEED: THE CARDS: each row of YtnibcffcbnjllaaGreatDoorRows.lean that lists a variable, with what it lists TIED to the program's text (the seventh form; the later family's looks); each row that meets fmt, with fmt's text TOLD by the authors' own Lean function (tested against real Go, not proved from fmt's source: count such statements apart). THE CARD IS WHAT COUNTS. Prove the row's statement (the work); the ties are given (YtnibcffcbnjllaaGreatDoorTie.lean); close each card by the builder's one call (the guide's Derived/Test/ToyasCard.lean, 'card_holds'). Laid BY PROGRAM, IN A SANDBOX (cutbox-door.mjs). By AI agents, Wed Nov 11 2026. No macro, syntax, notation, axiom, sorry.
-/
import Derived.Test.YtnibcffcbnjllaaGreatDoorRows
import GoSem.ClaimSeven
namespace Go.Proofs.YtnibcffcbnjllaaGreatDoor
namespace Rows

/-- THE TIED CARD OF 'replevinlaw44.ScriptParts'. -/
def scriptPartsCard : Claim7 := { stood := { row := scriptPartsRow, standIns := [], harness := (true, "013b36efc573d51d57afda0f9ff0711062f93413d77b37c481fc0b42ceae8e1d"), looks := true }, kinds := [], alts := [], laidByText := true, laidKinds := [.data, .data, .data], laidTests := true, laidLooks := .later }
def ScriptPartsCardSaid : Prop := Claim7.holds Tryz.pinned (.plain (OpenSpec.ofChange scriptPartsSpec)) scriptPartsCard

/-- THE TIED CARD OF 'replevinlaw44.ScriptTakes'. -/
def scriptTakesCard : Claim7 := { stood := { row := scriptTakesRow, standIns := [], harness := (true, "013b36efc573d51d57afda0f9ff0711062f93413d77b37c481fc0b42ceae8e1d"), looks := true }, kinds := [], alts := [], laidByText := true, laidKinds := [.data, .data, .data], laidTests := true, laidLooks := .later }
def ScriptTakesCardSaid : Prop := Claim7.holds Tryz.pinned (.plain (OpenSpec.ofChange scriptTakesSpec)) scriptTakesCard

/-- THE TIED CARD OF 'replevinlaw44.ScriptSets'. -/
def scriptSetsCard : Claim7 := { stood := { row := scriptSetsRow, standIns := [], harness := (true, "013b36efc573d51d57afda0f9ff0711062f93413d77b37c481fc0b42ceae8e1d"), looks := true }, kinds := [], alts := [], laidByText := true, laidKinds := [.data, .data, .data], laidTests := true, laidLooks := .later }
def ScriptSetsCardSaid : Prop := Claim7.holds Tryz.pinned (.plain (OpenSpec.ofChange scriptSetsSpec)) scriptSetsCard

/-- THE TIED CARD OF 'replevinlaw44.ScriptTexts'. -/
def scriptTextsCard : Claim7 := { stood := { row := scriptTextsRow, standIns := [], harness := (true, "013b36efc573d51d57afda0f9ff0711062f93413d77b37c481fc0b42ceae8e1d"), looks := true }, kinds := [], alts := [], laidByText := true, laidKinds := [.data, .data, .data, .data, .sentinel, .sentinel, .pinned], laidTests := true, laidLooks := .later }
def ScriptTextsCardSaid : Prop := Claim7.holds Tryz.pinned (.plain (OpenSpec.ofChange scriptTextsSpec)) scriptTextsCard

/-- THE SECOND FORM's CARD OF 'replevinlaw44.ScriptParts'. -/
def scriptPartsUptoCard : Claim7 := { stood := { row := scriptPartsUptoRow, standIns := [], harness := (true, "013b36efc573d51d57afda0f9ff0711062f93413d77b37c481fc0b42ceae8e1d"), looks := true }, kinds := [], alts := [], laidByText := true, laidKinds := [.data, .data, .data], laidTests := true, laidLooks := .later }
def ScriptPartsUptoCardSaid : Prop := Claim7.holds Tryz.pinned (.plain (OpenSpec.upto scriptPartsSpec)) scriptPartsUptoCard

/-- THE SECOND FORM's CARD OF 'replevinlaw44.ScriptTakes'. -/
def scriptTakesUptoCard : Claim7 := { stood := { row := scriptTakesUptoRow, standIns := [], harness := (true, "013b36efc573d51d57afda0f9ff0711062f93413d77b37c481fc0b42ceae8e1d"), looks := true }, kinds := [], alts := [], laidByText := true, laidKinds := [.data, .data, .data], laidTests := true, laidLooks := .later }
def ScriptTakesUptoCardSaid : Prop := Claim7.holds Tryz.pinned (.plain (OpenSpec.upto scriptTakesSpec)) scriptTakesUptoCard

/-- THE SECOND FORM's CARD OF 'replevinlaw44.ScriptSets'. -/
def scriptSetsUptoCard : Claim7 := { stood := { row := scriptSetsUptoRow, standIns := [], harness := (true, "013b36efc573d51d57afda0f9ff0711062f93413d77b37c481fc0b42ceae8e1d"), looks := true }, kinds := [], alts := [], laidByText := true, laidKinds := [.data, .data, .data], laidTests := true, laidLooks := .later }
def ScriptSetsUptoCardSaid : Prop := Claim7.holds Tryz.pinned (.plain (OpenSpec.upto scriptSetsSpec)) scriptSetsUptoCard

/-- THE SECOND FORM's CARD OF 'replevinlaw44.ScriptTexts'. -/
def scriptTextsUptoCard : Claim7 := { stood := { row := scriptTextsUptoRow, standIns := [], harness := (true, "013b36efc573d51d57afda0f9ff0711062f93413d77b37c481fc0b42ceae8e1d"), looks := true }, kinds := [], alts := [], laidByText := true, laidKinds := [.data, .data, .data, .data, .sentinel, .sentinel, .pinned], laidTests := true, laidLooks := .later }
def ScriptTextsUptoCardSaid : Prop := Claim7.holds Tryz.pinned (.plain (OpenSpec.upto scriptTextsSpec)) scriptTextsUptoCard
end Rows
end Go.Proofs.YtnibcffcbnjllaaGreatDoor
