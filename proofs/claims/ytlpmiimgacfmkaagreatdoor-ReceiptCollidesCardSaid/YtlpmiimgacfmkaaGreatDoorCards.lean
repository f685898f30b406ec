/-
  DERIVED. GIVEN WITH THE SEED: THE CARDS: each row of YtlpmiimgacfmkaaGreatDoorRows.lean that lists a variable, with what it lists TIED to the program's text (the seventh form; the later family's looks); each row that meets fmt, with fmt's text TOLD by the authors' own Lean function (tested against real Go, not proved from fmt's source: count such statements apart). THE CARD IS WHAT COUNTS. Prove the row's statement (the work); the ties are given (YtlpmiimgacfmkaaGreatDoorTie.lean); close each card by the builder's one call (the guide's Derived/Test/ToyasCard.lean, 'card_holds'). Laid BY PROGRAM, IN A SANDBOX (cutbox-door.mjs). By AI agents, Wed Nov 11 2026. No macro, syntax, notation, axiom, sorry.
-/
import Derived.Test.YtlpmiimgacfmkaaGreatDoorRows
import GoSem.ClaimSeven
namespace Go.Proofs.YtlpmiimgacfmkaaGreatDoor
namespace Rows

/-- THE TIED CARD OF 'replevinlaw55.ReceiptMakes'. -/
def receiptMakesCard : Claim7 := { stood := { row := receiptMakesRow, standIns := [], harness := (true, "57061b68ad7336fc6bdaa26409ad1cf0e60500f7215cca129de044d70fe20d39"), looks := false }, kinds := [], alts := [], laidByText := true, laidKinds := [.data, .data, .data], laidTests := true, laidLooks := .later }
def ReceiptMakesCardSaid : Prop := Claim7.holds Tryz.pinned (.plain (OpenSpec.ofChange receiptMakesSpec)) receiptMakesCard

/-- THE TIED CARD OF 'replevinlaw55.ReceiptDecodes'. -/
def receiptDecodesCard : Claim7 := { stood := { row := receiptDecodesRow, standIns := [], harness := (true, "57061b68ad7336fc6bdaa26409ad1cf0e60500f7215cca129de044d70fe20d39"), looks := false }, kinds := [], alts := [], laidByText := true, laidKinds := [.data, .data, .data], laidTests := true, laidLooks := .later }
def ReceiptDecodesCardSaid : Prop := Claim7.holds Tryz.pinned (.plain (OpenSpec.ofChange receiptDecodesSpec)) receiptDecodesCard

/-- THE TIED CARD OF 'replevinlaw55.ReceiptMore'. -/
def receiptMoreCard : Claim7 := { stood := { row := receiptMoreRow, standIns := [], harness := (true, "57061b68ad7336fc6bdaa26409ad1cf0e60500f7215cca129de044d70fe20d39"), looks := false }, kinds := [], alts := [], laidByText := true, laidKinds := [.data, .data, .data], laidTests := true, laidLooks := .later }
def ReceiptMoreCardSaid : Prop := Claim7.holds Tryz.pinned (.plain (OpenSpec.ofChange receiptMoreSpec)) receiptMoreCard

/-- THE TIED CARD OF 'replevinlaw55.ReceiptErrors'. -/
def receiptErrorsCard : Claim7 := { stood := { row := receiptErrorsRow, standIns := [], harness := (true, "57061b68ad7336fc6bdaa26409ad1cf0e60500f7215cca129de044d70fe20d39"), looks := false }, kinds := [], alts := [], laidByText := true, laidKinds := [.data, .data, .data], laidTests := true, laidLooks := .later }
def ReceiptErrorsCardSaid : Prop := Claim7.holds Tryz.pinned (.plain (OpenSpec.ofChange receiptErrorsSpec)) receiptErrorsCard

/-- THE TIED CARD OF 'replevinlaw55.ReceiptGrows'. -/
def receiptGrowsCard : Claim7 := { stood := { row := receiptGrowsRow, standIns := [], harness := (true, "57061b68ad7336fc6bdaa26409ad1cf0e60500f7215cca129de044d70fe20d39"), looks := false }, kinds := [], alts := [], laidByText := true, laidKinds := [.data, .data, .data], laidTests := true, laidLooks := .later }
def ReceiptGrowsCardSaid : Prop := Claim7.holds Tryz.pinned (.plain (OpenSpec.ofChange receiptGrowsSpec)) receiptGrowsCard

/-- THE TIED CARD OF 'replevinlaw55.ReceiptCollides'. -/
def receiptCollidesCard : Claim7 := { stood := { row := receiptCollidesRow, standIns := [], harness := (true, "57061b68ad7336fc6bdaa26409ad1cf0e60500f7215cca129de044d70fe20d39"), looks := false }, kinds := [], alts := [], laidByText := true, laidKinds := [.data, .data, .data], laidTests := true, laidLooks := .later }
def ReceiptCollidesCardSaid : Prop := Claim7.holds Tryz.pinned (.plain (OpenSpec.ofChange receiptCollidesSpec)) receiptCollidesCard

/-- THE TIED CARD OF 'replevinlaw55.ReceiptTexts'. -/
def receiptTextsCard : Claim7 := { stood := { row := receiptTextsRow, standIns := [], harness := (true, "57061b68ad7336fc6bdaa26409ad1cf0e60500f7215cca129de044d70fe20d39"), looks := false }, kinds := [], alts := [], laidByText := true, laidKinds := [.data, .data, .data, .data, .data, .data], laidTests := true, laidLooks := .later }
def ReceiptTextsCardSaid : Prop := Claim7.holds Tryz.pinned (.plain (OpenSpec.ofChange receiptTextsSpec)) receiptTextsCard

/-- THE SECOND FORM's CARD OF 'replevinlaw55.ReceiptMakes'. -/
def receiptMakesUptoCard : Claim7 := { stood := { row := receiptMakesUptoRow, standIns := [], harness := (true, "57061b68ad7336fc6bdaa26409ad1cf0e60500f7215cca129de044d70fe20d39"), looks := false }, kinds := [], alts := [], laidByText := true, laidKinds := [.data, .data, .data], laidTests := true, laidLooks := .later }
def ReceiptMakesUptoCardSaid : Prop := Claim7.holds Tryz.pinned (.plain (OpenSpec.upto receiptMakesSpec)) receiptMakesUptoCard

/-- THE SECOND FORM's CARD OF 'replevinlaw55.ReceiptDecodes'. -/
def receiptDecodesUptoCard : Claim7 := { stood := { row := receiptDecodesUptoRow, standIns := [], harness := (true, "57061b68ad7336fc6bdaa26409ad1cf0e60500f7215cca129de044d70fe20d39"), looks := false }, kinds := [], alts := [], laidByText := true, laidKinds := [.data, .data, .data], laidTests := true, laidLooks := .later }
def ReceiptDecodesUptoCardSaid : Prop := Claim7.holds Tryz.pinned (.plain (OpenSpec.upto receiptDecodesSpec)) receiptDecodesUptoCard

/-- THE SECOND FORM's CARD OF 'replevinlaw55.ReceiptMore'. -/
def receiptMoreUptoCard : Claim7 := { stood := { row := receiptMoreUptoRow, standIns := [], harness := (true, "57061b68ad7336fc6bdaa26409ad1cf0e60500f7215cca129de044d70fe20d39"), looks := false }, kinds := [], alts := [], laidByText := true, laidKinds := [.data, .data, .data], laidTests := true, laidLooks := .later }
def ReceiptMoreUptoCardSaid : Prop := Claim7.holds Tryz.pinned (.plain (OpenSpec.upto receiptMoreSpec)) receiptMoreUptoCard

/-- THE SECOND FORM's CARD OF 'replevinlaw55.ReceiptErrors'. -/
def receiptErrorsUptoCard : Claim7 := { stood := { row := receiptErrorsUptoRow, standIns := [], harness := (true, "57061b68ad7336fc6bdaa26409ad1cf0e60500f7215cca129de044d70fe20d39"), looks := false }, kinds := [], alts := [], laidByText := true, laidKinds := [.data, .data, .data], laidTests := true, laidLooks := .later }
def ReceiptErrorsUptoCardSaid : Prop := Claim7.holds Tryz.pinned (.plain (OpenSpec.upto receiptErrorsSpec)) receiptErrorsUptoCard

/-- THE SECOND FORM's CARD OF 'replevinlaw55.ReceiptGrows'. -/
def receiptGrowsUptoCard : Claim7 := { stood := { row := receiptGrowsUptoRow, standIns := [], harness := (true, "57061b68ad7336fc6bdaa26409ad1cf0e60500f7215cca129de044d70fe20d39"), looks := false }, kinds := [], alts := [], laidByText := true, laidKinds := [.data, .data, .data], laidTests := true, laidLooks := .later }
def ReceiptGrowsUptoCardSaid : Prop := Claim7.holds Tryz.pinned (.plain (OpenSpec.upto receiptGrowsSpec)) receiptGrowsUptoCard

/-- THE SECOND FORM's CARD OF 'replevinlaw55.ReceiptCollides'. -/
def receiptCollidesUptoCard : Claim7 := { stood := { row := receiptCollidesUptoRow, standIns := [], harness := (true, "57061b68ad7336fc6bdaa26409ad1cf0e60500f7215cca129de044d70fe20d39"), looks := false }, kinds := [], alts := [], laidByText := true, laidKinds := [.data, .data, .data], laidTests := true, laidLooks := .later }
def ReceiptCollidesUptoCardSaid : Prop := Claim7.holds Tryz.pinned (.plain (OpenSpec.upto receiptCollidesSpec)) receiptCollidesUptoCard

/-- THE SECOND FORM's CARD OF 'replevinlaw55.ReceiptTexts'. -/
def receiptTextsUptoCard : Claim7 := { stood := { row := receiptTextsUptoRow, standIns := [], harness := (true, "57061b68ad7336fc6bdaa26409ad1cf0e60500f7215cca129de044d70fe20d39"), looks := false }, kinds := [], alts := [], laidByText := true, laidKinds := [.data, .data, .data, .data, .data, .data], laidTests := true, laidLooks := .later }
def ReceiptTextsUptoCardSaid : Prop := Claim7.holds Tryz.pinned (.plain (OpenSpec.upto receiptTextsSpec)) receiptTextsUptoCard
end Rows
end Go.Proofs.YtlpmiimgacfmkaaGreatDoor
