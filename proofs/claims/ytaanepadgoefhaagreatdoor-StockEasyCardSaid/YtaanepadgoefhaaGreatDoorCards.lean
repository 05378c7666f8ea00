/-
  DERIVED. GIVEN WITH THE SEED: THE CARDS: each row of YtaanepadgoefhaaGreatDoorRows.lean that lists a variable, with what it lists TIED to the program's text (the seventh form; the later family's looks); each row that meets fmt, with fmt's text TOLD by the authors' own Lean function (tested against real Go, not proved from fmt's source: count such statements apart). THE CARD IS WHAT COUNTS. Prove the row's statement (the work); the ties are given (YtaanepadgoefhaaGreatDoorTie.lean); close each card by the builder's one call (the guide's Derived/Test/ToyasCard.lean, 'card_holds'). Laid BY PROGRAM, IN A SANDBOX (cutbox-door.mjs). By AI agents, Wed Nov 11 2026. No macro, syntax, notation, axiom, sorry.
-/
import Derived.Test.YtaanepadgoefhaaGreatDoorRows
import GoSem.ClaimSeven
namespace Go.Proofs.YtaanepadgoefhaaGreatDoor
namespace Rows

/-- THE TIED CARD OF 'semaphorelaw25.HandForms'. -/
def handFormsCard : Claim7 := { stood := { row := handFormsRow, standIns := [], harness := (true, "5969ddf9fdc368d013b84b3f49ba48c4cb410fd171a81144ff682cb7b69499e5"), looks := false }, kinds := [], alts := [], laidByText := true, laidKinds := [.data, .pinned], laidTests := true, laidLooks := .later }
def HandFormsCardSaid : Prop := Claim7.holds Tryz.pinned (.plain (OpenSpec.ofChange handFormsSpec)) handFormsCard

/-- THE TIED CARD OF 'semaphorelaw21.StockStands'. -/
def stockStandsCard : Claim7 := { stood := { row := stockStandsRow, standIns := [], harness := (true, "5969ddf9fdc368d013b84b3f49ba48c4cb410fd171a81144ff682cb7b69499e5"), looks := false }, kinds := [], alts := [], laidByText := true, laidKinds := [.data, .data, .data, .data, .pinned], laidTests := true, laidLooks := .later }
def StockStandsCardSaid : Prop := Claim7.holds Tryz.pinned (.plain (OpenSpec.ofChange stockStandsSpec)) stockStandsCard

/-- THE TIED CARD OF 'semaphorelaw21.StockTexts'. -/
def stockTextsCard : Claim7 := { stood := { row := stockTextsRow, standIns := [], harness := (true, "5969ddf9fdc368d013b84b3f49ba48c4cb410fd171a81144ff682cb7b69499e5"), looks := false }, kinds := [], alts := [], laidByText := true, laidKinds := [.data, .data, .data, .data, .pinned], laidTests := true, laidLooks := .later }
def StockTextsCardSaid : Prop := Claim7.holds Tryz.pinned (.plain (OpenSpec.ofChange stockTextsSpec)) stockTextsCard

/-- THE TIED CARD OF 'semaphorelaw21.StockReads'. -/
def stockReadsCard : Claim7 := { stood := { row := stockReadsRow, standIns := [], harness := (true, "5969ddf9fdc368d013b84b3f49ba48c4cb410fd171a81144ff682cb7b69499e5"), looks := false }, kinds := [], alts := [], laidByText := true, laidKinds := [.data, .data, .data, .data, .pinned], laidTests := true, laidLooks := .later }
def StockReadsCardSaid : Prop := Claim7.holds Tryz.pinned (.plain (OpenSpec.ofChange stockReadsSpec)) stockReadsCard

/-- THE TIED CARD OF 'semaphorelaw21.StockBack'. -/
def stockBackCard : Claim7 := { stood := { row := stockBackRow, standIns := [], harness := (true, "5969ddf9fdc368d013b84b3f49ba48c4cb410fd171a81144ff682cb7b69499e5"), looks := false }, kinds := [], alts := [], laidByText := true, laidKinds := [.data, .data, .data, .data, .pinned], laidTests := true, laidLooks := .later }
def StockBackCardSaid : Prop := Claim7.holds Tryz.pinned (.plain (OpenSpec.ofChange stockBackSpec)) stockBackCard

/-- THE TIED CARD OF 'semaphorelaw21.StockLonger'. -/
def stockLongerCard : Claim7 := { stood := { row := stockLongerRow, standIns := [], harness := (true, "5969ddf9fdc368d013b84b3f49ba48c4cb410fd171a81144ff682cb7b69499e5"), looks := false }, kinds := [], alts := [], laidByText := true, laidKinds := [.data, .data, .data, .data, .pinned], laidTests := true, laidLooks := .later }
def StockLongerCardSaid : Prop := Claim7.holds Tryz.pinned (.plain (OpenSpec.ofChange stockLongerSpec)) stockLongerCard

/-- THE TIED CARD OF 'semaphorelaw21.StockEasy'. -/
def stockEasyCard : Claim7 := { stood := { row := stockEasyRow, standIns := [], harness := (true, "5969ddf9fdc368d013b84b3f49ba48c4cb410fd171a81144ff682cb7b69499e5"), looks := false }, kinds := [], alts := [], laidByText := true, laidKinds := [.data, .data, .data, .data, .pinned], laidTests := true, laidLooks := .later }
def StockEasyCardSaid : Prop := Claim7.holds Tryz.pinned (.plain (OpenSpec.ofChange stockEasySpec)) stockEasyCard

/-- THE TIED CARD OF 'semaphorelaw21.StockMays'. -/
def stockMaysCard : Claim7 := { stood := { row := stockMaysRow, standIns := [], harness := (true, "5969ddf9fdc368d013b84b3f49ba48c4cb410fd171a81144ff682cb7b69499e5"), looks := false }, kinds := [], alts := [], laidByText := true, laidKinds := [.data, .data, .data, .data, .pinned], laidTests := true, laidLooks := .later }
def StockMaysCardSaid : Prop := Claim7.holds Tryz.pinned (.plain (OpenSpec.ofChange stockMaysSpec)) stockMaysCard

/-- THE SECOND FORM's CARD OF 'semaphorelaw25.HandForms'. -/
def handFormsUptoCard : Claim7 := { stood := { row := handFormsUptoRow, standIns := [], harness := (true, "5969ddf9fdc368d013b84b3f49ba48c4cb410fd171a81144ff682cb7b69499e5"), looks := false }, kinds := [], alts := [], laidByText := true, laidKinds := [.data, .pinned], laidTests := true, laidLooks := .later }
def HandFormsUptoCardSaid : Prop := Claim7.holds Tryz.pinned (.plain (OpenSpec.upto handFormsSpec)) handFormsUptoCard

/-- THE SECOND FORM's CARD OF 'semaphorelaw21.StockStands'. -/
def stockStandsUptoCard : Claim7 := { stood := { row := stockStandsUptoRow, standIns := [], harness := (true, "5969ddf9fdc368d013b84b3f49ba48c4cb410fd171a81144ff682cb7b69499e5"), looks := false }, kinds := [], alts := [], laidByText := true, laidKinds := [.data, .data, .data, .data, .pinned], laidTests := true, laidLooks := .later }
def StockStandsUptoCardSaid : Prop := Claim7.holds Tryz.pinned (.plain (OpenSpec.upto stockStandsSpec)) stockStandsUptoCard

/-- THE SECOND FORM's CARD OF 'semaphorelaw21.StockTexts'. -/
def stockTextsUptoCard : Claim7 := { stood := { row := stockTextsUptoRow, standIns := [], harness := (true, "5969ddf9fdc368d013b84b3f49ba48c4cb410fd171a81144ff682cb7b69499e5"), looks := false }, kinds := [], alts := [], laidByText := true, laidKinds := [.data, .data, .data, .data, .pinned], laidTests := true, laidLooks := .later }
def StockTextsUptoCardSaid : Prop := Claim7.holds Tryz.pinned (.plain (OpenSpec.upto stockTextsSpec)) stockTextsUptoCard

/-- THE SECOND FORM's CARD OF 'semaphorelaw21.StockReads'. -/
def stockReadsUptoCard : Claim7 := { stood := { row := stockReadsUptoRow, standIns := [], harness := (true, "5969ddf9fdc368d013b84b3f49ba48c4cb410fd171a81144ff682cb7b69499e5"), looks := false }, kinds := [], alts := [], laidByText := true, laidKinds := [.data, .data, .data, .data, .pinned], laidTests := true, laidLooks := .later }
def StockReadsUptoCardSaid : Prop := Claim7.holds Tryz.pinned (.plain (OpenSpec.upto stockReadsSpec)) stockReadsUptoCard

/-- THE SECOND FORM's CARD OF 'semaphorelaw21.StockBack'. -/
def stockBackUptoCard : Claim7 := { stood := { row := stockBackUptoRow, standIns := [], harness := (true, "5969ddf9fdc368d013b84b3f49ba48c4cb410fd171a81144ff682cb7b69499e5"), looks := false }, kinds := [], alts := [], laidByText := true, laidKinds := [.data, .data, .data, .data, .pinned], laidTests := true, laidLooks := .later }
def StockBackUptoCardSaid : Prop := Claim7.holds Tryz.pinned (.plain (OpenSpec.upto stockBackSpec)) stockBackUptoCard

/-- THE SECOND FORM's CARD OF 'semaphorelaw21.StockLonger'. -/
def stockLongerUptoCard : Claim7 := { stood := { row := stockLongerUptoRow, standIns := [], harness := (true, "5969ddf9fdc368d013b84b3f49ba48c4cb410fd171a81144ff682cb7b69499e5"), looks := false }, kinds := [], alts := [], laidByText := true, laidKinds := [.data, .data, .data, .data, .pinned], laidTests := true, laidLooks := .later }
def StockLongerUptoCardSaid : Prop := Claim7.holds Tryz.pinned (.plain (OpenSpec.upto stockLongerSpec)) stockLongerUptoCard

/-- THE SECOND FORM's CARD OF 'semaphorelaw21.StockEasy'. -/
def stockEasyUptoCard : Claim7 := { stood := { row := stockEasyUptoRow, standIns := [], harness := (true, "5969ddf9fdc368d013b84b3f49ba48c4cb410fd171a81144ff682cb7b69499e5"), looks := false }, kinds := [], alts := [], laidByText := true, laidKinds := [.data, .data, .data, .data, .pinned], laidTests := true, laidLooks := .later }
def StockEasyUptoCardSaid : Prop := Claim7.holds Tryz.pinned (.plain (OpenSpec.upto stockEasySpec)) stockEasyUptoCard

/-- THE SECOND FORM's CARD OF 'semaphorelaw21.StockMays'. -/
def stockMaysUptoCard : Claim7 := { stood := { row := stockMaysUptoRow, standIns := [], harness := (true, "5969ddf9fdc368d013b84b3f49ba48c4cb410fd171a81144ff682cb7b69499e5"), looks := false }, kinds := [], alts := [], laidByText := true, laidKinds := [.data, .data, .data, .data, .pinned], laidTests := true, laidLooks := .later }
def StockMaysUptoCardSaid : Prop := Claim7.holds Tryz.pinned (.plain (OpenSpec.upto stockMaysSpec)) stockMaysUptoCard
end Rows
end Go.Proofs.YtaanepadgoefhaaGreatDoor
