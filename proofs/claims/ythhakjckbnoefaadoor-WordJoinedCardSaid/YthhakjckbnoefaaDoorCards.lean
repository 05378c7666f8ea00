/-
  DERIVED. GIVEN WITH THE SEED: THE CARDS: each row of YthhakjckbnoefaaDoorRows.lean that lists a variable, with what it lists TIED to the program's text (the seventh form; the later family's looks); each row that meets fmt, with fmt's text TOLD by the authors' own Lean function (tested against real Go, not proved from fmt's source: count such statements apart). THE CARD IS WHAT COUNTS. Prove the row's statement (the work); the ties are given (YthhakjckbnoefaaDoorTie.lean); close each card by the builder's one call (the guide's Derived/Test/ToyasCard.lean, 'card_holds'). Laid BY PROGRAM, IN A SANDBOX (cutbox-door.mjs). By AI agents, Wed Nov 11 2026. No macro, syntax, notation, axiom, sorry.
-/
import Derived.Test.YthhakjckbnoefaaDoorRows
import GoSem.ClaimSeven
namespace Go.Proofs.YthhakjckbnoefaaDoor
namespace Rows

/-- THE TIED CARD OF 'semaphorelaw1.WordLines'. -/
def wordLinesCard : Claim7 := { stood := { row := wordLinesRow, standIns := [], harness := (true, "0a850d86672c47ef7bc807953d318f64d32e729a6a83fdffc807d5de51516f03"), looks := false }, kinds := [], alts := [], laidByText := true, laidKinds := [.data, .data, .data, .data, .pinned], laidTests := true, laidLooks := .later }
def WordLinesCardSaid : Prop := Claim7.holds Tryd.pinned (.plain (OpenSpec.ofChange wordLinesSpec)) wordLinesCard

/-- THE TIED CARD OF 'semaphorelaw1.WordWords'. -/
def wordWordsCard : Claim7 := { stood := { row := wordWordsRow, standIns := [], harness := (true, "0a850d86672c47ef7bc807953d318f64d32e729a6a83fdffc807d5de51516f03"), looks := false }, kinds := [], alts := [], laidByText := true, laidKinds := [.data, .data, .data, .data, .pinned], laidTests := true, laidLooks := .later }
def WordWordsCardSaid : Prop := Claim7.holds Tryd.pinned (.plain (OpenSpec.ofChange wordWordsSpec)) wordWordsCard

/-- THE TIED CARD OF 'semaphorelaw1.WordNumber'. -/
def wordNumberCard : Claim7 := { stood := { row := wordNumberRow, standIns := [], harness := (true, "0a850d86672c47ef7bc807953d318f64d32e729a6a83fdffc807d5de51516f03"), looks := false }, kinds := [], alts := [], laidByText := true, laidKinds := [.data, .data, .data, .data, .pinned], laidTests := true, laidLooks := .later }
def WordNumberCardSaid : Prop := Claim7.holds Tryd.pinned (.plain (OpenSpec.ofChange wordNumberSpec)) wordNumberCard

/-- THE TIED CARD OF 'semaphorelaw1.WordName'. -/
def wordNameCard : Claim7 := { stood := { row := wordNameRow, standIns := [], harness := (true, "0a850d86672c47ef7bc807953d318f64d32e729a6a83fdffc807d5de51516f03"), looks := false }, kinds := [], alts := [], laidByText := true, laidKinds := [.data, .data, .data, .data, .pinned], laidTests := true, laidLooks := .later }
def WordNameCardSaid : Prop := Claim7.holds Tryd.pinned (.plain (OpenSpec.ofChange wordNameSpec)) wordNameCard

/-- THE TIED CARD OF 'semaphorelaw1.WordDigits'. -/
def wordDigitsCard : Claim7 := { stood := { row := wordDigitsRow, standIns := [], harness := (true, "0a850d86672c47ef7bc807953d318f64d32e729a6a83fdffc807d5de51516f03"), looks := false }, kinds := [], alts := [], laidByText := true, laidKinds := [.data, .data, .data, .data, .pinned], laidTests := true, laidLooks := .later }
def WordDigitsCardSaid : Prop := Claim7.holds Tryd.pinned (.plain (OpenSpec.ofChange wordDigitsSpec)) wordDigitsCard

/-- THE TIED CARD OF 'semaphorelaw1.WordBack'. -/
def wordBackCard : Claim7 := { stood := { row := wordBackRow, standIns := [], harness := (true, "0a850d86672c47ef7bc807953d318f64d32e729a6a83fdffc807d5de51516f03"), looks := false }, kinds := [], alts := [], laidByText := true, laidKinds := [.data, .data, .data, .data, .pinned], laidTests := true, laidLooks := .later }
def WordBackCardSaid : Prop := Claim7.holds Tryd.pinned (.plain (OpenSpec.ofChange wordBackSpec)) wordBackCard

/-- THE TIED CARD OF 'semaphorelaw1.WordJoined'. -/
def wordJoinedCard : Claim7 := { stood := { row := wordJoinedRow, standIns := [], harness := (true, "0a850d86672c47ef7bc807953d318f64d32e729a6a83fdffc807d5de51516f03"), looks := false }, kinds := [], alts := [], laidByText := true, laidKinds := [.data, .data, .data, .data, .pinned], laidTests := true, laidLooks := .later }
def WordJoinedCardSaid : Prop := Claim7.holds Tryd.pinned (.plain (OpenSpec.ofChange wordJoinedSpec)) wordJoinedCard

/-- THE TIED CARD OF 'semaphorelaw1.WordRows'. -/
def wordRowsCard : Claim7 := { stood := { row := wordRowsRow, standIns := [], harness := (true, "0a850d86672c47ef7bc807953d318f64d32e729a6a83fdffc807d5de51516f03"), looks := false }, kinds := [], alts := [], laidByText := true, laidKinds := [.data, .data, .data, .data, .pinned], laidTests := true, laidLooks := .later }
def WordRowsCardSaid : Prop := Claim7.holds Tryd.pinned (.plain (OpenSpec.ofChange wordRowsSpec)) wordRowsCard

/-- THE SECOND FORM's CARD OF 'semaphorelaw1.WordLines'. -/
def wordLinesUptoCard : Claim7 := { stood := { row := wordLinesUptoRow, standIns := [], harness := (true, "0a850d86672c47ef7bc807953d318f64d32e729a6a83fdffc807d5de51516f03"), looks := false }, kinds := [], alts := [], laidByText := true, laidKinds := [.data, .data, .data, .data, .pinned], laidTests := true, laidLooks := .later }
def WordLinesUptoCardSaid : Prop := Claim7.holds Tryd.pinned (.plain (OpenSpec.upto wordLinesSpec)) wordLinesUptoCard

/-- THE SECOND FORM's CARD OF 'semaphorelaw1.WordWords'. -/
def wordWordsUptoCard : Claim7 := { stood := { row := wordWordsUptoRow, standIns := [], harness := (true, "0a850d86672c47ef7bc807953d318f64d32e729a6a83fdffc807d5de51516f03"), looks := false }, kinds := [], alts := [], laidByText := true, laidKinds := [.data, .data, .data, .data, .pinned], laidTests := true, laidLooks := .later }
def WordWordsUptoCardSaid : Prop := Claim7.holds Tryd.pinned (.plain (OpenSpec.upto wordWordsSpec)) wordWordsUptoCard

/-- THE SECOND FORM's CARD OF 'semaphorelaw1.WordNumber'. -/
def wordNumberUptoCard : Claim7 := { stood := { row := wordNumberUptoRow, standIns := [], harness := (true, "0a850d86672c47ef7bc807953d318f64d32e729a6a83fdffc807d5de51516f03"), looks := false }, kinds := [], alts := [], laidByText := true, laidKinds := [.data, .data, .data, .data, .pinned], laidTests := true, laidLooks := .later }
def WordNumberUptoCardSaid : Prop := Claim7.holds Tryd.pinned (.plain (OpenSpec.upto wordNumberSpec)) wordNumberUptoCard

/-- THE SECOND FORM's CARD OF 'semaphorelaw1.WordName'. -/
def wordNameUptoCard : Claim7 := { stood := { row := wordNameUptoRow, standIns := [], harness := (true, "0a850d86672c47ef7bc807953d318f64d32e729a6a83fdffc807d5de51516f03"), looks := false }, kinds := [], alts := [], laidByText := true, laidKinds := [.data, .data, .data, .data, .pinned], laidTests := true, laidLooks := .later }
def WordNameUptoCardSaid : Prop := Claim7.holds Tryd.pinned (.plain (OpenSpec.upto wordNameSpec)) wordNameUptoCard

/-- THE SECOND FORM's CARD OF 'semaphorelaw1.WordDigits'. -/
def wordDigitsUptoCard : Claim7 := { stood := { row := wordDigitsUptoRow, standIns := [], harness := (true, "0a850d86672c47ef7bc807953d318f64d32e729a6a83fdffc807d5de51516f03"), looks := false }, kinds := [], alts := [], laidByText := true, laidKinds := [.data, .data, .data, .data, .pinned], laidTests := true, laidLooks := .later }
def WordDigitsUptoCardSaid : Prop := Claim7.holds Tryd.pinned (.plain (OpenSpec.upto wordDigitsSpec)) wordDigitsUptoCard

/-- THE SECOND FORM's CARD OF 'semaphorelaw1.WordBack'. -/
def wordBackUptoCard : Claim7 := { stood := { row := wordBackUptoRow, standIns := [], harness := (true, "0a850d86672c47ef7bc807953d318f64d32e729a6a83fdffc807d5de51516f03"), looks := false }, kinds := [], alts := [], laidByText := true, laidKinds := [.data, .data, .data, .data, .pinned], laidTests := true, laidLooks := .later }
def WordBackUptoCardSaid : Prop := Claim7.holds Tryd.pinned (.plain (OpenSpec.upto wordBackSpec)) wordBackUptoCard

/-- THE SECOND FORM's CARD OF 'semaphorelaw1.WordJoined'. -/
def wordJoinedUptoCard : Claim7 := { stood := { row := wordJoinedUptoRow, standIns := [], harness := (true, "0a850d86672c47ef7bc807953d318f64d32e729a6a83fdffc807d5de51516f03"), looks := false }, kinds := [], alts := [], laidByText := true, laidKinds := [.data, .data, .data, .data, .pinned], laidTests := true, laidLooks := .later }
def WordJoinedUptoCardSaid : Prop := Claim7.holds Tryd.pinned (.plain (OpenSpec.upto wordJoinedSpec)) wordJoinedUptoCard

/-- THE SECOND FORM's CARD OF 'semaphorelaw1.WordRows'. -/
def wordRowsUptoCard : Claim7 := { stood := { row := wordRowsUptoRow, standIns := [], harness := (true, "0a850d86672c47ef7bc807953d318f64d32e729a6a83fdffc807d5de51516f03"), looks := false }, kinds := [], alts := [], laidByText := true, laidKinds := [.data, .data, .data, .data, .pinned], laidTests := true, laidLooks := .later }
def WordRowsUptoCardSaid : Prop := Claim7.holds Tryd.pinned (.plain (OpenSpec.upto wordRowsSpec)) wordRowsUptoCard
end Rows
end Go.Proofs.YthhakjckbnoefaaDoor
