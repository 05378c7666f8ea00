/-
  DERIVED. GIVEN WITH THE SEED: THE CARDS: each row of YtknmngejjoohdaaGreatDoorRows.lean that lists a variable, with what it lists TIED to the program's text (the seventh form; the later family's looks); each row that meets fmt, with fmt's text TOLD by the authors' own Lean function (tested against real Go, not proved from fmt's source: count such statements apart). THE CARD IS WHAT COUNTS. Prove the row's statement (the work); the ties are given (YtknmngejjoohdaaGreatDoorTie.lean); close each card by the builder's one call (the guide's Derived/Test/ToyasCard.lean, 'card_holds'). Laid BY PROGRAM, IN A SANDBOX (cutbox-door.mjs). By AI agents, Wed Nov 11 2026. No macro, syntax, notation, axiom, sorry.
-/
import Derived.Test.YtknmngejjoohdaaGreatDoorRows
import GoSem.ClaimSeven
namespace Go.Proofs.YtknmngejjoohdaaGreatDoor
namespace Rows

/-- THE TIED CARD OF 'semaphorelaw3.DraftParses'. -/
def draftParsesCard : Claim7 := { stood := { row := draftParsesRow, standIns := [], harness := (true, "f52bbc21f1fcc241e6322cd94858650c3c2f655c1d9a3d4af7c710e913fa4e5e"), looks := false }, kinds := [], alts := [], laidByText := true, laidKinds := [.data, .data, .data, .data, .pinned], laidTests := true, laidLooks := .later }
def DraftParsesCardSaid : Prop := Claim7.holds Tryz.pinned (.plain (OpenSpec.ofChange draftParsesSpec)) draftParsesCard

/-- THE TIED CARD OF 'semaphorelaw11.ChartBuilds'. -/
def chartBuildsCard : Claim7 := { stood := { row := chartBuildsRow, standIns := [], harness := (true, "f52bbc21f1fcc241e6322cd94858650c3c2f655c1d9a3d4af7c710e913fa4e5e"), looks := false }, kinds := [], alts := [], laidByText := true, laidKinds := [.data, .data, .data, .data, .pinned], laidTests := true, laidLooks := .later }
def ChartBuildsCardSaid : Prop := Claim7.holds Tryz.pinned (.plain (OpenSpec.ofChange chartBuildsSpec)) chartBuildsCard

/-- THE TIED CARD OF 'semaphorelaw11.ChartLines'. -/
def chartLinesCard : Claim7 := { stood := { row := chartLinesRow, standIns := [], harness := (true, "f52bbc21f1fcc241e6322cd94858650c3c2f655c1d9a3d4af7c710e913fa4e5e"), looks := false }, kinds := [], alts := [], laidByText := true, laidKinds := [.data, .data, .data, .data, .pinned], laidTests := true, laidLooks := .later }
def ChartLinesCardSaid : Prop := Claim7.holds Tryz.pinned (.plain (OpenSpec.ofChange chartLinesSpec)) chartLinesCard

/-- THE TIED CARD OF 'semaphorelaw11.ChartPrints'. -/
def chartPrintsCard : Claim7 := { stood := { row := chartPrintsRow, standIns := [], harness := (true, "f52bbc21f1fcc241e6322cd94858650c3c2f655c1d9a3d4af7c710e913fa4e5e"), looks := false }, kinds := [], alts := [], laidByText := true, laidKinds := [.data, .data, .data, .data, .pinned], laidTests := true, laidLooks := .later }
def ChartPrintsCardSaid : Prop := Claim7.holds Tryz.pinned (.plain (OpenSpec.ofChange chartPrintsSpec)) chartPrintsCard

/-- THE TIED CARD OF 'semaphorelaw11.ChartBack'. -/
def chartBackCard : Claim7 := { stood := { row := chartBackRow, standIns := [], harness := (true, "f52bbc21f1fcc241e6322cd94858650c3c2f655c1d9a3d4af7c710e913fa4e5e"), looks := false }, kinds := [], alts := [], laidByText := true, laidKinds := [.data, .data, .data, .data, .pinned], laidTests := true, laidLooks := .later }
def ChartBackCardSaid : Prop := Claim7.holds Tryz.pinned (.plain (OpenSpec.ofChange chartBackSpec)) chartBackCard

/-- THE TIED CARD OF 'semaphorelaw11.ChartWord'. -/
def chartWordCard : Claim7 := { stood := { row := chartWordRow, standIns := [], harness := (true, "f52bbc21f1fcc241e6322cd94858650c3c2f655c1d9a3d4af7c710e913fa4e5e"), looks := false }, kinds := [], alts := [], laidByText := true, laidKinds := [.data, .data, .data, .data, .pinned], laidTests := true, laidLooks := .later }
def ChartWordCardSaid : Prop := Claim7.holds Tryz.pinned (.plain (OpenSpec.ofChange chartWordSpec)) chartWordCard

/-- THE TIED CARD OF 'semaphorelaw11.ChartFinds'. -/
def chartFindsCard : Claim7 := { stood := { row := chartFindsRow, standIns := [], harness := (true, "f52bbc21f1fcc241e6322cd94858650c3c2f655c1d9a3d4af7c710e913fa4e5e"), looks := false }, kinds := [], alts := [], laidByText := true, laidKinds := [.data, .data, .data, .data, .pinned], laidTests := true, laidLooks := .later }
def ChartFindsCardSaid : Prop := Claim7.holds Tryz.pinned (.plain (OpenSpec.ofChange chartFindsSpec)) chartFindsCard

/-- THE SECOND FORM's CARD OF 'semaphorelaw3.DraftParses'. -/
def draftParsesUptoCard : Claim7 := { stood := { row := draftParsesUptoRow, standIns := [], harness := (true, "f52bbc21f1fcc241e6322cd94858650c3c2f655c1d9a3d4af7c710e913fa4e5e"), looks := false }, kinds := [], alts := [], laidByText := true, laidKinds := [.data, .data, .data, .data, .pinned], laidTests := true, laidLooks := .later }
def DraftParsesUptoCardSaid : Prop := Claim7.holds Tryz.pinned (.plain (OpenSpec.upto draftParsesSpec)) draftParsesUptoCard

/-- THE SECOND FORM's CARD OF 'semaphorelaw11.ChartBuilds'. -/
def chartBuildsUptoCard : Claim7 := { stood := { row := chartBuildsUptoRow, standIns := [], harness := (true, "f52bbc21f1fcc241e6322cd94858650c3c2f655c1d9a3d4af7c710e913fa4e5e"), looks := false }, kinds := [], alts := [], laidByText := true, laidKinds := [.data, .data, .data, .data, .pinned], laidTests := true, laidLooks := .later }
def ChartBuildsUptoCardSaid : Prop := Claim7.holds Tryz.pinned (.plain (OpenSpec.upto chartBuildsSpec)) chartBuildsUptoCard

/-- THE SECOND FORM's CARD OF 'semaphorelaw11.ChartLines'. -/
def chartLinesUptoCard : Claim7 := { stood := { row := chartLinesUptoRow, standIns := [], harness := (true, "f52bbc21f1fcc241e6322cd94858650c3c2f655c1d9a3d4af7c710e913fa4e5e"), looks := false }, kinds := [], alts := [], laidByText := true, laidKinds := [.data, .data, .data, .data, .pinned], laidTests := true, laidLooks := .later }
def ChartLinesUptoCardSaid : Prop := Claim7.holds Tryz.pinned (.plain (OpenSpec.upto chartLinesSpec)) chartLinesUptoCard

/-- THE SECOND FORM's CARD OF 'semaphorelaw11.ChartPrints'. -/
def chartPrintsUptoCard : Claim7 := { stood := { row := chartPrintsUptoRow, standIns := [], harness := (true, "f52bbc21f1fcc241e6322cd94858650c3c2f655c1d9a3d4af7c710e913fa4e5e"), looks := false }, kinds := [], alts := [], laidByText := true, laidKinds := [.data, .data, .data, .data, .pinned], laidTests := true, laidLooks := .later }
def ChartPrintsUptoCardSaid : Prop := Claim7.holds Tryz.pinned (.plain (OpenSpec.upto chartPrintsSpec)) chartPrintsUptoCard

/-- THE SECOND FORM's CARD OF 'semaphorelaw11.ChartBack'. -/
def chartBackUptoCard : Claim7 := { stood := { row := chartBackUptoRow, standIns := [], harness := (true, "f52bbc21f1fcc241e6322cd94858650c3c2f655c1d9a3d4af7c710e913fa4e5e"), looks := false }, kinds := [], alts := [], laidByText := true, laidKinds := [.data, .data, .data, .data, .pinned], laidTests := true, laidLooks := .later }
def ChartBackUptoCardSaid : Prop := Claim7.holds Tryz.pinned (.plain (OpenSpec.upto chartBackSpec)) chartBackUptoCard

/-- THE SECOND FORM's CARD OF 'semaphorelaw11.ChartWord'. -/
def chartWordUptoCard : Claim7 := { stood := { row := chartWordUptoRow, standIns := [], harness := (true, "f52bbc21f1fcc241e6322cd94858650c3c2f655c1d9a3d4af7c710e913fa4e5e"), looks := false }, kinds := [], alts := [], laidByText := true, laidKinds := [.data, .data, .data, .data, .pinned], laidTests := true, laidLooks := .later }
def ChartWordUptoCardSaid : Prop := Claim7.holds Tryz.pinned (.plain (OpenSpec.upto chartWordSpec)) chartWordUptoCard

/-- THE SECOND FORM's CARD OF 'semaphorelaw11.ChartFinds'. -/
def chartFindsUptoCard : Claim7 := { stood := { row := chartFindsUptoRow, standIns := [], harness := (true, "f52bbc21f1fcc241e6322cd94858650c3c2f655c1d9a3d4af7c710e913fa4e5e"), looks := false }, kinds := [], alts := [], laidByText := true, laidKinds := [.data, .data, .data, .data, .pinned], laidTests := true, laidLooks := .later }
def ChartFindsUptoCardSaid : Prop := Claim7.holds Tryz.pinned (.plain (OpenSpec.upto chartFindsSpec)) chartFindsUptoCard
end Rows
end Go.Proofs.YtknmngejjoohdaaGreatDoor
