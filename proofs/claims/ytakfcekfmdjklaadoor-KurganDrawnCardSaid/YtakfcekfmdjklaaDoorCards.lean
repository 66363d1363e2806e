/-
  DERIVED. GIVEN WITH THE SEED: THE CARDS: each row of YtakfcekfmdjklaaDoorRows.lean that lists a variable, with what it lists TIED to the program's text (the seventh form; the later family's looks); each row that meets fmt, with fmt's text TOLD by the authors' own Lean function (tested against real Go, not proved from fmt's source: count such statements apart). THE CARD IS WHAT COUNTS. Prove the row's statement (the work); the ties are given (YtakfcekfmdjklaaDoorTie.lean); close each card by the builder's one call (the guide's Derived/Test/ToyasCard.lean, 'card_holds'). Laid BY PROGRAM, IN A SANDBOX (cutbox-door.mjs). By AI agents, Wed Nov 11 2026. No macro, syntax, notation, axiom, sorry.
-/
import Derived.Test.YtakfcekfmdjklaaDoorRows
import GoSem.ClaimSeven
namespace Go.Proofs.YtakfcekfmdjklaaDoor
namespace Rows

/-- THE TIED CARD OF 'kurganlaw05.InstChecks'. -/
def instChecksCard : Claim7 := { stood := { row := instChecksRow, standIns := [], harness := (true, "ee67706afddeb32f867a73c18c995db1af4eac24c00a615fbe5c6a4b6918127b"), looks := false }, kinds := [], alts := [], laidByText := true, laidKinds := [.data, .data, .data], laidTests := true, laidLooks := .later }
def InstChecksCardSaid : Prop := Claim7.holds Tryd.pinned (.plain (OpenSpec.ofChange instChecksSpec)) instChecksCard

/-- THE TIED CARD OF 'kurganlaw05.InstWrites'. -/
def instWritesCard : Claim7 := { stood := { row := instWritesRow, standIns := [], harness := (true, "ee67706afddeb32f867a73c18c995db1af4eac24c00a615fbe5c6a4b6918127b"), looks := false }, kinds := [], alts := [], laidByText := true, laidKinds := [.data, .data, .data], laidTests := true, laidLooks := .later }
def InstWritesCardSaid : Prop := Claim7.holds Tryd.pinned (.plain (OpenSpec.ofChange instWritesSpec)) instWritesCard

/-- THE TIED CARD OF 'kurganlaw05.InstNames'. -/
def instNamesCard : Claim7 := { stood := { row := instNamesRow, standIns := [], harness := (true, "ee67706afddeb32f867a73c18c995db1af4eac24c00a615fbe5c6a4b6918127b"), looks := false }, kinds := [], alts := [], laidByText := true, laidKinds := [.data, .data, .data], laidTests := true, laidLooks := .later }
def InstNamesCardSaid : Prop := Claim7.holds Tryd.pinned (.plain (OpenSpec.ofChange instNamesSpec)) instNamesCard

/-- THE TIED CARD OF 'kurganlaw05.InstMirrors'. -/
def instMirrorsCard : Claim7 := { stood := { row := instMirrorsRow, standIns := [], harness := (true, "ee67706afddeb32f867a73c18c995db1af4eac24c00a615fbe5c6a4b6918127b"), looks := false }, kinds := [], alts := [], laidByText := true, laidKinds := [.data, .data, .data], laidTests := true, laidLooks := .later }
def InstMirrorsCardSaid : Prop := Claim7.holds Tryd.pinned (.plain (OpenSpec.ofChange instMirrorsSpec)) instMirrorsCard

/-- THE TIED CARD OF 'kurganlaw05.InstCopies'. -/
def instCopiesCard : Claim7 := { stood := { row := instCopiesRow, standIns := [], harness := (true, "ee67706afddeb32f867a73c18c995db1af4eac24c00a615fbe5c6a4b6918127b"), looks := false }, kinds := [], alts := [], laidByText := true, laidKinds := [.data, .data, .data], laidTests := true, laidLooks := .later }
def InstCopiesCardSaid : Prop := Claim7.holds Tryd.pinned (.plain (OpenSpec.ofChange instCopiesSpec)) instCopiesCard

/-- THE TIED CARD OF 'kurganlaw06.ParseTells'. -/
def parseTellsCard : Claim7 := { stood := { row := parseTellsRow, standIns := [], harness := (true, "ee67706afddeb32f867a73c18c995db1af4eac24c00a615fbe5c6a4b6918127b"), looks := false }, kinds := [], alts := [], laidByText := true, laidKinds := [.data, .pinned], laidTests := true, laidLooks := .later }
def ParseTellsCardSaid : Prop := Claim7.holds Tryd.pinned (.plain (OpenSpec.ofChange parseTellsSpec)) parseTellsCard

/-- THE TIED CARD OF 'kurganlaw06.ParseLimits'. -/
def parseLimitsCard : Claim7 := { stood := { row := parseLimitsRow, standIns := [], harness := (true, "ee67706afddeb32f867a73c18c995db1af4eac24c00a615fbe5c6a4b6918127b"), looks := false }, kinds := [], alts := [], laidByText := true, laidKinds := [.data, .pinned], laidTests := true, laidLooks := .later }
def ParseLimitsCardSaid : Prop := Claim7.holds Tryd.pinned (.plain (OpenSpec.ofChange parseLimitsSpec)) parseLimitsCard

/-- THE TIED CARD OF 'kurganlaw06.ParseUppers'. -/
def parseUppersCard : Claim7 := { stood := { row := parseUppersRow, standIns := [], harness := (true, "ee67706afddeb32f867a73c18c995db1af4eac24c00a615fbe5c6a4b6918127b"), looks := false }, kinds := [], alts := [], laidByText := true, laidKinds := [.data, .pinned], laidTests := true, laidLooks := .later }
def ParseUppersCardSaid : Prop := Claim7.holds Tryd.pinned (.plain (OpenSpec.ofChange parseUppersSpec)) parseUppersCard

/-- THE TIED CARD OF 'kurganlaw06.ParseBack'. -/
def parseBackCard : Claim7 := { stood := { row := parseBackRow, standIns := [], harness := (true, "ee67706afddeb32f867a73c18c995db1af4eac24c00a615fbe5c6a4b6918127b"), looks := false }, kinds := [], alts := [], laidByText := true, laidKinds := [.data, .data, .data, .data, .pinned], laidTests := true, laidLooks := .later }
def ParseBackCardSaid : Prop := Claim7.holds Tryd.pinned (.plain (OpenSpec.ofChange parseBackSpec)) parseBackCard

/-- THE TIED CARD OF 'kurganlaw06.ParseCuts'. -/
def parseCutsCard : Claim7 := { stood := { row := parseCutsRow, standIns := [], harness := (true, "ee67706afddeb32f867a73c18c995db1af4eac24c00a615fbe5c6a4b6918127b"), looks := false }, kinds := [], alts := [], laidByText := true, laidKinds := [.data, .data, .data, .data, .pinned], laidTests := true, laidLooks := .later }
def ParseCutsCardSaid : Prop := Claim7.holds Tryd.pinned (.plain (OpenSpec.ofChange parseCutsSpec)) parseCutsCard

/-- THE TIED CARD OF 'kurgantop.KurganTexts'. -/
def kurganTextsCard : Claim7 := { stood := { row := kurganTextsRow, standIns := [], harness := (true, "ee67706afddeb32f867a73c18c995db1af4eac24c00a615fbe5c6a4b6918127b"), looks := false }, kinds := [], alts := [], laidByText := true, laidKinds := [.data, .data, .data, .data, .pinned], laidTests := true, laidLooks := .later }
def KurganTextsCardSaid : Prop := Claim7.holds Tryd.pinned (.plain (OpenSpec.ofChange kurganTextsSpec)) kurganTextsCard

/-- THE TIED CARD OF 'kurganlaw07.GenFine'. -/
def genFineCard : Claim7 := { stood := { row := genFineRow, standIns := [], harness := (true, "ee67706afddeb32f867a73c18c995db1af4eac24c00a615fbe5c6a4b6918127b"), looks := false }, kinds := [], alts := [], laidByText := true, laidKinds := [.data, .data, .data, .data, .pinned], laidTests := true, laidLooks := .later }
def GenFineCardSaid : Prop := Claim7.holds Tryd.pinned (.plain (OpenSpec.ofChange genFineSpec)) genFineCard

/-- THE TIED CARD OF 'kurgantop.KurganDrawn'. -/
def kurganDrawnCard : Claim7 := { stood := { row := kurganDrawnRow, standIns := [], harness := (true, "ee67706afddeb32f867a73c18c995db1af4eac24c00a615fbe5c6a4b6918127b"), looks := false }, kinds := [], alts := [], laidByText := true, laidKinds := [.data, .data, .data, .data, .pinned], laidTests := true, laidLooks := .later }
def KurganDrawnCardSaid : Prop := Claim7.holds Tryd.pinned (.plain (OpenSpec.ofChange kurganDrawnSpec)) kurganDrawnCard

/-- THE SECOND FORM's CARD OF 'kurganlaw05.InstChecks'. -/
def instChecksUptoCard : Claim7 := { stood := { row := instChecksUptoRow, standIns := [], harness := (true, "ee67706afddeb32f867a73c18c995db1af4eac24c00a615fbe5c6a4b6918127b"), looks := false }, kinds := [], alts := [], laidByText := true, laidKinds := [.data, .data, .data], laidTests := true, laidLooks := .later }
def InstChecksUptoCardSaid : Prop := Claim7.holds Tryd.pinned (.plain (OpenSpec.upto instChecksSpec)) instChecksUptoCard

/-- THE SECOND FORM's CARD OF 'kurganlaw05.InstWrites'. -/
def instWritesUptoCard : Claim7 := { stood := { row := instWritesUptoRow, standIns := [], harness := (true, "ee67706afddeb32f867a73c18c995db1af4eac24c00a615fbe5c6a4b6918127b"), looks := false }, kinds := [], alts := [], laidByText := true, laidKinds := [.data, .data, .data], laidTests := true, laidLooks := .later }
def InstWritesUptoCardSaid : Prop := Claim7.holds Tryd.pinned (.plain (OpenSpec.upto instWritesSpec)) instWritesUptoCard

/-- THE SECOND FORM's CARD OF 'kurganlaw05.InstNames'. -/
def instNamesUptoCard : Claim7 := { stood := { row := instNamesUptoRow, standIns := [], harness := (true, "ee67706afddeb32f867a73c18c995db1af4eac24c00a615fbe5c6a4b6918127b"), looks := false }, kinds := [], alts := [], laidByText := true, laidKinds := [.data, .data, .data], laidTests := true, laidLooks := .later }
def InstNamesUptoCardSaid : Prop := Claim7.holds Tryd.pinned (.plain (OpenSpec.upto instNamesSpec)) instNamesUptoCard

/-- THE SECOND FORM's CARD OF 'kurganlaw05.InstMirrors'. -/
def instMirrorsUptoCard : Claim7 := { stood := { row := instMirrorsUptoRow, standIns := [], harness := (true, "ee67706afddeb32f867a73c18c995db1af4eac24c00a615fbe5c6a4b6918127b"), looks := false }, kinds := [], alts := [], laidByText := true, laidKinds := [.data, .data, .data], laidTests := true, laidLooks := .later }
def InstMirrorsUptoCardSaid : Prop := Claim7.holds Tryd.pinned (.plain (OpenSpec.upto instMirrorsSpec)) instMirrorsUptoCard

/-- THE SECOND FORM's CARD OF 'kurganlaw05.InstCopies'. -/
def instCopiesUptoCard : Claim7 := { stood := { row := instCopiesUptoRow, standIns := [], harness := (true, "ee67706afddeb32f867a73c18c995db1af4eac24c00a615fbe5c6a4b6918127b"), looks := false }, kinds := [], alts := [], laidByText := true, laidKinds := [.data, .data, .data], laidTests := true, laidLooks := .later }
def InstCopiesUptoCardSaid : Prop := Claim7.holds Tryd.pinned (.plain (OpenSpec.upto instCopiesSpec)) instCopiesUptoCard

/-- THE SECOND FORM's CARD OF 'kurganlaw06.ParseTells'. -/
def parseTellsUptoCard : Claim7 := { stood := { row := parseTellsUptoRow, standIns := [], harness := (true, "ee67706afddeb32f867a73c18c995db1af4eac24c00a615fbe5c6a4b6918127b"), looks := false }, kinds := [], alts := [], laidByText := true, laidKinds := [.data, .pinned], laidTests := true, laidLooks := .later }
def ParseTellsUptoCardSaid : Prop := Claim7.holds Tryd.pinned (.plain (OpenSpec.upto parseTellsSpec)) parseTellsUptoCard

/-- THE SECOND FORM's CARD OF 'kurganlaw06.ParseLimits'. -/
def parseLimitsUptoCard : Claim7 := { stood := { row := parseLimitsUptoRow, standIns := [], harness := (true, "ee67706afddeb32f867a73c18c995db1af4eac24c00a615fbe5c6a4b6918127b"), looks := false }, kinds := [], alts := [], laidByText := true, laidKinds := [.data, .pinned], laidTests := true, laidLooks := .later }
def ParseLimitsUptoCardSaid : Prop := Claim7.holds Tryd.pinned (.plain (OpenSpec.upto parseLimitsSpec)) parseLimitsUptoCard

/-- THE SECOND FORM's CARD OF 'kurganlaw06.ParseUppers'. -/
def parseUppersUptoCard : Claim7 := { stood := { row := parseUppersUptoRow, standIns := [], harness := (true, "ee67706afddeb32f867a73c18c995db1af4eac24c00a615fbe5c6a4b6918127b"), looks := false }, kinds := [], alts := [], laidByText := true, laidKinds := [.data, .pinned], laidTests := true, laidLooks := .later }
def ParseUppersUptoCardSaid : Prop := Claim7.holds Tryd.pinned (.plain (OpenSpec.upto parseUppersSpec)) parseUppersUptoCard

/-- THE SECOND FORM's CARD OF 'kurganlaw06.ParseBack'. -/
def parseBackUptoCard : Claim7 := { stood := { row := parseBackUptoRow, standIns := [], harness := (true, "ee67706afddeb32f867a73c18c995db1af4eac24c00a615fbe5c6a4b6918127b"), looks := false }, kinds := [], alts := [], laidByText := true, laidKinds := [.data, .data, .data, .data, .pinned], laidTests := true, laidLooks := .later }
def ParseBackUptoCardSaid : Prop := Claim7.holds Tryd.pinned (.plain (OpenSpec.upto parseBackSpec)) parseBackUptoCard

/-- THE SECOND FORM's CARD OF 'kurganlaw06.ParseCuts'. -/
def parseCutsUptoCard : Claim7 := { stood := { row := parseCutsUptoRow, standIns := [], harness := (true, "ee67706afddeb32f867a73c18c995db1af4eac24c00a615fbe5c6a4b6918127b"), looks := false }, kinds := [], alts := [], laidByText := true, laidKinds := [.data, .data, .data, .data, .pinned], laidTests := true, laidLooks := .later }
def ParseCutsUptoCardSaid : Prop := Claim7.holds Tryd.pinned (.plain (OpenSpec.upto parseCutsSpec)) parseCutsUptoCard

/-- THE SECOND FORM's CARD OF 'kurgantop.KurganTexts'. -/
def kurganTextsUptoCard : Claim7 := { stood := { row := kurganTextsUptoRow, standIns := [], harness := (true, "ee67706afddeb32f867a73c18c995db1af4eac24c00a615fbe5c6a4b6918127b"), looks := false }, kinds := [], alts := [], laidByText := true, laidKinds := [.data, .data, .data, .data, .pinned], laidTests := true, laidLooks := .later }
def KurganTextsUptoCardSaid : Prop := Claim7.holds Tryd.pinned (.plain (OpenSpec.upto kurganTextsSpec)) kurganTextsUptoCard

/-- THE SECOND FORM's CARD OF 'kurganlaw07.GenFine'. -/
def genFineUptoCard : Claim7 := { stood := { row := genFineUptoRow, standIns := [], harness := (true, "ee67706afddeb32f867a73c18c995db1af4eac24c00a615fbe5c6a4b6918127b"), looks := false }, kinds := [], alts := [], laidByText := true, laidKinds := [.data, .data, .data, .data, .pinned], laidTests := true, laidLooks := .later }
def GenFineUptoCardSaid : Prop := Claim7.holds Tryd.pinned (.plain (OpenSpec.upto genFineSpec)) genFineUptoCard

/-- THE SECOND FORM's CARD OF 'kurgantop.KurganDrawn'. -/
def kurganDrawnUptoCard : Claim7 := { stood := { row := kurganDrawnUptoRow, standIns := [], harness := (true, "ee67706afddeb32f867a73c18c995db1af4eac24c00a615fbe5c6a4b6918127b"), looks := false }, kinds := [], alts := [], laidByText := true, laidKinds := [.data, .data, .data, .data, .pinned], laidTests := true, laidLooks := .later }
def KurganDrawnUptoCardSaid : Prop := Claim7.holds Tryd.pinned (.plain (OpenSpec.upto kurganDrawnSpec)) kurganDrawnUptoCard
end Rows
end Go.Proofs.YtakfcekfmdjklaaDoor
