/-
  DERIVED. GIVEN WITH THE SEED: THE CARDS: each row of YtdbbigjoloinpaaDoorRows.lean that lists a variable, with what it lists TIED to the program's text (the seventh form; the later family's looks); each row that meets fmt, with fmt's text TOLD by the authors' own Lean function (tested against real Go, not proved from fmt's source: count such statements apart). THE CARD IS WHAT COUNTS. Prove the row's statement (the work); the ties are given (YtdbbigjoloinpaaDoorTie.lean); close each card by the builder's one call (the guide's Derived/Test/ToyasCard.lean, 'card_holds'). Laid BY PROGRAM, IN A SANDBOX (cutbox-door.mjs). By AI agents, Wed Nov 11 2026. No macro, syntax, notation, axiom, sorry.
-/
import Derived.Test.YtdbbigjoloinpaaDoorRows
import GoSem.ClaimSeven
namespace Go.Proofs.YtdbbigjoloinpaaDoor
namespace Rows

/-- THE TIED CARD OF 'kurganlaw04.LexScans'. -/
def lexScansCard : Claim7 := { stood := { row := lexScansRow, standIns := [], harness := (true, "dbada12d82c4c91be904b5b1b6dc7cab1b6cea65eea573723219c2a407fae3d0"), looks := false }, kinds := [], alts := [], laidByText := true, laidKinds := [.data, .pinned], laidTests := true, laidLooks := .later }
def LexScansCardSaid : Prop := Claim7.holds Tryd.pinned (.plain (OpenSpec.ofChange lexScansSpec)) lexScansCard

/-- THE TIED CARD OF 'kurganlaw04.LexBlanks'. -/
def lexBlanksCard : Claim7 := { stood := { row := lexBlanksRow, standIns := [], harness := (true, "dbada12d82c4c91be904b5b1b6dc7cab1b6cea65eea573723219c2a407fae3d0"), looks := false }, kinds := [], alts := [], laidByText := true, laidKinds := [.data, .pinned], laidTests := true, laidLooks := .later }
def LexBlanksCardSaid : Prop := Claim7.holds Tryd.pinned (.plain (OpenSpec.ofChange lexBlanksSpec)) lexBlanksCard

/-- THE TIED CARD OF 'kurganlaw04.LexEnds'. -/
def lexEndsCard : Claim7 := { stood := { row := lexEndsRow, standIns := [], harness := (true, "dbada12d82c4c91be904b5b1b6dc7cab1b6cea65eea573723219c2a407fae3d0"), looks := false }, kinds := [], alts := [], laidByText := true, laidKinds := [.data, .pinned], laidTests := true, laidLooks := .later }
def LexEndsCardSaid : Prop := Claim7.holds Tryd.pinned (.plain (OpenSpec.ofChange lexEndsSpec)) lexEndsCard

/-- THE TIED CARD OF 'kurganlaw04.LexBounds'. -/
def lexBoundsCard : Claim7 := { stood := { row := lexBoundsRow, standIns := [], harness := (true, "dbada12d82c4c91be904b5b1b6dc7cab1b6cea65eea573723219c2a407fae3d0"), looks := false }, kinds := [], alts := [], laidByText := true, laidKinds := [.data, .pinned], laidTests := true, laidLooks := .later }
def LexBoundsCardSaid : Prop := Claim7.holds Tryd.pinned (.plain (OpenSpec.ofChange lexBoundsSpec)) lexBoundsCard

/-- THE TIED CARD OF 'kurganlaw03.DigitReads'. -/
def digitReadsCard : Claim7 := { stood := { row := digitReadsRow, standIns := [], harness := (true, "dbada12d82c4c91be904b5b1b6dc7cab1b6cea65eea573723219c2a407fae3d0"), looks := false }, kinds := [], alts := [], laidByText := true, laidKinds := [.data, .data, .data], laidTests := true, laidLooks := .later }
def DigitReadsCardSaid : Prop := Claim7.holds Tryd.pinned (.plain (OpenSpec.ofChange digitReadsSpec)) digitReadsCard

/-- THE TIED CARD OF 'kurganlaw03.DigitWrites'. -/
def digitWritesCard : Claim7 := { stood := { row := digitWritesRow, standIns := [], harness := (true, "dbada12d82c4c91be904b5b1b6dc7cab1b6cea65eea573723219c2a407fae3d0"), looks := false }, kinds := [], alts := [], laidByText := true, laidKinds := [.data, .data, .data], laidTests := true, laidLooks := .later }
def DigitWritesCardSaid : Prop := Claim7.holds Tryd.pinned (.plain (OpenSpec.ofChange digitWritesSpec)) digitWritesCard

/-- THE TIED CARD OF 'kurganlaw03.DigitKinds'. -/
def digitKindsCard : Claim7 := { stood := { row := digitKindsRow, standIns := [], harness := (true, "dbada12d82c4c91be904b5b1b6dc7cab1b6cea65eea573723219c2a407fae3d0"), looks := false }, kinds := [], alts := [], laidByText := true, laidKinds := [.data, .data, .data], laidTests := true, laidLooks := .later }
def DigitKindsCardSaid : Prop := Claim7.holds Tryd.pinned (.plain (OpenSpec.ofChange digitKindsSpec)) digitKindsCard

/-- THE TIED CARD OF 'kurganlaw03.DigitPlaces'. -/
def digitPlacesCard : Claim7 := { stood := { row := digitPlacesRow, standIns := [], harness := (true, "dbada12d82c4c91be904b5b1b6dc7cab1b6cea65eea573723219c2a407fae3d0"), looks := false }, kinds := [], alts := [], laidByText := true, laidKinds := [.data, .data, .data], laidTests := true, laidLooks := .later }
def DigitPlacesCardSaid : Prop := Claim7.holds Tryd.pinned (.plain (OpenSpec.ofChange digitPlacesSpec)) digitPlacesCard

/-- THE TIED CARD OF 'kurganlaw03.DigitLines'. -/
def digitLinesCard : Claim7 := { stood := { row := digitLinesRow, standIns := [], harness := (true, "dbada12d82c4c91be904b5b1b6dc7cab1b6cea65eea573723219c2a407fae3d0"), looks := false }, kinds := [], alts := [], laidByText := true, laidKinds := [.data, .data, .data], laidTests := true, laidLooks := .later }
def DigitLinesCardSaid : Prop := Claim7.holds Tryd.pinned (.plain (OpenSpec.ofChange digitLinesSpec)) digitLinesCard

/-- THE SECOND FORM's CARD OF 'kurganlaw04.LexScans'. -/
def lexScansUptoCard : Claim7 := { stood := { row := lexScansUptoRow, standIns := [], harness := (true, "dbada12d82c4c91be904b5b1b6dc7cab1b6cea65eea573723219c2a407fae3d0"), looks := false }, kinds := [], alts := [], laidByText := true, laidKinds := [.data, .pinned], laidTests := true, laidLooks := .later }
def LexScansUptoCardSaid : Prop := Claim7.holds Tryd.pinned (.plain (OpenSpec.upto lexScansSpec)) lexScansUptoCard

/-- THE SECOND FORM's CARD OF 'kurganlaw04.LexBlanks'. -/
def lexBlanksUptoCard : Claim7 := { stood := { row := lexBlanksUptoRow, standIns := [], harness := (true, "dbada12d82c4c91be904b5b1b6dc7cab1b6cea65eea573723219c2a407fae3d0"), looks := false }, kinds := [], alts := [], laidByText := true, laidKinds := [.data, .pinned], laidTests := true, laidLooks := .later }
def LexBlanksUptoCardSaid : Prop := Claim7.holds Tryd.pinned (.plain (OpenSpec.upto lexBlanksSpec)) lexBlanksUptoCard

/-- THE SECOND FORM's CARD OF 'kurganlaw04.LexEnds'. -/
def lexEndsUptoCard : Claim7 := { stood := { row := lexEndsUptoRow, standIns := [], harness := (true, "dbada12d82c4c91be904b5b1b6dc7cab1b6cea65eea573723219c2a407fae3d0"), looks := false }, kinds := [], alts := [], laidByText := true, laidKinds := [.data, .pinned], laidTests := true, laidLooks := .later }
def LexEndsUptoCardSaid : Prop := Claim7.holds Tryd.pinned (.plain (OpenSpec.upto lexEndsSpec)) lexEndsUptoCard

/-- THE SECOND FORM's CARD OF 'kurganlaw04.LexBounds'. -/
def lexBoundsUptoCard : Claim7 := { stood := { row := lexBoundsUptoRow, standIns := [], harness := (true, "dbada12d82c4c91be904b5b1b6dc7cab1b6cea65eea573723219c2a407fae3d0"), looks := false }, kinds := [], alts := [], laidByText := true, laidKinds := [.data, .pinned], laidTests := true, laidLooks := .later }
def LexBoundsUptoCardSaid : Prop := Claim7.holds Tryd.pinned (.plain (OpenSpec.upto lexBoundsSpec)) lexBoundsUptoCard

/-- THE SECOND FORM's CARD OF 'kurganlaw03.DigitReads'. -/
def digitReadsUptoCard : Claim7 := { stood := { row := digitReadsUptoRow, standIns := [], harness := (true, "dbada12d82c4c91be904b5b1b6dc7cab1b6cea65eea573723219c2a407fae3d0"), looks := false }, kinds := [], alts := [], laidByText := true, laidKinds := [.data, .data, .data], laidTests := true, laidLooks := .later }
def DigitReadsUptoCardSaid : Prop := Claim7.holds Tryd.pinned (.plain (OpenSpec.upto digitReadsSpec)) digitReadsUptoCard

/-- THE SECOND FORM's CARD OF 'kurganlaw03.DigitWrites'. -/
def digitWritesUptoCard : Claim7 := { stood := { row := digitWritesUptoRow, standIns := [], harness := (true, "dbada12d82c4c91be904b5b1b6dc7cab1b6cea65eea573723219c2a407fae3d0"), looks := false }, kinds := [], alts := [], laidByText := true, laidKinds := [.data, .data, .data], laidTests := true, laidLooks := .later }
def DigitWritesUptoCardSaid : Prop := Claim7.holds Tryd.pinned (.plain (OpenSpec.upto digitWritesSpec)) digitWritesUptoCard

/-- THE SECOND FORM's CARD OF 'kurganlaw03.DigitKinds'. -/
def digitKindsUptoCard : Claim7 := { stood := { row := digitKindsUptoRow, standIns := [], harness := (true, "dbada12d82c4c91be904b5b1b6dc7cab1b6cea65eea573723219c2a407fae3d0"), looks := false }, kinds := [], alts := [], laidByText := true, laidKinds := [.data, .data, .data], laidTests := true, laidLooks := .later }
def DigitKindsUptoCardSaid : Prop := Claim7.holds Tryd.pinned (.plain (OpenSpec.upto digitKindsSpec)) digitKindsUptoCard

/-- THE SECOND FORM's CARD OF 'kurganlaw03.DigitPlaces'. -/
def digitPlacesUptoCard : Claim7 := { stood := { row := digitPlacesUptoRow, standIns := [], harness := (true, "dbada12d82c4c91be904b5b1b6dc7cab1b6cea65eea573723219c2a407fae3d0"), looks := false }, kinds := [], alts := [], laidByText := true, laidKinds := [.data, .data, .data], laidTests := true, laidLooks := .later }
def DigitPlacesUptoCardSaid : Prop := Claim7.holds Tryd.pinned (.plain (OpenSpec.upto digitPlacesSpec)) digitPlacesUptoCard

/-- THE SECOND FORM's CARD OF 'kurganlaw03.DigitLines'. -/
def digitLinesUptoCard : Claim7 := { stood := { row := digitLinesUptoRow, standIns := [], harness := (true, "dbada12d82c4c91be904b5b1b6dc7cab1b6cea65eea573723219c2a407fae3d0"), looks := false }, kinds := [], alts := [], laidByText := true, laidKinds := [.data, .data, .data], laidTests := true, laidLooks := .later }
def DigitLinesUptoCardSaid : Prop := Claim7.holds Tryd.pinned (.plain (OpenSpec.upto digitLinesSpec)) digitLinesUptoCard
end Rows
end Go.Proofs.YtdbbigjoloinpaaDoor
