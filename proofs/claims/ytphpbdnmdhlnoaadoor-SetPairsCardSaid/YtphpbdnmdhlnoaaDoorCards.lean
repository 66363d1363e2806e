/-
  DERIVED. GIVEN WITH THE SEED: THE CARDS: each row of YtphpbdnmdhlnoaaDoorRows.lean that lists a variable, with what it lists TIED to the program's text (the seventh form; the later family's looks); each row that meets fmt, with fmt's text TOLD by the authors' own Lean function (tested against real Go, not proved from fmt's source: count such statements apart). THE CARD IS WHAT COUNTS. Prove the row's statement (the work); the ties are given (YtphpbdnmdhlnoaaDoorTie.lean); close each card by the builder's one call (the guide's Derived/Test/ToyasCard.lean, 'card_holds'). Laid BY PROGRAM, IN A SANDBOX (cutbox-door.mjs). By AI agents, Wed Nov 11 2026. No macro, syntax, notation, axiom, sorry.
-/
import Derived.Test.YtphpbdnmdhlnoaaDoorRows
import GoSem.ClaimSeven
namespace Go.Proofs.YtphpbdnmdhlnoaaDoor
namespace Rows

/-- THE TIED CARD OF 'kurganlaw02.SetGoes'. -/
def setGoesCard : Claim7 := { stood := { row := setGoesRow, standIns := [], harness := (true, "2588e1768495ec05fbe1604961a4bae2b060f0ea375f103bd9ef41d2234ab714"), looks := false }, kinds := [], alts := [], laidByText := true, laidKinds := [.data], laidTests := true, laidLooks := .later }
def SetGoesCardSaid : Prop := Claim7.holds Tryd.pinned (.plain (OpenSpec.ofChange setGoesSpec)) setGoesCard

/-- THE TIED CARD OF 'kurganlaw02.SetPairs'. -/
def setPairsCard : Claim7 := { stood := { row := setPairsRow, standIns := [], harness := (true, "2588e1768495ec05fbe1604961a4bae2b060f0ea375f103bd9ef41d2234ab714"), looks := false }, kinds := [], alts := [], laidByText := true, laidKinds := [.data], laidTests := true, laidLooks := .later }
def SetPairsCardSaid : Prop := Claim7.holds Tryd.pinned (.plain (OpenSpec.ofChange setPairsSpec)) setPairsCard

/-- THE TIED CARD OF 'kurganlaw02.SetWalks'. -/
def setWalksCard : Claim7 := { stood := { row := setWalksRow, standIns := [], harness := (true, "2588e1768495ec05fbe1604961a4bae2b060f0ea375f103bd9ef41d2234ab714"), looks := false }, kinds := [], alts := [], laidByText := true, laidKinds := [.data], laidTests := true, laidLooks := .later }
def SetWalksCardSaid : Prop := Claim7.holds Tryd.pinned (.plain (OpenSpec.ofChange setWalksSpec)) setWalksCard

/-- THE SECOND FORM's CARD OF 'kurganlaw02.SetGoes'. -/
def setGoesUptoCard : Claim7 := { stood := { row := setGoesUptoRow, standIns := [], harness := (true, "2588e1768495ec05fbe1604961a4bae2b060f0ea375f103bd9ef41d2234ab714"), looks := false }, kinds := [], alts := [], laidByText := true, laidKinds := [.data], laidTests := true, laidLooks := .later }
def SetGoesUptoCardSaid : Prop := Claim7.holds Tryd.pinned (.plain (OpenSpec.upto setGoesSpec)) setGoesUptoCard

/-- THE SECOND FORM's CARD OF 'kurganlaw02.SetPairs'. -/
def setPairsUptoCard : Claim7 := { stood := { row := setPairsUptoRow, standIns := [], harness := (true, "2588e1768495ec05fbe1604961a4bae2b060f0ea375f103bd9ef41d2234ab714"), looks := false }, kinds := [], alts := [], laidByText := true, laidKinds := [.data], laidTests := true, laidLooks := .later }
def SetPairsUptoCardSaid : Prop := Claim7.holds Tryd.pinned (.plain (OpenSpec.upto setPairsSpec)) setPairsUptoCard

/-- THE SECOND FORM's CARD OF 'kurganlaw02.SetWalks'. -/
def setWalksUptoCard : Claim7 := { stood := { row := setWalksUptoRow, standIns := [], harness := (true, "2588e1768495ec05fbe1604961a4bae2b060f0ea375f103bd9ef41d2234ab714"), looks := false }, kinds := [], alts := [], laidByText := true, laidKinds := [.data], laidTests := true, laidLooks := .later }
def SetWalksUptoCardSaid : Prop := Claim7.holds Tryd.pinned (.plain (OpenSpec.upto setWalksSpec)) setWalksUptoCard
end Rows
end Go.Proofs.YtphpbdnmdhlnoaaDoor
