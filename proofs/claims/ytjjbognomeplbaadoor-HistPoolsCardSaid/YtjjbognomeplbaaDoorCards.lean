/-
  DERIVED. GIVEN WITH THE SEED: THE CARDS: each row of YtjjbognomeplbaaDoorRows.lean that lists a variable, with what it lists TIED to the program's text (the seventh form; the later family's looks); each row that meets fmt, with fmt's text TOLD by the authors' own Lean function (tested against real Go, not proved from fmt's source: count such statements apart). THE CARD IS WHAT COUNTS. Prove the row's statement (the work); the ties are given (YtjjbognomeplbaaDoorTie.lean); close each card by the builder's one call (the guide's Derived/Test/ToyasCard.lean, 'card_holds'). Laid BY PROGRAM, IN A SANDBOX (cutbox-door.mjs). By AI agents, Wed Nov 11 2026. No macro, syntax, notation, axiom, sorry.
-/
import Derived.Test.YtjjbognomeplbaaDoorRows
import GoSem.ClaimSeven
namespace Go.Proofs.YtjjbognomeplbaaDoor
namespace Rows

/-- THE TIED CARD OF 'kurganlaw21.HistRows'. -/
def histRowsCard : Claim7 := { stood := { row := histRowsRow, standIns := [], harness := (true, "c1b381a91016ea80134f93c5431358946444ebc98eca2dc6f449dcbc4201a135"), looks := false }, kinds := [], alts := [], laidByText := true, laidKinds := [.data], laidTests := true, laidLooks := .later }
def HistRowsCardSaid : Prop := Claim7.holds Tryd.pinned (.plain (OpenSpec.ofChange histRowsSpec)) histRowsCard

/-- THE TIED CARD OF 'kurganlaw21.HistRecords'. -/
def histRecordsCard : Claim7 := { stood := { row := histRecordsRow, standIns := [], harness := (true, "c1b381a91016ea80134f93c5431358946444ebc98eca2dc6f449dcbc4201a135"), looks := false }, kinds := [], alts := [], laidByText := true, laidKinds := [.data], laidTests := true, laidLooks := .later }
def HistRecordsCardSaid : Prop := Claim7.holds Tryd.pinned (.plain (OpenSpec.ofChange histRecordsSpec)) histRecordsCard

/-- THE TIED CARD OF 'kurganlaw21.HistPools'. -/
def histPoolsCard : Claim7 := { stood := { row := histPoolsRow, standIns := [], harness := (true, "c1b381a91016ea80134f93c5431358946444ebc98eca2dc6f449dcbc4201a135"), looks := false }, kinds := [], alts := [], laidByText := true, laidKinds := [.data], laidTests := true, laidLooks := .later }
def HistPoolsCardSaid : Prop := Claim7.holds Tryd.pinned (.plain (OpenSpec.ofChange histPoolsSpec)) histPoolsCard

/-- THE SECOND FORM's CARD OF 'kurganlaw21.HistRows'. -/
def histRowsUptoCard : Claim7 := { stood := { row := histRowsUptoRow, standIns := [], harness := (true, "c1b381a91016ea80134f93c5431358946444ebc98eca2dc6f449dcbc4201a135"), looks := false }, kinds := [], alts := [], laidByText := true, laidKinds := [.data], laidTests := true, laidLooks := .later }
def HistRowsUptoCardSaid : Prop := Claim7.holds Tryd.pinned (.plain (OpenSpec.upto histRowsSpec)) histRowsUptoCard

/-- THE SECOND FORM's CARD OF 'kurganlaw21.HistRecords'. -/
def histRecordsUptoCard : Claim7 := { stood := { row := histRecordsUptoRow, standIns := [], harness := (true, "c1b381a91016ea80134f93c5431358946444ebc98eca2dc6f449dcbc4201a135"), looks := false }, kinds := [], alts := [], laidByText := true, laidKinds := [.data], laidTests := true, laidLooks := .later }
def HistRecordsUptoCardSaid : Prop := Claim7.holds Tryd.pinned (.plain (OpenSpec.upto histRecordsSpec)) histRecordsUptoCard

/-- THE SECOND FORM's CARD OF 'kurganlaw21.HistPools'. -/
def histPoolsUptoCard : Claim7 := { stood := { row := histPoolsUptoRow, standIns := [], harness := (true, "c1b381a91016ea80134f93c5431358946444ebc98eca2dc6f449dcbc4201a135"), looks := false }, kinds := [], alts := [], laidByText := true, laidKinds := [.data], laidTests := true, laidLooks := .later }
def HistPoolsUptoCardSaid : Prop := Claim7.holds Tryd.pinned (.plain (OpenSpec.upto histPoolsSpec)) histPoolsUptoCard
end Rows
end Go.Proofs.YtjjbognomeplbaaDoor
