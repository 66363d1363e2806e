/-
  DERIVED. GIVEN WITH THE SEED: THE CARDS: each row of YtnhnjjlfoajbgaaDoorRows.lean that lists a variable, with what it lists TIED to the program's text (the seventh form; the later family's looks); each row that meets fmt, with fmt's text TOLD by the authors' own Lean function (tested against real Go, not proved from fmt's source: count such statements apart). THE CARD IS WHAT COUNTS. Prove the row's statement (the work); the ties are given (YtnhnjjlfoajbgaaDoorTie.lean); close each card by the builder's one call (the guide's Derived/Test/ToyasCard.lean, 'card_holds'). Laid BY PROGRAM, IN A SANDBOX (cutbox-door.mjs). By AI agents, Wed Nov 11 2026. No macro, syntax, notation, axiom, sorry.
-/
import Derived.Test.YtnhnjjlfoajbgaaDoorRows
import GoSem.ClaimSeven
namespace Go.Proofs.YtnhnjjlfoajbgaaDoor
namespace Rows

/-- THE TIED CARD OF 'kurganlaw30.CertWrites'. -/
def certWritesCard : Claim7 := { stood := { row := certWritesRow, standIns := [], harness := (true, "273122011a299fb8be05ab6eba65b35dd285ef5fa019de33d796eb82f85b6e25"), looks := false }, kinds := [], alts := [], laidByText := true, laidKinds := [.data, .data, .data], laidTests := true, laidLooks := .later }
def CertWritesCardSaid : Prop := Claim7.holds Tryd.pinned (.plain (OpenSpec.ofChange certWritesSpec)) certWritesCard

/-- THE TIED CARD OF 'kurganlaw30.CertReads'. -/
def certReadsCard : Claim7 := { stood := { row := certReadsRow, standIns := [], harness := (true, "273122011a299fb8be05ab6eba65b35dd285ef5fa019de33d796eb82f85b6e25"), looks := false }, kinds := [], alts := [], laidByText := true, laidKinds := [.data, .data, .data], laidTests := true, laidLooks := .later }
def CertReadsCardSaid : Prop := Claim7.holds Tryd.pinned (.plain (OpenSpec.ofChange certReadsSpec)) certReadsCard

/-- THE TIED CARD OF 'kurganlaw30.CertCuts'. -/
def certCutsCard : Claim7 := { stood := { row := certCutsRow, standIns := [], harness := (true, "273122011a299fb8be05ab6eba65b35dd285ef5fa019de33d796eb82f85b6e25"), looks := false }, kinds := [], alts := [], laidByText := true, laidKinds := [.data, .data, .data], laidTests := true, laidLooks := .later }
def CertCutsCardSaid : Prop := Claim7.holds Tryd.pinned (.plain (OpenSpec.ofChange certCutsSpec)) certCutsCard

/-- THE TIED CARD OF 'kurganlaw30.CertLong'. -/
def certLongCard : Claim7 := { stood := { row := certLongRow, standIns := [], harness := (true, "273122011a299fb8be05ab6eba65b35dd285ef5fa019de33d796eb82f85b6e25"), looks := false }, kinds := [], alts := [], laidByText := true, laidKinds := [.data, .data, .data], laidTests := true, laidLooks := .later }
def CertLongCardSaid : Prop := Claim7.holds Tryd.pinned (.plain (OpenSpec.ofChange certLongSpec)) certLongCard

/-- THE SECOND FORM's CARD OF 'kurganlaw30.CertWrites'. -/
def certWritesUptoCard : Claim7 := { stood := { row := certWritesUptoRow, standIns := [], harness := (true, "273122011a299fb8be05ab6eba65b35dd285ef5fa019de33d796eb82f85b6e25"), looks := false }, kinds := [], alts := [], laidByText := true, laidKinds := [.data, .data, .data], laidTests := true, laidLooks := .later }
def CertWritesUptoCardSaid : Prop := Claim7.holds Tryd.pinned (.plain (OpenSpec.upto certWritesSpec)) certWritesUptoCard

/-- THE SECOND FORM's CARD OF 'kurganlaw30.CertReads'. -/
def certReadsUptoCard : Claim7 := { stood := { row := certReadsUptoRow, standIns := [], harness := (true, "273122011a299fb8be05ab6eba65b35dd285ef5fa019de33d796eb82f85b6e25"), looks := false }, kinds := [], alts := [], laidByText := true, laidKinds := [.data, .data, .data], laidTests := true, laidLooks := .later }
def CertReadsUptoCardSaid : Prop := Claim7.holds Tryd.pinned (.plain (OpenSpec.upto certReadsSpec)) certReadsUptoCard

/-- THE SECOND FORM's CARD OF 'kurganlaw30.CertCuts'. -/
def certCutsUptoCard : Claim7 := { stood := { row := certCutsUptoRow, standIns := [], harness := (true, "273122011a299fb8be05ab6eba65b35dd285ef5fa019de33d796eb82f85b6e25"), looks := false }, kinds := [], alts := [], laidByText := true, laidKinds := [.data, .data, .data], laidTests := true, laidLooks := .later }
def CertCutsUptoCardSaid : Prop := Claim7.holds Tryd.pinned (.plain (OpenSpec.upto certCutsSpec)) certCutsUptoCard

/-- THE SECOND FORM's CARD OF 'kurganlaw30.CertLong'. -/
def certLongUptoCard : Claim7 := { stood := { row := certLongUptoRow, standIns := [], harness := (true, "273122011a299fb8be05ab6eba65b35dd285ef5fa019de33d796eb82f85b6e25"), looks := false }, kinds := [], alts := [], laidByText := true, laidKinds := [.data, .data, .data], laidTests := true, laidLooks := .later }
def CertLongUptoCardSaid : Prop := Claim7.holds Tryd.pinned (.plain (OpenSpec.upto certLongSpec)) certLongUptoCard
end Rows
end Go.Proofs.YtnhnjjlfoajbgaaDoor
