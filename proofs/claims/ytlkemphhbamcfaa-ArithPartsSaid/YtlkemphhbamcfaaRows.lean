/-
  No cell of these rows narrows 'for every input' (looked for: loops, veiled, ifaces, maps, wideKeys, modest, calm, conditions, laid).
  DERIVED. THE GIVEN ROWS OF THIS SEAT. 12 by the template 'for every input the law returns true; each argument reads behind the call as it read before'; 0 by the template 'total and deterministic' (their statements: YtlkemphhbamcfaaTotals.lean).
  GIVEN WITH THE SEED: the statements are not yours to turn. If you find one false, say at which input.
  Laid BY PROGRAM, IN A SANDBOX (cutbox-rows.mjs): the forced cells as the released guide's own fill.sh prints them over the translation ecdc6a4d5d6d0ce3… (all of the seat's roots in one cut). By AI agents, Wed Nov 11 2026. No macro, syntax, notation, axiom, sorry.
-/
import Derived.Test.YtlkemphhbamcfaaChecked
import GoSem.Claim
import GoSem.ClaimJoined
import GoSem.ClaimMapViews
import Derived.JoinedTies
import Derived.KernelRfl
namespace Go.Proofs.Ytlkemphhbamcfaa
/- THE CELL 'sum', in the pinned program and in every row, IS THE sha256 OF THE DUMP (.gsa) THAT YtlkemphhbamcfaaProg.lean LOADS. Nothing in Lean hashes anything: it is a label: what it is worth is what the hold of that sum in a sandbox is worth. -/
noncomputable def Try.pinned : Pinned := { name := "ytlkemphhbamcfaa", sum := "ecdc6a4d5d6d0ce3e5d5c48237b4a16fac8fdd6dc23b2063e755d92432a692ac", checked := Try.checked }
namespace Rows
def none {H : Type} : Left H := { results := [], args := [] }

/-- 'kurganlaw07.GenDraws': WHATEVER THE INPUT: true; the input reads as it did. -/
def genDrawsSpec : ChangeSpec := { name := "genDraws", fn := fun _ => fun
  | [d1, d2] => { results := [.lit (.bool true)], args := [d1, d2] }
  | _ => none }
def genDrawsRow : OpenClaim := { program := "ytlkemphhbamcfaa", sum := "ecdc6a4d5d6d0ce3e5d5c48237b4a16fac8fdd6dc23b2063e755d92432a692ac", func := "kurgan/kurganlaw07.GenDraws", spec := "genDraws", apart := false }
def GenDrawsSaid : Prop := genDrawsRow.holds Try.pinned (OpenSpec.ofChange genDrawsSpec)

/-- ITS FALSE NEIGHBOUR: 'it returns false'. Refute it at one input. -/
def genDrawsWrong : ChangeSpec := { name := "genDraws", fn := fun _ => fun
  | [d1, d2] => { results := [.lit (.bool false)], args := [d1, d2] }
  | _ => none }
def GenDrawsWrongFalsely : Prop := genDrawsRow.holds Try.pinned (OpenSpec.ofChange genDrawsWrong)

/-- 'kurganlaw01.ArithDivs': WHATEVER THE INPUT: true; the input reads as it did. -/
def arithDivsSpec : ChangeSpec := { name := "arithDivs", fn := fun _ => fun
  | [d1, d2] => { results := [.lit (.bool true)], args := [d1, d2] }
  | _ => none }
def arithDivsRow : OpenClaim := { program := "ytlkemphhbamcfaa", sum := "ecdc6a4d5d6d0ce3e5d5c48237b4a16fac8fdd6dc23b2063e755d92432a692ac", func := "kurgan/kurganlaw01.ArithDivs", spec := "arithDivs", apart := false }
def ArithDivsSaid : Prop := arithDivsRow.holds Try.pinned (OpenSpec.ofChange arithDivsSpec)

/-- ITS FALSE NEIGHBOUR: 'it returns false'. Refute it at one input. -/
def arithDivsWrong : ChangeSpec := { name := "arithDivs", fn := fun _ => fun
  | [d1, d2] => { results := [.lit (.bool false)], args := [d1, d2] }
  | _ => none }
def ArithDivsWrongFalsely : Prop := arithDivsRow.holds Try.pinned (OpenSpec.ofChange arithDivsWrong)

/-- 'kurganlaw01.ArithGcds': WHATEVER THE INPUT: true; the input reads as it did. -/
def arithGcdsSpec : ChangeSpec := { name := "arithGcds", fn := fun _ => fun
  | [d1, d2] => { results := [.lit (.bool true)], args := [d1, d2] }
  | _ => none }
def arithGcdsRow : OpenClaim := { program := "ytlkemphhbamcfaa", sum := "ecdc6a4d5d6d0ce3e5d5c48237b4a16fac8fdd6dc23b2063e755d92432a692ac", func := "kurgan/kurganlaw01.ArithGcds", spec := "arithGcds", apart := false }
def ArithGcdsSaid : Prop := arithGcdsRow.holds Try.pinned (OpenSpec.ofChange arithGcdsSpec)

/-- ITS FALSE NEIGHBOUR: 'it returns false'. Refute it at one input. -/
def arithGcdsWrong : ChangeSpec := { name := "arithGcds", fn := fun _ => fun
  | [d1, d2] => { results := [.lit (.bool false)], args := [d1, d2] }
  | _ => none }
def ArithGcdsWrongFalsely : Prop := arithGcdsRow.holds Try.pinned (OpenSpec.ofChange arithGcdsWrong)

/-- 'kurganlaw01.ArithUps': WHATEVER THE INPUT: true; the input reads as it did. -/
def arithUpsSpec : ChangeSpec := { name := "arithUps", fn := fun _ => fun
  | [d1, d2] => { results := [.lit (.bool true)], args := [d1, d2] }
  | _ => none }
def arithUpsRow : OpenClaim := { program := "ytlkemphhbamcfaa", sum := "ecdc6a4d5d6d0ce3e5d5c48237b4a16fac8fdd6dc23b2063e755d92432a692ac", func := "kurgan/kurganlaw01.ArithUps", spec := "arithUps", apart := false }
def ArithUpsSaid : Prop := arithUpsRow.holds Try.pinned (OpenSpec.ofChange arithUpsSpec)

/-- ITS FALSE NEIGHBOUR: 'it returns false'. Refute it at one input. -/
def arithUpsWrong : ChangeSpec := { name := "arithUps", fn := fun _ => fun
  | [d1, d2] => { results := [.lit (.bool false)], args := [d1, d2] }
  | _ => none }
def ArithUpsWrongFalsely : Prop := arithUpsRow.holds Try.pinned (OpenSpec.ofChange arithUpsWrong)

/-- 'kurganlaw01.ArithSums': WHATEVER THE INPUT: true; the input reads as it did. -/
def arithSumsSpec : ChangeSpec := { name := "arithSums", fn := fun _ => fun
  | [d] => { results := [.lit (.bool true)], args := [d] }
  | _ => none }
def arithSumsRow : OpenClaim := { program := "ytlkemphhbamcfaa", sum := "ecdc6a4d5d6d0ce3e5d5c48237b4a16fac8fdd6dc23b2063e755d92432a692ac", func := "kurgan/kurganlaw01.ArithSums", spec := "arithSums", inPlace := ["math/bits.Add64"], apart := false }
def ArithSumsSaid : Prop := arithSumsRow.holds Try.pinned (OpenSpec.ofChange arithSumsSpec)

/-- ITS FALSE NEIGHBOUR: 'it returns false'. Refute it at one input. -/
def arithSumsWrong : ChangeSpec := { name := "arithSums", fn := fun _ => fun
  | [d] => { results := [.lit (.bool false)], args := [d] }
  | _ => none }
def ArithSumsWrongFalsely : Prop := arithSumsRow.holds Try.pinned (OpenSpec.ofChange arithSumsWrong)

/-- 'kurganlaw01.ArithAdds': WHATEVER THE INPUT: true; the input reads as it did. -/
def arithAddsSpec : ChangeSpec := { name := "arithAdds", fn := fun _ => fun
  | [d1, d2] => { results := [.lit (.bool true)], args := [d1, d2] }
  | _ => none }
def arithAddsRow : OpenClaim := { program := "ytlkemphhbamcfaa", sum := "ecdc6a4d5d6d0ce3e5d5c48237b4a16fac8fdd6dc23b2063e755d92432a692ac", func := "kurgan/kurganlaw01.ArithAdds", spec := "arithAdds", apart := false }
def ArithAddsSaid : Prop := arithAddsRow.holds Try.pinned (OpenSpec.ofChange arithAddsSpec)

/-- ITS FALSE NEIGHBOUR: 'it returns false'. Refute it at one input. -/
def arithAddsWrong : ChangeSpec := { name := "arithAdds", fn := fun _ => fun
  | [d1, d2] => { results := [.lit (.bool false)], args := [d1, d2] }
  | _ => none }
def ArithAddsWrongFalsely : Prop := arithAddsRow.holds Try.pinned (OpenSpec.ofChange arithAddsWrong)

/-- 'kurganlaw01.ArithCross': WHATEVER THE INPUT: true; the input reads as it did. -/
def arithCrossSpec : ChangeSpec := { name := "arithCross", fn := fun _ => fun
  | [d1, d2, d3] => { results := [.lit (.bool true)], args := [d1, d2, d3] }
  | _ => none }
def arithCrossRow : OpenClaim := { program := "ytlkemphhbamcfaa", sum := "ecdc6a4d5d6d0ce3e5d5c48237b4a16fac8fdd6dc23b2063e755d92432a692ac", func := "kurgan/kurganlaw01.ArithCross", spec := "arithCross", apart := false }
def ArithCrossSaid : Prop := arithCrossRow.holds Try.pinned (OpenSpec.ofChange arithCrossSpec)

/-- ITS FALSE NEIGHBOUR: 'it returns false'. Refute it at one input. -/
def arithCrossWrong : ChangeSpec := { name := "arithCross", fn := fun _ => fun
  | [d1, d2, d3] => { results := [.lit (.bool false)], args := [d1, d2, d3] }
  | _ => none }
def ArithCrossWrongFalsely : Prop := arithCrossRow.holds Try.pinned (OpenSpec.ofChange arithCrossWrong)

/-- 'kurganlaw01.ArithParts': WHATEVER THE INPUT: true; the input reads as it did. -/
def arithPartsSpec : ChangeSpec := { name := "arithParts", fn := fun _ => fun
  | [d1, d2, d3] => { results := [.lit (.bool true)], args := [d1, d2, d3] }
  | _ => none }
def arithPartsRow : OpenClaim := { program := "ytlkemphhbamcfaa", sum := "ecdc6a4d5d6d0ce3e5d5c48237b4a16fac8fdd6dc23b2063e755d92432a692ac", func := "kurgan/kurganlaw01.ArithParts", spec := "arithParts", named := ["math/bits.divideError", "math/bits.overflowError"], apart := false }
def ArithPartsSaid : Prop := arithPartsRow.holds Try.pinned (OpenSpec.ofChange arithPartsSpec)

/-- ITS FALSE NEIGHBOUR: 'it returns false'. Refute it at one input. -/
def arithPartsWrong : ChangeSpec := { name := "arithParts", fn := fun _ => fun
  | [d1, d2, d3] => { results := [.lit (.bool false)], args := [d1, d2, d3] }
  | _ => none }
def ArithPartsWrongFalsely : Prop := arithPartsRow.holds Try.pinned (OpenSpec.ofChange arithPartsWrong)

/-- 'kurganlaw07.GenMakes': WHATEVER THE INPUT: true; the input reads as it did. -/
def genMakesSpec : ChangeSpec := { name := "genMakes", fn := fun _ => fun
  | [d1, d2, d3] => { results := [.lit (.bool true)], args := [d1, d2, d3] }
  | _ => none }
def genMakesRow : OpenClaim := { program := "ytlkemphhbamcfaa", sum := "ecdc6a4d5d6d0ce3e5d5c48237b4a16fac8fdd6dc23b2063e755d92432a692ac", func := "kurgan/kurganlaw07.GenMakes", spec := "genMakes", apart := false }
def GenMakesSaid : Prop := genMakesRow.holds Try.pinned (OpenSpec.ofChange genMakesSpec)

/-- ITS FALSE NEIGHBOUR: 'it returns false'. Refute it at one input. -/
def genMakesWrong : ChangeSpec := { name := "genMakes", fn := fun _ => fun
  | [d1, d2, d3] => { results := [.lit (.bool false)], args := [d1, d2, d3] }
  | _ => none }
def GenMakesWrongFalsely : Prop := genMakesRow.holds Try.pinned (OpenSpec.ofChange genMakesWrong)

/-- 'kurganlaw16.CellPacks': WHATEVER THE INPUT: true; the input reads as it did. -/
def cellPacksSpec : ChangeSpec := { name := "cellPacks", fn := fun _ => fun
  | [d1, d2, d3] => { results := [.lit (.bool true)], args := [d1, d2, d3] }
  | _ => none }
def cellPacksRow : OpenClaim := { program := "ytlkemphhbamcfaa", sum := "ecdc6a4d5d6d0ce3e5d5c48237b4a16fac8fdd6dc23b2063e755d92432a692ac", func := "kurgan/kurganlaw16.CellPacks", spec := "cellPacks", apart := false }
def CellPacksSaid : Prop := cellPacksRow.holds Try.pinned (OpenSpec.ofChange cellPacksSpec)

/-- ITS FALSE NEIGHBOUR: 'it returns false'. Refute it at one input. -/
def cellPacksWrong : ChangeSpec := { name := "cellPacks", fn := fun _ => fun
  | [d1, d2, d3] => { results := [.lit (.bool false)], args := [d1, d2, d3] }
  | _ => none }
def CellPacksWrongFalsely : Prop := cellPacksRow.holds Try.pinned (OpenSpec.ofChange cellPacksWrong)

/-- 'kurganlaw16.CellSizes': WHATEVER THE INPUT: true; the input reads as it did. -/
def cellSizesSpec : ChangeSpec := { name := "cellSizes", fn := fun _ => fun
  | [d] => { results := [.lit (.bool true)], args := [d] }
  | _ => none }
def cellSizesRow : OpenClaim := { program := "ytlkemphhbamcfaa", sum := "ecdc6a4d5d6d0ce3e5d5c48237b4a16fac8fdd6dc23b2063e755d92432a692ac", func := "kurgan/kurganlaw16.CellSizes", spec := "cellSizes", apart := false }
def CellSizesSaid : Prop := cellSizesRow.holds Try.pinned (OpenSpec.ofChange cellSizesSpec)

/-- ITS FALSE NEIGHBOUR: 'it returns false'. Refute it at one input. -/
def cellSizesWrong : ChangeSpec := { name := "cellSizes", fn := fun _ => fun
  | [d] => { results := [.lit (.bool false)], args := [d] }
  | _ => none }
def CellSizesWrongFalsely : Prop := cellSizesRow.holds Try.pinned (OpenSpec.ofChange cellSizesWrong)

/-- 'kurganlaw16.CellJobs': WHATEVER THE INPUT: true; the input reads as it did. -/
def cellJobsSpec : ChangeSpec := { name := "cellJobs", fn := fun _ => fun
  | [d1, d2] => { results := [.lit (.bool true)], args := [d1, d2] }
  | _ => none }
def cellJobsRow : OpenClaim := { program := "ytlkemphhbamcfaa", sum := "ecdc6a4d5d6d0ce3e5d5c48237b4a16fac8fdd6dc23b2063e755d92432a692ac", func := "kurgan/kurganlaw16.CellJobs", spec := "cellJobs", apart := false }
def CellJobsSaid : Prop := cellJobsRow.holds Try.pinned (OpenSpec.ofChange cellJobsSpec)

/-- ITS FALSE NEIGHBOUR: 'it returns false'. Refute it at one input. -/
def cellJobsWrong : ChangeSpec := { name := "cellJobs", fn := fun _ => fun
  | [d1, d2] => { results := [.lit (.bool false)], args := [d1, d2] }
  | _ => none }
def CellJobsWrongFalsely : Prop := cellJobsRow.holds Try.pinned (OpenSpec.ofChange cellJobsWrong)

/- THE SECOND FORM. 'bulk': how many values and letters a reading holds, each counted each time it is reached (what is shared counts as often as it is met; a slice's spare places count too). A statement '..UptoSaid' is the law's where the arguments, and the package variables that the reading takes, are together of bulk at most 1048576: NARROWER than '..Said'. Prove '..Said' where nothing that the law and all that it calls make is longer than what came in: it says more and counts as full. Else prove '..UptoSaid'. A law counts once. -/
mutual
def uptoBulk {H : Type} : DataW H → Nat
  | .lit (.string bytes) => bytes.length + 1
  | .lit _ => 1
  | .nil => 1
  | .ptr d => uptoBulk d + 1
  | .slice elems spare => uptoBulkAll elems + uptoBulkAll spare + 1
  | .agg parts => uptoBulkAll parts + 1
  | .iface _ d => uptoBulk d + 1
  | .map entries => uptoBulkEntries entries + 1
  | .held _ => 1
def uptoBulkAll {H : Type} : List (DataW H) → Nat
  | [] => 0
  | d :: r => uptoBulk d + uptoBulkAll r
def uptoBulkEntries {H : Type} : List (Lit × DataW H) → Nat
  | [] => 0
  | x :: r => uptoBulkEntry x + uptoBulkEntries r
def uptoBulkEntry {H : Type} : Lit × DataW H → Nat
  | (.string bytes, d) => bytes.length + uptoBulk d + 1
  | (_, d) => uptoBulk d + 1
 end
def uptoSmall : (H : Type) → List (DataW H) → Bool := fun _ ds => decide (uptoBulkAll ds ≤ 1048576)
def OpenSpec.upto (s : _root_.Go.ChangeSpec) : _root_.Go.OpenSpec := { _root_.Go.OpenSpec.ofChange s with cond := some uptoSmall }

/-- 'kurganlaw07.GenDraws', WHERE WHAT IT READS IS OF BULK AT MOST 1048576: true; the input reads as it did. -/
def genDrawsUptoRow : OpenClaim := { program := "ytlkemphhbamcfaa", sum := "ecdc6a4d5d6d0ce3e5d5c48237b4a16fac8fdd6dc23b2063e755d92432a692ac", func := "kurgan/kurganlaw07.GenDraws", spec := "genDraws", apart := false, narrowed := true }
def GenDrawsUptoSaid : Prop := genDrawsUptoRow.holds Try.pinned (OpenSpec.upto genDrawsSpec)

/-- 'kurganlaw01.ArithDivs', WHERE WHAT IT READS IS OF BULK AT MOST 1048576: true; the input reads as it did. -/
def arithDivsUptoRow : OpenClaim := { program := "ytlkemphhbamcfaa", sum := "ecdc6a4d5d6d0ce3e5d5c48237b4a16fac8fdd6dc23b2063e755d92432a692ac", func := "kurgan/kurganlaw01.ArithDivs", spec := "arithDivs", apart := false, narrowed := true }
def ArithDivsUptoSaid : Prop := arithDivsUptoRow.holds Try.pinned (OpenSpec.upto arithDivsSpec)

/-- 'kurganlaw01.ArithGcds', WHERE WHAT IT READS IS OF BULK AT MOST 1048576: true; the input reads as it did. -/
def arithGcdsUptoRow : OpenClaim := { program := "ytlkemphhbamcfaa", sum := "ecdc6a4d5d6d0ce3e5d5c48237b4a16fac8fdd6dc23b2063e755d92432a692ac", func := "kurgan/kurganlaw01.ArithGcds", spec := "arithGcds", apart := false, narrowed := true }
def ArithGcdsUptoSaid : Prop := arithGcdsUptoRow.holds Try.pinned (OpenSpec.upto arithGcdsSpec)

/-- 'kurganlaw01.ArithUps', WHERE WHAT IT READS IS OF BULK AT MOST 1048576: true; the input reads as it did. -/
def arithUpsUptoRow : OpenClaim := { program := "ytlkemphhbamcfaa", sum := "ecdc6a4d5d6d0ce3e5d5c48237b4a16fac8fdd6dc23b2063e755d92432a692ac", func := "kurgan/kurganlaw01.ArithUps", spec := "arithUps", apart := false, narrowed := true }
def ArithUpsUptoSaid : Prop := arithUpsUptoRow.holds Try.pinned (OpenSpec.upto arithUpsSpec)

/-- 'kurganlaw01.ArithSums', WHERE WHAT IT READS IS OF BULK AT MOST 1048576: true; the input reads as it did. -/
def arithSumsUptoRow : OpenClaim := { program := "ytlkemphhbamcfaa", sum := "ecdc6a4d5d6d0ce3e5d5c48237b4a16fac8fdd6dc23b2063e755d92432a692ac", func := "kurgan/kurganlaw01.ArithSums", spec := "arithSums", inPlace := ["math/bits.Add64"], apart := false, narrowed := true }
def ArithSumsUptoSaid : Prop := arithSumsUptoRow.holds Try.pinned (OpenSpec.upto arithSumsSpec)

/-- 'kurganlaw01.ArithAdds', WHERE WHAT IT READS IS OF BULK AT MOST 1048576: true; the input reads as it did. -/
def arithAddsUptoRow : OpenClaim := { program := "ytlkemphhbamcfaa", sum := "ecdc6a4d5d6d0ce3e5d5c48237b4a16fac8fdd6dc23b2063e755d92432a692ac", func := "kurgan/kurganlaw01.ArithAdds", spec := "arithAdds", apart := false, narrowed := true }
def ArithAddsUptoSaid : Prop := arithAddsUptoRow.holds Try.pinned (OpenSpec.upto arithAddsSpec)

/-- 'kurganlaw01.ArithCross', WHERE WHAT IT READS IS OF BULK AT MOST 1048576: true; the input reads as it did. -/
def arithCrossUptoRow : OpenClaim := { program := "ytlkemphhbamcfaa", sum := "ecdc6a4d5d6d0ce3e5d5c48237b4a16fac8fdd6dc23b2063e755d92432a692ac", func := "kurgan/kurganlaw01.ArithCross", spec := "arithCross", apart := false, narrowed := true }
def ArithCrossUptoSaid : Prop := arithCrossUptoRow.holds Try.pinned (OpenSpec.upto arithCrossSpec)

/-- 'kurganlaw01.ArithParts', WHERE WHAT IT READS IS OF BULK AT MOST 1048576: true; the input reads as it did. -/
def arithPartsUptoRow : OpenClaim := { program := "ytlkemphhbamcfaa", sum := "ecdc6a4d5d6d0ce3e5d5c48237b4a16fac8fdd6dc23b2063e755d92432a692ac", func := "kurgan/kurganlaw01.ArithParts", spec := "arithParts", named := ["math/bits.divideError", "math/bits.overflowError"], apart := false, narrowed := true }
def ArithPartsUptoSaid : Prop := arithPartsUptoRow.holds Try.pinned (OpenSpec.upto arithPartsSpec)

/-- 'kurganlaw07.GenMakes', WHERE WHAT IT READS IS OF BULK AT MOST 1048576: true; the input reads as it did. -/
def genMakesUptoRow : OpenClaim := { program := "ytlkemphhbamcfaa", sum := "ecdc6a4d5d6d0ce3e5d5c48237b4a16fac8fdd6dc23b2063e755d92432a692ac", func := "kurgan/kurganlaw07.GenMakes", spec := "genMakes", apart := false, narrowed := true }
def GenMakesUptoSaid : Prop := genMakesUptoRow.holds Try.pinned (OpenSpec.upto genMakesSpec)

/-- 'kurganlaw16.CellPacks', WHERE WHAT IT READS IS OF BULK AT MOST 1048576: true; the input reads as it did. -/
def cellPacksUptoRow : OpenClaim := { program := "ytlkemphhbamcfaa", sum := "ecdc6a4d5d6d0ce3e5d5c48237b4a16fac8fdd6dc23b2063e755d92432a692ac", func := "kurgan/kurganlaw16.CellPacks", spec := "cellPacks", apart := false, narrowed := true }
def CellPacksUptoSaid : Prop := cellPacksUptoRow.holds Try.pinned (OpenSpec.upto cellPacksSpec)

/-- 'kurganlaw16.CellSizes', WHERE WHAT IT READS IS OF BULK AT MOST 1048576: true; the input reads as it did. -/
def cellSizesUptoRow : OpenClaim := { program := "ytlkemphhbamcfaa", sum := "ecdc6a4d5d6d0ce3e5d5c48237b4a16fac8fdd6dc23b2063e755d92432a692ac", func := "kurgan/kurganlaw16.CellSizes", spec := "cellSizes", apart := false, narrowed := true }
def CellSizesUptoSaid : Prop := cellSizesUptoRow.holds Try.pinned (OpenSpec.upto cellSizesSpec)

/-- 'kurganlaw16.CellJobs', WHERE WHAT IT READS IS OF BULK AT MOST 1048576: true; the input reads as it did. -/
def cellJobsUptoRow : OpenClaim := { program := "ytlkemphhbamcfaa", sum := "ecdc6a4d5d6d0ce3e5d5c48237b4a16fac8fdd6dc23b2063e755d92432a692ac", func := "kurgan/kurganlaw16.CellJobs", spec := "cellJobs", apart := false, narrowed := true }
def CellJobsUptoSaid : Prop := cellJobsUptoRow.holds Try.pinned (OpenSpec.upto cellJobsSpec)

end Rows
end Go.Proofs.Ytlkemphhbamcfaa
