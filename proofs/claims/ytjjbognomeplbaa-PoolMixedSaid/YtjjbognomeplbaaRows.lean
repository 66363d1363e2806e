/-
  No cell of these rows narrows 'for every input' (looked for: loops, veiled, ifaces, maps, wideKeys, modest, calm, conditions, laid).
  DERIVED. THE GIVEN ROWS OF THIS SEAT. 10 by the template 'for every input the law returns true; each argument reads behind the call as it read before'; 0 by the template 'total and deterministic' (their statements: YtjjbognomeplbaaTotals.lean).
  GIVEN WITH THE SEED: the statements are not yours to turn. If you find one false, say at which input.
  Laid BY PROGRAM, IN A SANDBOX (cutbox-rows.mjs): the forced cells as the released guide's own fill.sh prints them over the translation 6a70733873f692e3… (all of the seat's roots in one cut). By AI agents, Wed Nov 11 2026. No macro, syntax, notation, axiom, sorry.
-/
import Derived.Test.YtjjbognomeplbaaChecked
import GoSem.Claim
import GoSem.ClaimJoined
import GoSem.ClaimMapViews
import Derived.JoinedTies
import Derived.KernelRfl
namespace Go.Proofs.Ytjjbognomeplbaa
/- THE CELL 'sum', in the pinned program and in every row, IS THE sha256 OF THE DUMP (.gsa) THAT YtjjbognomeplbaaProg.lean LOADS. Nothing in Lean hashes anything: it is a label: what it is worth is what the hold of that sum in a sandbox is worth. -/
noncomputable def Try.pinned : Pinned := { name := "ytjjbognomeplbaa", sum := "6a70733873f692e394dd36bf9565e48655243c551abfe8ce76537669e35d8dff", checked := Try.checked }
namespace Rows
def none {H : Type} : Left H := { results := [], args := [] }

/-- 'kurganlaw23.CountAlone': WHATEVER THE INPUT: true; the input reads as it did. -/
def countAloneSpec : ChangeSpec := { name := "countAlone", fn := fun _ => fun
  | [d] => { results := [.lit (.bool true)], args := [d] }
  | _ => none }
def countAloneRow : OpenClaim := { program := "ytjjbognomeplbaa", sum := "6a70733873f692e394dd36bf9565e48655243c551abfe8ce76537669e35d8dff", func := "kurgan/kurganlaw23.CountAlone", spec := "countAlone", apart := false }
def CountAloneSaid : Prop := countAloneRow.holds Try.pinned (OpenSpec.ofChange countAloneSpec)

/-- ITS FALSE NEIGHBOUR: 'it returns false'. Refute it at one input. -/
def countAloneWrong : ChangeSpec := { name := "countAlone", fn := fun _ => fun
  | [d] => { results := [.lit (.bool false)], args := [d] }
  | _ => none }
def CountAloneWrongFalsely : Prop := countAloneRow.holds Try.pinned (OpenSpec.ofChange countAloneWrong)

/-- 'kurganlaw23.CountNews': WHATEVER THE INPUT: true; the input reads as it did. -/
def countNewsSpec : ChangeSpec := { name := "countNews", fn := fun _ => fun
  | [d1, d2, d3] => { results := [.lit (.bool true)], args := [d1, d2, d3] }
  | _ => none }
def countNewsRow : OpenClaim := { program := "ytjjbognomeplbaa", sum := "6a70733873f692e394dd36bf9565e48655243c551abfe8ce76537669e35d8dff", func := "kurgan/kurganlaw23.CountNews", spec := "countNews", apart := false }
def CountNewsSaid : Prop := countNewsRow.holds Try.pinned (OpenSpec.ofChange countNewsSpec)

/-- ITS FALSE NEIGHBOUR: 'it returns false'. Refute it at one input. -/
def countNewsWrong : ChangeSpec := { name := "countNews", fn := fun _ => fun
  | [d1, d2, d3] => { results := [.lit (.bool false)], args := [d1, d2, d3] }
  | _ => none }
def CountNewsWrongFalsely : Prop := countNewsRow.holds Try.pinned (OpenSpec.ofChange countNewsWrong)

/-- 'kurganlaw23.CountMixed': WHATEVER THE INPUT: true; the input reads as it did. -/
def countMixedSpec : ChangeSpec := { name := "countMixed", fn := fun _ => fun
  | [d1, d2, d3] => { results := [.lit (.bool true)], args := [d1, d2, d3] }
  | _ => none }
def countMixedRow : OpenClaim := { program := "ytjjbognomeplbaa", sum := "6a70733873f692e394dd36bf9565e48655243c551abfe8ce76537669e35d8dff", func := "kurgan/kurganlaw23.CountMixed", spec := "countMixed", apart := false }
def CountMixedSaid : Prop := countMixedRow.holds Try.pinned (OpenSpec.ofChange countMixedSpec)

/-- ITS FALSE NEIGHBOUR: 'it returns false'. Refute it at one input. -/
def countMixedWrong : ChangeSpec := { name := "countMixed", fn := fun _ => fun
  | [d1, d2, d3] => { results := [.lit (.bool false)], args := [d1, d2, d3] }
  | _ => none }
def CountMixedWrongFalsely : Prop := countMixedRow.holds Try.pinned (OpenSpec.ofChange countMixedWrong)

/-- 'kurganlaw22.IncNews': WHATEVER THE INPUT: true; the input reads as it did. -/
def incNewsSpec : ChangeSpec := { name := "incNews", fn := fun _ => fun
  | [d1, d2, d3] => { results := [.lit (.bool true)], args := [d1, d2, d3] }
  | _ => none }
def incNewsRow : OpenClaim := { program := "ytjjbognomeplbaa", sum := "6a70733873f692e394dd36bf9565e48655243c551abfe8ce76537669e35d8dff", func := "kurgan/kurganlaw22.IncNews", spec := "incNews", apart := false }
def IncNewsSaid : Prop := incNewsRow.holds Try.pinned (OpenSpec.ofChange incNewsSpec)

/-- ITS FALSE NEIGHBOUR: 'it returns false'. Refute it at one input. -/
def incNewsWrong : ChangeSpec := { name := "incNews", fn := fun _ => fun
  | [d1, d2, d3] => { results := [.lit (.bool false)], args := [d1, d2, d3] }
  | _ => none }
def IncNewsWrongFalsely : Prop := incNewsRow.holds Try.pinned (OpenSpec.ofChange incNewsWrong)

/-- 'kurganlaw22.IncMixed': WHATEVER THE INPUT: true; the input reads as it did. -/
def incMixedSpec : ChangeSpec := { name := "incMixed", fn := fun _ => fun
  | [d1, d2] => { results := [.lit (.bool true)], args := [d1, d2] }
  | _ => none }
def incMixedRow : OpenClaim := { program := "ytjjbognomeplbaa", sum := "6a70733873f692e394dd36bf9565e48655243c551abfe8ce76537669e35d8dff", func := "kurgan/kurganlaw22.IncMixed", spec := "incMixed", apart := false }
def IncMixedSaid : Prop := incMixedRow.holds Try.pinned (OpenSpec.ofChange incMixedSpec)

/-- ITS FALSE NEIGHBOUR: 'it returns false'. Refute it at one input. -/
def incMixedWrong : ChangeSpec := { name := "incMixed", fn := fun _ => fun
  | [d1, d2] => { results := [.lit (.bool false)], args := [d1, d2] }
  | _ => none }
def IncMixedWrongFalsely : Prop := incMixedRow.holds Try.pinned (OpenSpec.ofChange incMixedWrong)

/-- 'kurganlaw22.IncAlone': WHATEVER THE INPUT: true; the input reads as it did. -/
def incAloneSpec : ChangeSpec := { name := "incAlone", fn := fun _ => fun
  | [d1, d2] => { results := [.lit (.bool true)], args := [d1, d2] }
  | _ => none }
def incAloneRow : OpenClaim := { program := "ytjjbognomeplbaa", sum := "6a70733873f692e394dd36bf9565e48655243c551abfe8ce76537669e35d8dff", func := "kurgan/kurganlaw22.IncAlone", spec := "incAlone", apart := false }
def IncAloneSaid : Prop := incAloneRow.holds Try.pinned (OpenSpec.ofChange incAloneSpec)

/-- ITS FALSE NEIGHBOUR: 'it returns false'. Refute it at one input. -/
def incAloneWrong : ChangeSpec := { name := "incAlone", fn := fun _ => fun
  | [d1, d2] => { results := [.lit (.bool false)], args := [d1, d2] }
  | _ => none }
def IncAloneWrongFalsely : Prop := incAloneRow.holds Try.pinned (OpenSpec.ofChange incAloneWrong)

/-- 'kurganlaw18.PoolKeeps': WHATEVER THE INPUT: true; the input reads as it did. -/
def poolKeepsSpec : ChangeSpec := { name := "poolKeeps", fn := fun _ => fun
  | [d1, d2, d3] => { results := [.lit (.bool true)], args := [d1, d2, d3] }
  | _ => none }
def poolKeepsRow : OpenClaim := { program := "ytjjbognomeplbaa", sum := "6a70733873f692e394dd36bf9565e48655243c551abfe8ce76537669e35d8dff", func := "kurgan/kurganlaw18.PoolKeeps", spec := "poolKeeps", apart := false }
def PoolKeepsSaid : Prop := poolKeepsRow.holds Try.pinned (OpenSpec.ofChange poolKeepsSpec)

/-- ITS FALSE NEIGHBOUR: 'it returns false'. Refute it at one input. -/
def poolKeepsWrong : ChangeSpec := { name := "poolKeeps", fn := fun _ => fun
  | [d1, d2, d3] => { results := [.lit (.bool false)], args := [d1, d2, d3] }
  | _ => none }
def PoolKeepsWrongFalsely : Prop := poolKeepsRow.holds Try.pinned (OpenSpec.ofChange poolKeepsWrong)

/-- 'kurganlaw18.PoolNews': WHATEVER THE INPUT: true; the input reads as it did. -/
def poolNewsSpec : ChangeSpec := { name := "poolNews", fn := fun _ => fun
  | [d1, d2, d3] => { results := [.lit (.bool true)], args := [d1, d2, d3] }
  | _ => none }
def poolNewsRow : OpenClaim := { program := "ytjjbognomeplbaa", sum := "6a70733873f692e394dd36bf9565e48655243c551abfe8ce76537669e35d8dff", func := "kurgan/kurganlaw18.PoolNews", spec := "poolNews", apart := false }
def PoolNewsSaid : Prop := poolNewsRow.holds Try.pinned (OpenSpec.ofChange poolNewsSpec)

/-- ITS FALSE NEIGHBOUR: 'it returns false'. Refute it at one input. -/
def poolNewsWrong : ChangeSpec := { name := "poolNews", fn := fun _ => fun
  | [d1, d2, d3] => { results := [.lit (.bool false)], args := [d1, d2, d3] }
  | _ => none }
def PoolNewsWrongFalsely : Prop := poolNewsRow.holds Try.pinned (OpenSpec.ofChange poolNewsWrong)

/-- 'kurganlaw18.PoolAlone': WHATEVER THE INPUT: true; the input reads as it did. -/
def poolAloneSpec : ChangeSpec := { name := "poolAlone", fn := fun _ => fun
  | [d1, d2] => { results := [.lit (.bool true)], args := [d1, d2] }
  | _ => none }
def poolAloneRow : OpenClaim := { program := "ytjjbognomeplbaa", sum := "6a70733873f692e394dd36bf9565e48655243c551abfe8ce76537669e35d8dff", func := "kurgan/kurganlaw18.PoolAlone", spec := "poolAlone", apart := false }
def PoolAloneSaid : Prop := poolAloneRow.holds Try.pinned (OpenSpec.ofChange poolAloneSpec)

/-- ITS FALSE NEIGHBOUR: 'it returns false'. Refute it at one input. -/
def poolAloneWrong : ChangeSpec := { name := "poolAlone", fn := fun _ => fun
  | [d1, d2] => { results := [.lit (.bool false)], args := [d1, d2] }
  | _ => none }
def PoolAloneWrongFalsely : Prop := poolAloneRow.holds Try.pinned (OpenSpec.ofChange poolAloneWrong)

/-- 'kurganlaw18.PoolMixed': WHATEVER THE INPUT: true; the input reads as it did. -/
def poolMixedSpec : ChangeSpec := { name := "poolMixed", fn := fun _ => fun
  | [d1, d2] => { results := [.lit (.bool true)], args := [d1, d2] }
  | _ => none }
def poolMixedRow : OpenClaim := { program := "ytjjbognomeplbaa", sum := "6a70733873f692e394dd36bf9565e48655243c551abfe8ce76537669e35d8dff", func := "kurgan/kurganlaw18.PoolMixed", spec := "poolMixed", apart := false }
def PoolMixedSaid : Prop := poolMixedRow.holds Try.pinned (OpenSpec.ofChange poolMixedSpec)

/-- ITS FALSE NEIGHBOUR: 'it returns false'. Refute it at one input. -/
def poolMixedWrong : ChangeSpec := { name := "poolMixed", fn := fun _ => fun
  | [d1, d2] => { results := [.lit (.bool false)], args := [d1, d2] }
  | _ => none }
def PoolMixedWrongFalsely : Prop := poolMixedRow.holds Try.pinned (OpenSpec.ofChange poolMixedWrong)

/- THE SECOND FORM. 'bulk': how many values and letters a reading holds, each counted each time it is reached (what is shared counts as often as it is met; a slice's spare places count too). A statement '..UptoSaid' is the law's where the arguments, and the package variables that the reading takes, are together of bulk at most 1048576: NARROWER than '..Said'. Prove '..Said' where nothing that the law and all that it calls make is longer than what came in: it says more and counts as full. Else prove '..UptoSaid'. A law counts once. -/
mutual
def uptoBulk {H : Type} : DataW H → Nat
  | .lit (.string bytes) => bytes.length + 1
  | .lit _ => 1
  | .nil => 1
  | .ptr d => uptoBulk d + 1
  | .slice elems spare => uptoBulkAll elems + uptoBulkAll spare + 1
  | .agg parts => uptoBulkAll parts + 1
  | .iface _ d => uptoBulk d + 1
  | .map entries => uptoBulkEntries entries + 1
  | .held _ => 1
def uptoBulkAll {H : Type} : List (DataW H) → Nat
  | [] => 0
  | d :: r => uptoBulk d + uptoBulkAll r
def uptoBulkEntries {H : Type} : List (Lit × DataW H) → Nat
  | [] => 0
  | x :: r => uptoBulkEntry x + uptoBulkEntries r
def uptoBulkEntry {H : Type} : Lit × DataW H → Nat
  | (.string bytes, d) => bytes.length + uptoBulk d + 1
  | (_, d) => uptoBulk d + 1
 end
def uptoSmall : (H : Type) → List (DataW H) → Bool := fun _ ds => decide (uptoBulkAll ds ≤ 1048576)
def OpenSpec.upto (s : _root_.Go.ChangeSpec) : _root_.Go.OpenSpec := { _root_.Go.OpenSpec.ofChange s with cond := some uptoSmall }

/-- 'kurganlaw23.CountAlone', WHERE WHAT IT READS IS OF BULK AT MOST 1048576: true; the input reads as it did. -/
def countAloneUptoRow : OpenClaim := { program := "ytjjbognomeplbaa", sum := "6a70733873f692e394dd36bf9565e48655243c551abfe8ce76537669e35d8dff", func := "kurgan/kurganlaw23.CountAlone", spec := "countAlone", apart := false, narrowed := true }
def CountAloneUptoSaid : Prop := countAloneUptoRow.holds Try.pinned (OpenSpec.upto countAloneSpec)

/-- 'kurganlaw23.CountNews', WHERE WHAT IT READS IS OF BULK AT MOST 1048576: true; the input reads as it did. -/
def countNewsUptoRow : OpenClaim := { program := "ytjjbognomeplbaa", sum := "6a70733873f692e394dd36bf9565e48655243c551abfe8ce76537669e35d8dff", func := "kurgan/kurganlaw23.CountNews", spec := "countNews", apart := false, narrowed := true }
def CountNewsUptoSaid : Prop := countNewsUptoRow.holds Try.pinned (OpenSpec.upto countNewsSpec)

/-- 'kurganlaw23.CountMixed', WHERE WHAT IT READS IS OF BULK AT MOST 1048576: true; the input reads as it did. -/
def countMixedUptoRow : OpenClaim := { program := "ytjjbognomeplbaa", sum := "6a70733873f692e394dd36bf9565e48655243c551abfe8ce76537669e35d8dff", func := "kurgan/kurganlaw23.CountMixed", spec := "countMixed", apart := false, narrowed := true }
def CountMixedUptoSaid : Prop := countMixedUptoRow.holds Try.pinned (OpenSpec.upto countMixedSpec)

/-- 'kurganlaw22.IncNews', WHERE WHAT IT READS IS OF BULK AT MOST 1048576: true; the input reads as it did. -/
def incNewsUptoRow : OpenClaim := { program := "ytjjbognomeplbaa", sum := "6a70733873f692e394dd36bf9565e48655243c551abfe8ce76537669e35d8dff", func := "kurgan/kurganlaw22.IncNews", spec := "incNews", apart := false, narrowed := true }
def IncNewsUptoSaid : Prop := incNewsUptoRow.holds Try.pinned (OpenSpec.upto incNewsSpec)

/-- 'kurganlaw22.IncMixed', WHERE WHAT IT READS IS OF BULK AT MOST 1048576: true; the input reads as it did. -/
def incMixedUptoRow : OpenClaim := { program := "ytjjbognomeplbaa", sum := "6a70733873f692e394dd36bf9565e48655243c551abfe8ce76537669e35d8dff", func := "kurgan/kurganlaw22.IncMixed", spec := "incMixed", apart := false, narrowed := true }
def IncMixedUptoSaid : Prop := incMixedUptoRow.holds Try.pinned (OpenSpec.upto incMixedSpec)

/-- 'kurganlaw22.IncAlone', WHERE WHAT IT READS IS OF BULK AT MOST 1048576: true; the input reads as it did. -/
def incAloneUptoRow : OpenClaim := { program := "ytjjbognomeplbaa", sum := "6a70733873f692e394dd36bf9565e48655243c551abfe8ce76537669e35d8dff", func := "kurgan/kurganlaw22.IncAlone", spec := "incAlone", apart := false, narrowed := true }
def IncAloneUptoSaid : Prop := incAloneUptoRow.holds Try.pinned (OpenSpec.upto incAloneSpec)

/-- 'kurganlaw18.PoolKeeps', WHERE WHAT IT READS IS OF BULK AT MOST 1048576: true; the input reads as it did. -/
def poolKeepsUptoRow : OpenClaim := { program := "ytjjbognomeplbaa", sum := "6a70733873f692e394dd36bf9565e48655243c551abfe8ce76537669e35d8dff", func := "kurgan/kurganlaw18.PoolKeeps", spec := "poolKeeps", apart := false, narrowed := true }
def PoolKeepsUptoSaid : Prop := poolKeepsUptoRow.holds Try.pinned (OpenSpec.upto poolKeepsSpec)

/-- 'kurganlaw18.PoolNews', WHERE WHAT IT READS IS OF BULK AT MOST 1048576: true; the input reads as it did. -/
def poolNewsUptoRow : OpenClaim := { program := "ytjjbognomeplbaa", sum := "6a70733873f692e394dd36bf9565e48655243c551abfe8ce76537669e35d8dff", func := "kurgan/kurganlaw18.PoolNews", spec := "poolNews", apart := false, narrowed := true }
def PoolNewsUptoSaid : Prop := poolNewsUptoRow.holds Try.pinned (OpenSpec.upto poolNewsSpec)

/-- 'kurganlaw18.PoolAlone', WHERE WHAT IT READS IS OF BULK AT MOST 1048576: true; the input reads as it did. -/
def poolAloneUptoRow : OpenClaim := { program := "ytjjbognomeplbaa", sum := "6a70733873f692e394dd36bf9565e48655243c551abfe8ce76537669e35d8dff", func := "kurgan/kurganlaw18.PoolAlone", spec := "poolAlone", apart := false, narrowed := true }
def PoolAloneUptoSaid : Prop := poolAloneUptoRow.holds Try.pinned (OpenSpec.upto poolAloneSpec)

/-- 'kurganlaw18.PoolMixed', WHERE WHAT IT READS IS OF BULK AT MOST 1048576: true; the input reads as it did. -/
def poolMixedUptoRow : OpenClaim := { program := "ytjjbognomeplbaa", sum := "6a70733873f692e394dd36bf9565e48655243c551abfe8ce76537669e35d8dff", func := "kurgan/kurganlaw18.PoolMixed", spec := "poolMixed", apart := false, narrowed := true }
def PoolMixedUptoSaid : Prop := poolMixedUptoRow.holds Try.pinned (OpenSpec.upto poolMixedSpec)

end Rows
end Go.Proofs.Ytjjbognomeplbaa
