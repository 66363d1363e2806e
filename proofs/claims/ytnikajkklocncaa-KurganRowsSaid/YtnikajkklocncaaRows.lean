/-
  No cell of these rows narrows 'for every input' (looked for: loops, veiled, ifaces, maps, wideKeys, modest, calm, conditions, laid).
  DERIVED. THE GIVEN ROWS OF THIS SEAT. 10 by the template 'for every input the law returns true; each argument reads behind the call as it read before'; 0 by the template 'total and deterministic' (their statements: YtnikajkklocncaaTotals.lean).
  GIVEN WITH THE SEED: the statements are not yours to turn. If you find one false, say at which input.
  Laid BY PROGRAM, IN A SANDBOX (cutbox-rows.mjs): the forced cells as the released guide's own fill.sh prints them over the translation 077661e256b962cd… (all of the seat's roots in one cut). By AI agents, Wed Nov 11 2026. No macro, syntax, notation, axiom, sorry.
-/
import Derived.Test.YtnikajkklocncaaChecked
import GoSem.Claim
import GoSem.ClaimJoined
import GoSem.ClaimMapViews
import Derived.JoinedTies
import Derived.KernelRfl
namespace Go.Proofs.Ytnikajkklocncaa
/- THE CELL 'sum', in the pinned program and in every row, IS THE sha256 OF THE DUMP (.gsa) THAT YtnikajkklocncaaProg.lean LOADS. Nothing in Lean hashes anything: it is a label: what it is worth is what the hold of that sum in a sandbox is worth. -/
noncomputable def Try.pinned : Pinned := { name := "ytnikajkklocncaa", sum := "077661e256b962cdf4bb05417b629e1855bc6538c6948253904552d9128e3646", checked := Try.checked }
namespace Rows
def none {H : Type} : Left H := { results := [], args := [] }

/-- 'kurganlaw08.ValuePlain': WHATEVER THE INPUT: true; the input reads as it did. -/
def valuePlainSpec : ChangeSpec := { name := "valuePlain", fn := fun _ => fun
  | [d] => { results := [.lit (.bool true)], args := [d] }
  | _ => none }
def valuePlainRow : OpenClaim := { program := "ytnikajkklocncaa", sum := "077661e256b962cdf4bb05417b629e1855bc6538c6948253904552d9128e3646", func := "kurgan/kurganlaw08.ValuePlain", spec := "valuePlain", unfollowed := true, recurses := true, apart := false }
def ValuePlainSaid : Prop := valuePlainRow.holds Try.pinned (OpenSpec.ofChange valuePlainSpec)

/-- ITS FALSE NEIGHBOUR: 'it returns false'. Refute it at one input. -/
def valuePlainWrong : ChangeSpec := { name := "valuePlain", fn := fun _ => fun
  | [d] => { results := [.lit (.bool false)], args := [d] }
  | _ => none }
def ValuePlainWrongFalsely : Prop := valuePlainRow.holds Try.pinned (OpenSpec.ofChange valuePlainWrong)

/-- 'kurganlaw08.ValueTurns': WHATEVER THE INPUT: true; the input reads as it did. -/
def valueTurnsSpec : ChangeSpec := { name := "valueTurns", fn := fun _ => fun
  | [d1, d2] => { results := [.lit (.bool true)], args := [d1, d2] }
  | _ => none }
def valueTurnsRow : OpenClaim := { program := "ytnikajkklocncaa", sum := "077661e256b962cdf4bb05417b629e1855bc6538c6948253904552d9128e3646", func := "kurgan/kurganlaw08.ValueTurns", spec := "valueTurns", unfollowed := true, recurses := true, apart := false }
def ValueTurnsSaid : Prop := valueTurnsRow.holds Try.pinned (OpenSpec.ofChange valueTurnsSpec)

/-- ITS FALSE NEIGHBOUR: 'it returns false'. Refute it at one input. -/
def valueTurnsWrong : ChangeSpec := { name := "valueTurns", fn := fun _ => fun
  | [d1, d2] => { results := [.lit (.bool false)], args := [d1, d2] }
  | _ => none }
def ValueTurnsWrongFalsely : Prop := valueTurnsRow.holds Try.pinned (OpenSpec.ofChange valueTurnsWrong)

/-- 'kurganlaw08.ValueCosts': WHATEVER THE INPUT: true; the input reads as it did. -/
def valueCostsSpec : ChangeSpec := { name := "valueCosts", fn := fun _ => fun
  | [d1, d2] => { results := [.lit (.bool true)], args := [d1, d2] }
  | _ => none }
def valueCostsRow : OpenClaim := { program := "ytnikajkklocncaa", sum := "077661e256b962cdf4bb05417b629e1855bc6538c6948253904552d9128e3646", func := "kurgan/kurganlaw08.ValueCosts", spec := "valueCosts", unfollowed := true, recurses := true, apart := false }
def ValueCostsSaid : Prop := valueCostsRow.holds Try.pinned (OpenSpec.ofChange valueCostsSpec)

/-- ITS FALSE NEIGHBOUR: 'it returns false'. Refute it at one input. -/
def valueCostsWrong : ChangeSpec := { name := "valueCosts", fn := fun _ => fun
  | [d1, d2] => { results := [.lit (.bool false)], args := [d1, d2] }
  | _ => none }
def ValueCostsWrongFalsely : Prop := valueCostsRow.holds Try.pinned (OpenSpec.ofChange valueCostsWrong)

/-- 'kurganlaw08.ValueBounds': WHATEVER THE INPUT: true; the input reads as it did. -/
def valueBoundsSpec : ChangeSpec := { name := "valueBounds", fn := fun _ => fun
  | [d1, d2] => { results := [.lit (.bool true)], args := [d1, d2] }
  | _ => none }
def valueBoundsRow : OpenClaim := { program := "ytnikajkklocncaa", sum := "077661e256b962cdf4bb05417b629e1855bc6538c6948253904552d9128e3646", func := "kurgan/kurganlaw08.ValueBounds", spec := "valueBounds", unfollowed := true, recurses := true, apart := false }
def ValueBoundsSaid : Prop := valueBoundsRow.holds Try.pinned (OpenSpec.ofChange valueBoundsSpec)

/-- ITS FALSE NEIGHBOUR: 'it returns false'. Refute it at one input. -/
def valueBoundsWrong : ChangeSpec := { name := "valueBounds", fn := fun _ => fun
  | [d1, d2] => { results := [.lit (.bool false)], args := [d1, d2] }
  | _ => none }
def ValueBoundsWrongFalsely : Prop := valueBoundsRow.holds Try.pinned (OpenSpec.ofChange valueBoundsWrong)

/-- 'kurganlaw10.GreedyFirsts': WHATEVER THE INPUT: true; the input reads as it did. -/
def greedyFirstsSpec : ChangeSpec := { name := "greedyFirsts", fn := fun _ => fun
  | [d] => { results := [.lit (.bool true)], args := [d] }
  | _ => none }
def greedyFirstsRow : OpenClaim := { program := "ytnikajkklocncaa", sum := "077661e256b962cdf4bb05417b629e1855bc6538c6948253904552d9128e3646", func := "kurgan/kurganlaw10.GreedyFirsts", spec := "greedyFirsts", unfollowed := true, recurses := true, apart := false }
def GreedyFirstsSaid : Prop := greedyFirstsRow.holds Try.pinned (OpenSpec.ofChange greedyFirstsSpec)

/-- ITS FALSE NEIGHBOUR: 'it returns false'. Refute it at one input. -/
def greedyFirstsWrong : ChangeSpec := { name := "greedyFirsts", fn := fun _ => fun
  | [d] => { results := [.lit (.bool false)], args := [d] }
  | _ => none }
def GreedyFirstsWrongFalsely : Prop := greedyFirstsRow.holds Try.pinned (OpenSpec.ofChange greedyFirstsWrong)

/-- 'kurganlaw10.GreedyBetters': WHATEVER THE INPUT: true; the input reads as it did. -/
def greedyBettersSpec : ChangeSpec := { name := "greedyBetters", fn := fun _ => fun
  | [d1, d2] => { results := [.lit (.bool true)], args := [d1, d2] }
  | _ => none }
def greedyBettersRow : OpenClaim := { program := "ytnikajkklocncaa", sum := "077661e256b962cdf4bb05417b629e1855bc6538c6948253904552d9128e3646", func := "kurgan/kurganlaw10.GreedyBetters", spec := "greedyBetters", unfollowed := true, recurses := true, apart := false }
def GreedyBettersSaid : Prop := greedyBettersRow.holds Try.pinned (OpenSpec.ofChange greedyBettersSpec)

/-- ITS FALSE NEIGHBOUR: 'it returns false'. Refute it at one input. -/
def greedyBettersWrong : ChangeSpec := { name := "greedyBetters", fn := fun _ => fun
  | [d1, d2] => { results := [.lit (.bool false)], args := [d1, d2] }
  | _ => none }
def GreedyBettersWrongFalsely : Prop := greedyBettersRow.holds Try.pinned (OpenSpec.ofChange greedyBettersWrong)

/-- 'kurganlaw10.GreedyRests': WHATEVER THE INPUT: true; the input reads as it did. -/
def greedyRestsSpec : ChangeSpec := { name := "greedyRests", fn := fun _ => fun
  | [d1, d2] => { results := [.lit (.bool true)], args := [d1, d2] }
  | _ => none }
def greedyRestsRow : OpenClaim := { program := "ytnikajkklocncaa", sum := "077661e256b962cdf4bb05417b629e1855bc6538c6948253904552d9128e3646", func := "kurgan/kurganlaw10.GreedyRests", spec := "greedyRests", unfollowed := true, recurses := true, apart := false }
def GreedyRestsSaid : Prop := greedyRestsRow.holds Try.pinned (OpenSpec.ofChange greedyRestsSpec)

/-- ITS FALSE NEIGHBOUR: 'it returns false'. Refute it at one input. -/
def greedyRestsWrong : ChangeSpec := { name := "greedyRests", fn := fun _ => fun
  | [d1, d2] => { results := [.lit (.bool false)], args := [d1, d2] }
  | _ => none }
def GreedyRestsWrongFalsely : Prop := greedyRestsRow.holds Try.pinned (OpenSpec.ofChange greedyRestsWrong)

/-- 'kurganlaw10.GreedyStarts': WHATEVER THE INPUT: true; the input reads as it did. -/
def greedyStartsSpec : ChangeSpec := { name := "greedyStarts", fn := fun _ => fun
  | [d] => { results := [.lit (.bool true)], args := [d] }
  | _ => none }
def greedyStartsRow : OpenClaim := { program := "ytnikajkklocncaa", sum := "077661e256b962cdf4bb05417b629e1855bc6538c6948253904552d9128e3646", func := "kurgan/kurganlaw10.GreedyStarts", spec := "greedyStarts", unfollowed := true, recurses := true, apart := false }
def GreedyStartsSaid : Prop := greedyStartsRow.holds Try.pinned (OpenSpec.ofChange greedyStartsSpec)

/-- ITS FALSE NEIGHBOUR: 'it returns false'. Refute it at one input. -/
def greedyStartsWrong : ChangeSpec := { name := "greedyStarts", fn := fun _ => fun
  | [d] => { results := [.lit (.bool false)], args := [d] }
  | _ => none }
def GreedyStartsWrongFalsely : Prop := greedyStartsRow.holds Try.pinned (OpenSpec.ofChange greedyStartsWrong)

/-- 'kurgantop.KurganRows': WHATEVER THE INPUT: true; the input reads as it did. -/
def kurganRowsSpec : ChangeSpec := { name := "kurganRows", fn := fun _ => fun
  | [d1, d2, d3] => { results := [.lit (.bool true)], args := [d1, d2, d3] }
  | _ => none }
def kurganRowsRow : OpenClaim := { program := "ytnikajkklocncaa", sum := "077661e256b962cdf4bb05417b629e1855bc6538c6948253904552d9128e3646", func := "kurgan/kurgantop.KurganRows", spec := "kurganRows", unfollowed := true, recurses := true, apart := false }
def KurganRowsSaid : Prop := kurganRowsRow.holds Try.pinned (OpenSpec.ofChange kurganRowsSpec)

/-- ITS FALSE NEIGHBOUR: 'it returns false'. Refute it at one input. -/
def kurganRowsWrong : ChangeSpec := { name := "kurganRows", fn := fun _ => fun
  | [d1, d2, d3] => { results := [.lit (.bool false)], args := [d1, d2, d3] }
  | _ => none }
def KurganRowsWrongFalsely : Prop := kurganRowsRow.holds Try.pinned (OpenSpec.ofChange kurganRowsWrong)

/-- 'kurgantop.KurganStarts': WHATEVER THE INPUT: true; the input reads as it did. -/
def kurganStartsSpec : ChangeSpec := { name := "kurganStarts", fn := fun _ => fun
  | [d] => { results := [.lit (.bool true)], args := [d] }
  | _ => none }
def kurganStartsRow : OpenClaim := { program := "ytnikajkklocncaa", sum := "077661e256b962cdf4bb05417b629e1855bc6538c6948253904552d9128e3646", func := "kurgan/kurgantop.KurganStarts", spec := "kurganStarts", unfollowed := true, recurses := true, apart := false }
def KurganStartsSaid : Prop := kurganStartsRow.holds Try.pinned (OpenSpec.ofChange kurganStartsSpec)

/-- ITS FALSE NEIGHBOUR: 'it returns false'. Refute it at one input. -/
def kurganStartsWrong : ChangeSpec := { name := "kurganStarts", fn := fun _ => fun
  | [d] => { results := [.lit (.bool false)], args := [d] }
  | _ => none }
def KurganStartsWrongFalsely : Prop := kurganStartsRow.holds Try.pinned (OpenSpec.ofChange kurganStartsWrong)

/- THE SECOND FORM. 'bulk': how many values and letters a reading holds, each counted each time it is reached (what is shared counts as often as it is met; a slice's spare places count too). A statement '..UptoSaid' is the law's where the arguments, and the package variables that the reading takes, are together of bulk at most 1048576: NARROWER than '..Said'. Prove '..Said' where nothing that the law and all that it calls make is longer than what came in: it says more and counts as full. Else prove '..UptoSaid'. A law counts once. -/
mutual
def uptoBulk {H : Type} : DataW H → Nat
  | .lit (.string bytes) => bytes.length + 1
  | .lit _ => 1
  | .nil => 1
  | .ptr d => uptoBulk d + 1
  | .slice elems spare => uptoBulkAll elems + uptoBulkAll spare + 1
  | .agg parts => uptoBulkAll parts + 1
  | .iface _ d => uptoBulk d + 1
  | .map entries => uptoBulkEntries entries + 1
  | .held _ => 1
def uptoBulkAll {H : Type} : List (DataW H) → Nat
  | [] => 0
  | d :: r => uptoBulk d + uptoBulkAll r
def uptoBulkEntries {H : Type} : List (Lit × DataW H) → Nat
  | [] => 0
  | x :: r => uptoBulkEntry x + uptoBulkEntries r
def uptoBulkEntry {H : Type} : Lit × DataW H → Nat
  | (.string bytes, d) => bytes.length + uptoBulk d + 1
  | (_, d) => uptoBulk d + 1
 end
def uptoSmall : (H : Type) → List (DataW H) → Bool := fun _ ds => decide (uptoBulkAll ds ≤ 1048576)
def OpenSpec.upto (s : _root_.Go.ChangeSpec) : _root_.Go.OpenSpec := { _root_.Go.OpenSpec.ofChange s with cond := some uptoSmall }

/-- 'kurganlaw08.ValuePlain', WHERE WHAT IT READS IS OF BULK AT MOST 1048576: true; the input reads as it did. -/
def valuePlainUptoRow : OpenClaim := { program := "ytnikajkklocncaa", sum := "077661e256b962cdf4bb05417b629e1855bc6538c6948253904552d9128e3646", func := "kurgan/kurganlaw08.ValuePlain", spec := "valuePlain", unfollowed := true, recurses := true, apart := false, narrowed := true }
def ValuePlainUptoSaid : Prop := valuePlainUptoRow.holds Try.pinned (OpenSpec.upto valuePlainSpec)

/-- 'kurganlaw08.ValueTurns', WHERE WHAT IT READS IS OF BULK AT MOST 1048576: true; the input reads as it did. -/
def valueTurnsUptoRow : OpenClaim := { program := "ytnikajkklocncaa", sum := "077661e256b962cdf4bb05417b629e1855bc6538c6948253904552d9128e3646", func := "kurgan/kurganlaw08.ValueTurns", spec := "valueTurns", unfollowed := true, recurses := true, apart := false, narrowed := true }
def ValueTurnsUptoSaid : Prop := valueTurnsUptoRow.holds Try.pinned (OpenSpec.upto valueTurnsSpec)

/-- 'kurganlaw08.ValueCosts', WHERE WHAT IT READS IS OF BULK AT MOST 1048576: true; the input reads as it did. -/
def valueCostsUptoRow : OpenClaim := { program := "ytnikajkklocncaa", sum := "077661e256b962cdf4bb05417b629e1855bc6538c6948253904552d9128e3646", func := "kurgan/kurganlaw08.ValueCosts", spec := "valueCosts", unfollowed := true, recurses := true, apart := false, narrowed := true }
def ValueCostsUptoSaid : Prop := valueCostsUptoRow.holds Try.pinned (OpenSpec.upto valueCostsSpec)

/-- 'kurganlaw08.ValueBounds', WHERE WHAT IT READS IS OF BULK AT MOST 1048576: true; the input reads as it did. -/
def valueBoundsUptoRow : OpenClaim := { program := "ytnikajkklocncaa", sum := "077661e256b962cdf4bb05417b629e1855bc6538c6948253904552d9128e3646", func := "kurgan/kurganlaw08.ValueBounds", spec := "valueBounds", unfollowed := true, recurses := true, apart := false, narrowed := true }
def ValueBoundsUptoSaid : Prop := valueBoundsUptoRow.holds Try.pinned (OpenSpec.upto valueBoundsSpec)

/-- 'kurganlaw10.GreedyFirsts', WHERE WHAT IT READS IS OF BULK AT MOST 1048576: true; the input reads as it did. -/
def greedyFirstsUptoRow : OpenClaim := { program := "ytnikajkklocncaa", sum := "077661e256b962cdf4bb05417b629e1855bc6538c6948253904552d9128e3646", func := "kurgan/kurganlaw10.GreedyFirsts", spec := "greedyFirsts", unfollowed := true, recurses := true, apart := false, narrowed := true }
def GreedyFirstsUptoSaid : Prop := greedyFirstsUptoRow.holds Try.pinned (OpenSpec.upto greedyFirstsSpec)

/-- 'kurganlaw10.GreedyBetters', WHERE WHAT IT READS IS OF BULK AT MOST 1048576: true; the input reads as it did. -/
def greedyBettersUptoRow : OpenClaim := { program := "ytnikajkklocncaa", sum := "077661e256b962cdf4bb05417b629e1855bc6538c6948253904552d9128e3646", func := "kurgan/kurganlaw10.GreedyBetters", spec := "greedyBetters", unfollowed := true, recurses := true, apart := false, narrowed := true }
def GreedyBettersUptoSaid : Prop := greedyBettersUptoRow.holds Try.pinned (OpenSpec.upto greedyBettersSpec)

/-- 'kurganlaw10.GreedyRests', WHERE WHAT IT READS IS OF BULK AT MOST 1048576: true; the input reads as it did. -/
def greedyRestsUptoRow : OpenClaim := { program := "ytnikajkklocncaa", sum := "077661e256b962cdf4bb05417b629e1855bc6538c6948253904552d9128e3646", func := "kurgan/kurganlaw10.GreedyRests", spec := "greedyRests", unfollowed := true, recurses := true, apart := false, narrowed := true }
def GreedyRestsUptoSaid : Prop := greedyRestsUptoRow.holds Try.pinned (OpenSpec.upto greedyRestsSpec)

/-- 'kurganlaw10.GreedyStarts', WHERE WHAT IT READS IS OF BULK AT MOST 1048576: true; the input reads as it did. -/
def greedyStartsUptoRow : OpenClaim := { program := "ytnikajkklocncaa", sum := "077661e256b962cdf4bb05417b629e1855bc6538c6948253904552d9128e3646", func := "kurgan/kurganlaw10.GreedyStarts", spec := "greedyStarts", unfollowed := true, recurses := true, apart := false, narrowed := true }
def GreedyStartsUptoSaid : Prop := greedyStartsUptoRow.holds Try.pinned (OpenSpec.upto greedyStartsSpec)

/-- 'kurgantop.KurganRows', WHERE WHAT IT READS IS OF BULK AT MOST 1048576: true; the input reads as it did. -/
def kurganRowsUptoRow : OpenClaim := { program := "ytnikajkklocncaa", sum := "077661e256b962cdf4bb05417b629e1855bc6538c6948253904552d9128e3646", func := "kurgan/kurgantop.KurganRows", spec := "kurganRows", unfollowed := true, recurses := true, apart := false, narrowed := true }
def KurganRowsUptoSaid : Prop := kurganRowsUptoRow.holds Try.pinned (OpenSpec.upto kurganRowsSpec)

/-- 'kurgantop.KurganStarts', WHERE WHAT IT READS IS OF BULK AT MOST 1048576: true; the input reads as it did. -/
def kurganStartsUptoRow : OpenClaim := { program := "ytnikajkklocncaa", sum := "077661e256b962cdf4bb05417b629e1855bc6538c6948253904552d9128e3646", func := "kurgan/kurgantop.KurganStarts", spec := "kurganStarts", unfollowed := true, recurses := true, apart := false, narrowed := true }
def KurganStartsUptoSaid : Prop := kurganStartsUptoRow.holds Try.pinned (OpenSpec.upto kurganStartsSpec)

end Rows
end Go.Proofs.Ytnikajkklocncaa
