/-
  NARROWER THAN 'FOR EVERY INPUT', by the rows' own cells (each row's printed sentence says how): LexScans: laid · LexBlanks: laid · LexEnds: laid · LexBounds: laid · DigitReads: laid · DigitWrites: laid · DigitKinds: laid · DigitPlaces: laid · DigitLines: laid.
  DERIVED. THE GIVEN ROWS OF THIS SEAT. 9 by the template 'for every input the law returns true; each argument reads behind the call as it read before'; 0 by the template 'total and deterministic' (their statements: YtdbbigjoloinpaaDoorTotals.lean).
  GIVEN WITH THE SEED: the statements are not yours to turn. If you find one false, say at which input.
  Laid BY PROGRAM, IN A SANDBOX (cutbox-rows.mjs): the forced cells as the released guide's own fill.sh prints them over the translation c3fe770424e29c23… (all of the seat's roots in one cut). By AI agents, Wed Nov 11 2026. No macro, syntax, notation, axiom, sorry.
-/
import Derived.Test.YtdbbigjoloinpaaDoorChecked
import GoSem.PinnedTables
import GoSem.Claim
import GoSem.ClaimJoined
import GoSem.ClaimMapViews
import Derived.JoinedTies
import Derived.KernelRfl
namespace Go.Proofs.YtdbbigjoloinpaaDoor
/- THE CELL 'sum', in the pinned program and in every row, IS THE sha256 OF THE DUMP (.gsa) THAT YtdbbigjoloinpaaDoorProg.lean LOADS. Nothing in Lean hashes anything: it is a label: what it is worth is what the hold of that sum in a sandbox is worth. -/
noncomputable def Tryd.pinned : Pinned := { name := "ytdbbigjoloinpaadoor", sum := "c3fe770424e29c232d27012ea12978baf0d2f97a5c86ca16972c488f97a84919", checked := Tryd.checked }
namespace Rows
def none {H : Type} : Left H := { results := [], args := [] }

/- WHAT THE LISTED PACKAGE-LEVEL VARIABLES READ AS WHEN THE CALL BEGINS. Each datum BY PROGRAM (the guide's laid-datum.mjs) off the statement by which the dump's own 'gosem.cut.vars' lays the variable. In a bare row this is a premise. The card (YtdbbigjoloinpaaDoorCards.lean) ties it to the program's text. -/
def laid_unicode_utf8_acceptRanges {H : Type} : DataW H := .agg [.agg [.lit (.int .u8 128), .lit (.int .u8 191)], .agg [.lit (.int .u8 160), .lit (.int .u8 191)], .agg [.lit (.int .u8 128), .lit (.int .u8 159)], .agg [.lit (.int .u8 144), .lit (.int .u8 191)], .agg [.lit (.int .u8 128), .lit (.int .u8 143)], .agg [.lit (.int .u8 0), .lit (.int .u8 0)], .agg [.lit (.int .u8 0), .lit (.int .u8 0)], .agg [.lit (.int .u8 0), .lit (.int .u8 0)], .agg [.lit (.int .u8 0), .lit (.int .u8 0)], .agg [.lit (.int .u8 0), .lit (.int .u8 0)], .agg [.lit (.int .u8 0), .lit (.int .u8 0)], .agg [.lit (.int .u8 0), .lit (.int .u8 0)], .agg [.lit (.int .u8 0), .lit (.int .u8 0)], .agg [.lit (.int .u8 0), .lit (.int .u8 0)], .agg [.lit (.int .u8 0), .lit (.int .u8 0)], .agg [.lit (.int .u8 0), .lit (.int .u8 0)]]
/-- One of Go's own tables, pinned by name: the form's constant. -/
def laid_unicode_utf8_first : DataW Unit := Go.Pinned.utf8First
def laid_math_bits_deBruijn32tab {H : Type} : DataW H := .agg [.lit (.int .u8 0), .lit (.int .u8 1), .lit (.int .u8 28), .lit (.int .u8 2), .lit (.int .u8 29), .lit (.int .u8 14), .lit (.int .u8 24), .lit (.int .u8 3), .lit (.int .u8 30), .lit (.int .u8 22), .lit (.int .u8 20), .lit (.int .u8 15), .lit (.int .u8 25), .lit (.int .u8 17), .lit (.int .u8 4), .lit (.int .u8 8), .lit (.int .u8 31), .lit (.int .u8 27), .lit (.int .u8 13), .lit (.int .u8 23), .lit (.int .u8 21), .lit (.int .u8 19), .lit (.int .u8 16), .lit (.int .u8 7), .lit (.int .u8 26), .lit (.int .u8 12), .lit (.int .u8 18), .lit (.int .u8 6), .lit (.int .u8 11), .lit (.int .u8 5), .lit (.int .u8 10), .lit (.int .u8 9)]
def laid_math_bits_deBruijn64tab {H : Type} : DataW H := .agg [.lit (.int .u8 0), .lit (.int .u8 1), .lit (.int .u8 56), .lit (.int .u8 2), .lit (.int .u8 57), .lit (.int .u8 49), .lit (.int .u8 28), .lit (.int .u8 3), .lit (.int .u8 61), .lit (.int .u8 58), .lit (.int .u8 42), .lit (.int .u8 50), .lit (.int .u8 38), .lit (.int .u8 29), .lit (.int .u8 17), .lit (.int .u8 4), .lit (.int .u8 62), .lit (.int .u8 47), .lit (.int .u8 59), .lit (.int .u8 36), .lit (.int .u8 45), .lit (.int .u8 43), .lit (.int .u8 51), .lit (.int .u8 22), .lit (.int .u8 53), .lit (.int .u8 39), .lit (.int .u8 33), .lit (.int .u8 30), .lit (.int .u8 24), .lit (.int .u8 18), .lit (.int .u8 12), .lit (.int .u8 5), .lit (.int .u8 63), .lit (.int .u8 55), .lit (.int .u8 48), .lit (.int .u8 27), .lit (.int .u8 60), .lit (.int .u8 41), .lit (.int .u8 37), .lit (.int .u8 16), .lit (.int .u8 46), .lit (.int .u8 35), .lit (.int .u8 44), .lit (.int .u8 21), .lit (.int .u8 52), .lit (.int .u8 32), .lit (.int .u8 23), .lit (.int .u8 11), .lit (.int .u8 54), .lit (.int .u8 26), .lit (.int .u8 40), .lit (.int .u8 15), .lit (.int .u8 34), .lit (.int .u8 20), .lit (.int .u8 31), .lit (.int .u8 10), .lit (.int .u8 25), .lit (.int .u8 14), .lit (.int .u8 19), .lit (.int .u8 9), .lit (.int .u8 13), .lit (.int .u8 8), .lit (.int .u8 7), .lit (.int .u8 6)]
def laid_internal_strconv_uint64pow10 {H : Type} : DataW H := .agg [.lit (.int .u64 1), .lit (.int .u64 10), .lit (.int .u64 100), .lit (.int .u64 1000), .lit (.int .u64 10000), .lit (.int .u64 100000), .lit (.int .u64 1000000), .lit (.int .u64 10000000), .lit (.int .u64 100000000), .lit (.int .u64 1000000000), .lit (.int .u64 10000000000), .lit (.int .u64 100000000000), .lit (.int .u64 1000000000000), .lit (.int .u64 10000000000000), .lit (.int .u64 100000000000000), .lit (.int .u64 1000000000000000), .lit (.int .u64 10000000000000000), .lit (.int .u64 100000000000000000), .lit (.int .u64 1000000000000000000), .lit (.int .u64 10000000000000000000)]

/-- 'kurganlaw04.LexScans': WHATEVER THE INPUT: true; the input reads as it did. -/
def lexScansSpec : ChangeSpec := { name := "lexScans", fn := fun _ => fun
  | [d] => { results := [.lit (.bool true)], args := [d] }
  | _ => none }
def lexScansRow : OpenClaim := { program := "ytdbbigjoloinpaadoor", sum := "c3fe770424e29c232d27012ea12978baf0d2f97a5c86ca16972c488f97a84919", func := "kurgan/kurganlaw04.LexScans", spec := "lexScans", inPlace := ["internal/bytealg.IndexByteString"], named := ["unicode/utf8.first", "unicode/utf8.acceptRanges"], apart := false, laid := [("unicode/utf8.acceptRanges", laid_unicode_utf8_acceptRanges), ("unicode/utf8.first", laid_unicode_utf8_first)] }
def LexScansSaid : Prop := lexScansRow.holds Tryd.pinned (OpenSpec.ofChange lexScansSpec)

/-- ITS FALSE NEIGHBOUR: 'it returns false'. Refute it at one input. -/
def lexScansWrong : ChangeSpec := { name := "lexScans", fn := fun _ => fun
  | [d] => { results := [.lit (.bool false)], args := [d] }
  | _ => none }
def LexScansWrongFalsely : Prop := lexScansRow.holds Tryd.pinned (OpenSpec.ofChange lexScansWrong)

/-- 'kurganlaw04.LexBlanks': WHATEVER THE INPUT: true; the input reads as it did. -/
def lexBlanksSpec : ChangeSpec := { name := "lexBlanks", fn := fun _ => fun
  | [d1, d2] => { results := [.lit (.bool true)], args := [d1, d2] }
  | _ => none }
def lexBlanksRow : OpenClaim := { program := "ytdbbigjoloinpaadoor", sum := "c3fe770424e29c232d27012ea12978baf0d2f97a5c86ca16972c488f97a84919", func := "kurgan/kurganlaw04.LexBlanks", spec := "lexBlanks", inPlace := ["internal/bytealg.IndexByteString"], named := ["unicode/utf8.first", "unicode/utf8.acceptRanges"], apart := false, laid := [("unicode/utf8.acceptRanges", laid_unicode_utf8_acceptRanges), ("unicode/utf8.first", laid_unicode_utf8_first)] }
def LexBlanksSaid : Prop := lexBlanksRow.holds Tryd.pinned (OpenSpec.ofChange lexBlanksSpec)

/-- ITS FALSE NEIGHBOUR: 'it returns false'. Refute it at one input. -/
def lexBlanksWrong : ChangeSpec := { name := "lexBlanks", fn := fun _ => fun
  | [d1, d2] => { results := [.lit (.bool false)], args := [d1, d2] }
  | _ => none }
def LexBlanksWrongFalsely : Prop := lexBlanksRow.holds Tryd.pinned (OpenSpec.ofChange lexBlanksWrong)

/-- 'kurganlaw04.LexEnds': WHATEVER THE INPUT: true; the input reads as it did. -/
def lexEndsSpec : ChangeSpec := { name := "lexEnds", fn := fun _ => fun
  | [d] => { results := [.lit (.bool true)], args := [d] }
  | _ => none }
def lexEndsRow : OpenClaim := { program := "ytdbbigjoloinpaadoor", sum := "c3fe770424e29c232d27012ea12978baf0d2f97a5c86ca16972c488f97a84919", func := "kurgan/kurganlaw04.LexEnds", spec := "lexEnds", inPlace := ["internal/bytealg.IndexByteString"], named := ["unicode/utf8.first", "unicode/utf8.acceptRanges"], apart := false, laid := [("unicode/utf8.acceptRanges", laid_unicode_utf8_acceptRanges), ("unicode/utf8.first", laid_unicode_utf8_first)] }
def LexEndsSaid : Prop := lexEndsRow.holds Tryd.pinned (OpenSpec.ofChange lexEndsSpec)

/-- ITS FALSE NEIGHBOUR: 'it returns false'. Refute it at one input. -/
def lexEndsWrong : ChangeSpec := { name := "lexEnds", fn := fun _ => fun
  | [d] => { results := [.lit (.bool false)], args := [d] }
  | _ => none }
def LexEndsWrongFalsely : Prop := lexEndsRow.holds Tryd.pinned (OpenSpec.ofChange lexEndsWrong)

/-- 'kurganlaw04.LexBounds': WHATEVER THE INPUT: true; the input reads as it did. -/
def lexBoundsSpec : ChangeSpec := { name := "lexBounds", fn := fun _ => fun
  | [d1, d2, d3] => { results := [.lit (.bool true)], args := [d1, d2, d3] }
  | _ => none }
def lexBoundsRow : OpenClaim := { program := "ytdbbigjoloinpaadoor", sum := "c3fe770424e29c232d27012ea12978baf0d2f97a5c86ca16972c488f97a84919", func := "kurgan/kurganlaw04.LexBounds", spec := "lexBounds", inPlace := ["internal/bytealg.IndexByteString"], named := ["unicode/utf8.first", "unicode/utf8.acceptRanges"], apart := false, laid := [("unicode/utf8.acceptRanges", laid_unicode_utf8_acceptRanges), ("unicode/utf8.first", laid_unicode_utf8_first)] }
def LexBoundsSaid : Prop := lexBoundsRow.holds Tryd.pinned (OpenSpec.ofChange lexBoundsSpec)

/-- ITS FALSE NEIGHBOUR: 'it returns false'. Refute it at one input. -/
def lexBoundsWrong : ChangeSpec := { name := "lexBounds", fn := fun _ => fun
  | [d1, d2, d3] => { results := [.lit (.bool false)], args := [d1, d2, d3] }
  | _ => none }
def LexBoundsWrongFalsely : Prop := lexBoundsRow.holds Tryd.pinned (OpenSpec.ofChange lexBoundsWrong)

/-- 'kurganlaw03.DigitReads': WHATEVER THE INPUT: true; the input reads as it did. -/
def digitReadsSpec : ChangeSpec := { name := "digitReads", fn := fun _ => fun
  | [d1, d2] => { results := [.lit (.bool true)], args := [d1, d2] }
  | _ => none }
def digitReadsRow : OpenClaim := { program := "ytdbbigjoloinpaadoor", sum := "c3fe770424e29c232d27012ea12978baf0d2f97a5c86ca16972c488f97a84919", func := "kurgan/kurganlaw03.DigitReads", spec := "digitReads", named := ["internal/strconv.uint64pow10", "math/bits.deBruijn32tab", "math/bits.deBruijn64tab"], apart := false, laid := [("math/bits.deBruijn32tab", laid_math_bits_deBruijn32tab), ("math/bits.deBruijn64tab", laid_math_bits_deBruijn64tab), ("internal/strconv.uint64pow10", laid_internal_strconv_uint64pow10)] }
def DigitReadsSaid : Prop := digitReadsRow.holds Tryd.pinned (OpenSpec.ofChange digitReadsSpec)

/-- ITS FALSE NEIGHBOUR: 'it returns false'. Refute it at one input. -/
def digitReadsWrong : ChangeSpec := { name := "digitReads", fn := fun _ => fun
  | [d1, d2] => { results := [.lit (.bool false)], args := [d1, d2] }
  | _ => none }
def DigitReadsWrongFalsely : Prop := digitReadsRow.holds Tryd.pinned (OpenSpec.ofChange digitReadsWrong)

/-- 'kurganlaw03.DigitWrites': WHATEVER THE INPUT: true; the input reads as it did. -/
def digitWritesSpec : ChangeSpec := { name := "digitWrites", fn := fun _ => fun
  | [d1, d2] => { results := [.lit (.bool true)], args := [d1, d2] }
  | _ => none }
def digitWritesRow : OpenClaim := { program := "ytdbbigjoloinpaadoor", sum := "c3fe770424e29c232d27012ea12978baf0d2f97a5c86ca16972c488f97a84919", func := "kurgan/kurganlaw03.DigitWrites", spec := "digitWrites", named := ["internal/strconv.uint64pow10", "math/bits.deBruijn32tab", "math/bits.deBruijn64tab"], apart := false, laid := [("math/bits.deBruijn32tab", laid_math_bits_deBruijn32tab), ("math/bits.deBruijn64tab", laid_math_bits_deBruijn64tab), ("internal/strconv.uint64pow10", laid_internal_strconv_uint64pow10)] }
def DigitWritesSaid : Prop := digitWritesRow.holds Tryd.pinned (OpenSpec.ofChange digitWritesSpec)

/-- ITS FALSE NEIGHBOUR: 'it returns false'. Refute it at one input. -/
def digitWritesWrong : ChangeSpec := { name := "digitWrites", fn := fun _ => fun
  | [d1, d2] => { results := [.lit (.bool false)], args := [d1, d2] }
  | _ => none }
def DigitWritesWrongFalsely : Prop := digitWritesRow.holds Tryd.pinned (OpenSpec.ofChange digitWritesWrong)

/-- 'kurganlaw03.DigitKinds': WHATEVER THE INPUT: true; the input reads as it did. -/
def digitKindsSpec : ChangeSpec := { name := "digitKinds", fn := fun _ => fun
  | [d] => { results := [.lit (.bool true)], args := [d] }
  | _ => none }
def digitKindsRow : OpenClaim := { program := "ytdbbigjoloinpaadoor", sum := "c3fe770424e29c232d27012ea12978baf0d2f97a5c86ca16972c488f97a84919", func := "kurgan/kurganlaw03.DigitKinds", spec := "digitKinds", named := ["internal/strconv.uint64pow10", "math/bits.deBruijn32tab", "math/bits.deBruijn64tab"], apart := false, laid := [("math/bits.deBruijn32tab", laid_math_bits_deBruijn32tab), ("math/bits.deBruijn64tab", laid_math_bits_deBruijn64tab), ("internal/strconv.uint64pow10", laid_internal_strconv_uint64pow10)] }
def DigitKindsSaid : Prop := digitKindsRow.holds Tryd.pinned (OpenSpec.ofChange digitKindsSpec)

/-- ITS FALSE NEIGHBOUR: 'it returns false'. Refute it at one input. -/
def digitKindsWrong : ChangeSpec := { name := "digitKinds", fn := fun _ => fun
  | [d] => { results := [.lit (.bool false)], args := [d] }
  | _ => none }
def DigitKindsWrongFalsely : Prop := digitKindsRow.holds Tryd.pinned (OpenSpec.ofChange digitKindsWrong)

/-- 'kurganlaw03.DigitPlaces': WHATEVER THE INPUT: true; the input reads as it did. -/
def digitPlacesSpec : ChangeSpec := { name := "digitPlaces", fn := fun _ => fun
  | [d1, d2] => { results := [.lit (.bool true)], args := [d1, d2] }
  | _ => none }
def digitPlacesRow : OpenClaim := { program := "ytdbbigjoloinpaadoor", sum := "c3fe770424e29c232d27012ea12978baf0d2f97a5c86ca16972c488f97a84919", func := "kurgan/kurganlaw03.DigitPlaces", spec := "digitPlaces", named := ["internal/strconv.uint64pow10", "math/bits.deBruijn32tab", "math/bits.deBruijn64tab"], apart := false, laid := [("math/bits.deBruijn32tab", laid_math_bits_deBruijn32tab), ("math/bits.deBruijn64tab", laid_math_bits_deBruijn64tab), ("internal/strconv.uint64pow10", laid_internal_strconv_uint64pow10)] }
def DigitPlacesSaid : Prop := digitPlacesRow.holds Tryd.pinned (OpenSpec.ofChange digitPlacesSpec)

/-- ITS FALSE NEIGHBOUR: 'it returns false'. Refute it at one input. -/
def digitPlacesWrong : ChangeSpec := { name := "digitPlaces", fn := fun _ => fun
  | [d1, d2] => { results := [.lit (.bool false)], args := [d1, d2] }
  | _ => none }
def DigitPlacesWrongFalsely : Prop := digitPlacesRow.holds Tryd.pinned (OpenSpec.ofChange digitPlacesWrong)

/-- 'kurganlaw03.DigitLines': WHATEVER THE INPUT: true; the input reads as it did. -/
def digitLinesSpec : ChangeSpec := { name := "digitLines", fn := fun _ => fun
  | [d] => { results := [.lit (.bool true)], args := [d] }
  | _ => none }
def digitLinesRow : OpenClaim := { program := "ytdbbigjoloinpaadoor", sum := "c3fe770424e29c232d27012ea12978baf0d2f97a5c86ca16972c488f97a84919", func := "kurgan/kurganlaw03.DigitLines", spec := "digitLines", named := ["internal/strconv.uint64pow10", "math/bits.deBruijn32tab", "math/bits.deBruijn64tab"], apart := false, laid := [("math/bits.deBruijn32tab", laid_math_bits_deBruijn32tab), ("math/bits.deBruijn64tab", laid_math_bits_deBruijn64tab), ("internal/strconv.uint64pow10", laid_internal_strconv_uint64pow10)] }
def DigitLinesSaid : Prop := digitLinesRow.holds Tryd.pinned (OpenSpec.ofChange digitLinesSpec)

/-- ITS FALSE NEIGHBOUR: 'it returns false'. Refute it at one input. -/
def digitLinesWrong : ChangeSpec := { name := "digitLines", fn := fun _ => fun
  | [d] => { results := [.lit (.bool false)], args := [d] }
  | _ => none }
def DigitLinesWrongFalsely : Prop := digitLinesRow.holds Tryd.pinned (OpenSpec.ofChange digitLinesWrong)

/- THE SECOND FORM. 'bulk': how many values and letters a reading holds, each counted each time it is reached (what is shared counts as often as it is met; a slice's spare places count too). A statement '..UptoSaid' is the law's where the arguments, and the package variables that the reading takes, are together of bulk at most 1048576: NARROWER than '..Said'. Prove '..Said' where nothing that the law and all that it calls make is longer than what came in: it says more and counts as full. Else prove '..UptoSaid'. A law counts once. -/
mutual
def uptoBulk {H : Type} : DataW H → Nat
  | .lit (.string bytes) => bytes.length + 1
  | .lit _ => 1
  | .nil => 1
  | .ptr d => uptoBulk d + 1
  | .slice elems spare => uptoBulkAll elems + uptoBulkAll spare + 1
  | .agg parts => uptoBulkAll parts + 1
  | .iface _ d => uptoBulk d + 1
  | .map entries => uptoBulkEntries entries + 1
  | .held _ => 1
def uptoBulkAll {H : Type} : List (DataW H) → Nat
  | [] => 0
  | d :: r => uptoBulk d + uptoBulkAll r
def uptoBulkEntries {H : Type} : List (Lit × DataW H) → Nat
  | [] => 0
  | x :: r => uptoBulkEntry x + uptoBulkEntries r
def uptoBulkEntry {H : Type} : Lit × DataW H → Nat
  | (.string bytes, d) => bytes.length + uptoBulk d + 1
  | (_, d) => uptoBulk d + 1
 end
def uptoSmall : (H : Type) → List (DataW H) → Bool := fun _ ds => decide (uptoBulkAll ds ≤ 1048576)
def OpenSpec.upto (s : _root_.Go.ChangeSpec) : _root_.Go.OpenSpec := { _root_.Go.OpenSpec.ofChange s with cond := some uptoSmall }

/-- 'kurganlaw04.LexScans', WHERE WHAT IT READS IS OF BULK AT MOST 1048576: true; the input reads as it did. -/
def lexScansUptoRow : OpenClaim := { program := "ytdbbigjoloinpaadoor", sum := "c3fe770424e29c232d27012ea12978baf0d2f97a5c86ca16972c488f97a84919", func := "kurgan/kurganlaw04.LexScans", spec := "lexScans", inPlace := ["internal/bytealg.IndexByteString"], named := ["unicode/utf8.first", "unicode/utf8.acceptRanges"], apart := false, laid := [("unicode/utf8.acceptRanges", laid_unicode_utf8_acceptRanges), ("unicode/utf8.first", laid_unicode_utf8_first)], narrowed := true }
def LexScansUptoSaid : Prop := lexScansUptoRow.holds Tryd.pinned (OpenSpec.upto lexScansSpec)

/-- 'kurganlaw04.LexBlanks', WHERE WHAT IT READS IS OF BULK AT MOST 1048576: true; the input reads as it did. -/
def lexBlanksUptoRow : OpenClaim := { program := "ytdbbigjoloinpaadoor", sum := "c3fe770424e29c232d27012ea12978baf0d2f97a5c86ca16972c488f97a84919", func := "kurgan/kurganlaw04.LexBlanks", spec := "lexBlanks", inPlace := ["internal/bytealg.IndexByteString"], named := ["unicode/utf8.first", "unicode/utf8.acceptRanges"], apart := false, laid := [("unicode/utf8.acceptRanges", laid_unicode_utf8_acceptRanges), ("unicode/utf8.first", laid_unicode_utf8_first)], narrowed := true }
def LexBlanksUptoSaid : Prop := lexBlanksUptoRow.holds Tryd.pinned (OpenSpec.upto lexBlanksSpec)

/-- 'kurganlaw04.LexEnds', WHERE WHAT IT READS IS OF BULK AT MOST 1048576: true; the input reads as it did. -/
def lexEndsUptoRow : OpenClaim := { program := "ytdbbigjoloinpaadoor", sum := "c3fe770424e29c232d27012ea12978baf0d2f97a5c86ca16972c488f97a84919", func := "kurgan/kurganlaw04.LexEnds", spec := "lexEnds", inPlace := ["internal/bytealg.IndexByteString"], named := ["unicode/utf8.first", "unicode/utf8.acceptRanges"], apart := false, laid := [("unicode/utf8.acceptRanges", laid_unicode_utf8_acceptRanges), ("unicode/utf8.first", laid_unicode_utf8_first)], narrowed := true }
def LexEndsUptoSaid : Prop := lexEndsUptoRow.holds Tryd.pinned (OpenSpec.upto lexEndsSpec)

/-- 'kurganlaw04.LexBounds', WHERE WHAT IT READS IS OF BULK AT MOST 1048576: true; the input reads as it did. -/
def lexBoundsUptoRow : OpenClaim := { program := "ytdbbigjoloinpaadoor", sum := "c3fe770424e29c232d27012ea12978baf0d2f97a5c86ca16972c488f97a84919", func := "kurgan/kurganlaw04.LexBounds", spec := "lexBounds", inPlace := ["internal/bytealg.IndexByteString"], named := ["unicode/utf8.first", "unicode/utf8.acceptRanges"], apart := false, laid := [("unicode/utf8.acceptRanges", laid_unicode_utf8_acceptRanges), ("unicode/utf8.first", laid_unicode_utf8_first)], narrowed := true }
def LexBoundsUptoSaid : Prop := lexBoundsUptoRow.holds Tryd.pinned (OpenSpec.upto lexBoundsSpec)

/-- 'kurganlaw03.DigitReads', WHERE WHAT IT READS IS OF BULK AT MOST 1048576: true; the input reads as it did. -/
def digitReadsUptoRow : OpenClaim := { program := "ytdbbigjoloinpaadoor", sum := "c3fe770424e29c232d27012ea12978baf0d2f97a5c86ca16972c488f97a84919", func := "kurgan/kurganlaw03.DigitReads", spec := "digitReads", named := ["internal/strconv.uint64pow10", "math/bits.deBruijn32tab", "math/bits.deBruijn64tab"], apart := false, laid := [("math/bits.deBruijn32tab", laid_math_bits_deBruijn32tab), ("math/bits.deBruijn64tab", laid_math_bits_deBruijn64tab), ("internal/strconv.uint64pow10", laid_internal_strconv_uint64pow10)], narrowed := true }
def DigitReadsUptoSaid : Prop := digitReadsUptoRow.holds Tryd.pinned (OpenSpec.upto digitReadsSpec)

/-- 'kurganlaw03.DigitWrites', WHERE WHAT IT READS IS OF BULK AT MOST 1048576: true; the input reads as it did. -/
def digitWritesUptoRow : OpenClaim := { program := "ytdbbigjoloinpaadoor", sum := "c3fe770424e29c232d27012ea12978baf0d2f97a5c86ca16972c488f97a84919", func := "kurgan/kurganlaw03.DigitWrites", spec := "digitWrites", named := ["internal/strconv.uint64pow10", "math/bits.deBruijn32tab", "math/bits.deBruijn64tab"], apart := false, laid := [("math/bits.deBruijn32tab", laid_math_bits_deBruijn32tab), ("math/bits.deBruijn64tab", laid_math_bits_deBruijn64tab), ("internal/strconv.uint64pow10", laid_internal_strconv_uint64pow10)], narrowed := true }
def DigitWritesUptoSaid : Prop := digitWritesUptoRow.holds Tryd.pinned (OpenSpec.upto digitWritesSpec)

/-- 'kurganlaw03.DigitKinds', WHERE WHAT IT READS IS OF BULK AT MOST 1048576: true; the input reads as it did. -/
def digitKindsUptoRow : OpenClaim := { program := "ytdbbigjoloinpaadoor", sum := "c3fe770424e29c232d27012ea12978baf0d2f97a5c86ca16972c488f97a84919", func := "kurgan/kurganlaw03.DigitKinds", spec := "digitKinds", named := ["internal/strconv.uint64pow10", "math/bits.deBruijn32tab", "math/bits.deBruijn64tab"], apart := false, laid := [("math/bits.deBruijn32tab", laid_math_bits_deBruijn32tab), ("math/bits.deBruijn64tab", laid_math_bits_deBruijn64tab), ("internal/strconv.uint64pow10", laid_internal_strconv_uint64pow10)], narrowed := true }
def DigitKindsUptoSaid : Prop := digitKindsUptoRow.holds Tryd.pinned (OpenSpec.upto digitKindsSpec)

/-- 'kurganlaw03.DigitPlaces', WHERE WHAT IT READS IS OF BULK AT MOST 1048576: true; the input reads as it did. -/
def digitPlacesUptoRow : OpenClaim := { program := "ytdbbigjoloinpaadoor", sum := "c3fe770424e29c232d27012ea12978baf0d2f97a5c86ca16972c488f97a84919", func := "kurgan/kurganlaw03.DigitPlaces", spec := "digitPlaces", named := ["internal/strconv.uint64pow10", "math/bits.deBruijn32tab", "math/bits.deBruijn64tab"], apart := false, laid := [("math/bits.deBruijn32tab", laid_math_bits_deBruijn32tab), ("math/bits.deBruijn64tab", laid_math_bits_deBruijn64tab), ("internal/strconv.uint64pow10", laid_internal_strconv_uint64pow10)], narrowed := true }
def DigitPlacesUptoSaid : Prop := digitPlacesUptoRow.holds Tryd.pinned (OpenSpec.upto digitPlacesSpec)

/-- 'kurganlaw03.DigitLines', WHERE WHAT IT READS IS OF BULK AT MOST 1048576: true; the input reads as it did. -/
def digitLinesUptoRow : OpenClaim := { program := "ytdbbigjoloinpaadoor", sum := "c3fe770424e29c232d27012ea12978baf0d2f97a5c86ca16972c488f97a84919", func := "kurgan/kurganlaw03.DigitLines", spec := "digitLines", named := ["internal/strconv.uint64pow10", "math/bits.deBruijn32tab", "math/bits.deBruijn64tab"], apart := false, laid := [("math/bits.deBruijn32tab", laid_math_bits_deBruijn32tab), ("math/bits.deBruijn64tab", laid_math_bits_deBruijn64tab), ("internal/strconv.uint64pow10", laid_internal_strconv_uint64pow10)], narrowed := true }
def DigitLinesUptoSaid : Prop := digitLinesUptoRow.holds Tryd.pinned (OpenSpec.upto digitLinesSpec)

end Rows
end Go.Proofs.YtdbbigjoloinpaaDoor
