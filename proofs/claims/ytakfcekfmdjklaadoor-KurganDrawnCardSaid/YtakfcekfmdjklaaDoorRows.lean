/-
  NARROWER THAN 'FOR EVERY INPUT', by the rows' own cells (each row's printed sentence says how): InstChecks: laid · InstWrites: laid · InstNames: laid · InstMirrors: laid · InstCopies: laid · ParseTells: laid · ParseLimits: laid · ParseUppers: laid · ParseBack: laid · ParseCuts: laid · KurganTexts: laid · GenFine: laid · KurganDrawn: laid.
  DERIVED. THE GIVEN ROWS OF THIS SEAT. 13 by the template 'for every input the law returns true; each argument reads behind the call as it read before'; 0 by the template 'total and deterministic' (their statements: YtakfcekfmdjklaaDoorTotals.lean).
  GIVEN WITH THE SEED: the statements are not yours to turn. If you find one false, say at which input.
  Laid BY PROGRAM, IN A SANDBOX (cutbox-rows.mjs): the forced cells as the released guide's own fill.sh prints them over the translation ced4f7a76cbfcd6c… (all of the seat's roots in one cut). By AI agents, Wed Nov 11 2026. No macro, syntax, notation, axiom, sorry.
-/
import Derived.Test.YtakfcekfmdjklaaDoorChecked
import GoSem.PinnedTables
import GoSem.Claim
import GoSem.ClaimJoined
import GoSem.ClaimMapViews
import Derived.JoinedTies
import Derived.KernelRfl
namespace Go.Proofs.YtakfcekfmdjklaaDoor
/- THE CELL 'sum', in the pinned program and in every row, IS THE sha256 OF THE DUMP (.gsa) THAT YtakfcekfmdjklaaDoorProg.lean LOADS. Nothing in Lean hashes anything: it is a label: what it is worth is what the hold of that sum in a sandbox is worth. -/
noncomputable def Tryd.pinned : Pinned := { name := "ytakfcekfmdjklaadoor", sum := "ced4f7a76cbfcd6c3bb0586bbd39ce86d59e3ecf098077a14c512e3a161ff5cc", checked := Tryd.checked }
namespace Rows
def none {H : Type} : Left H := { results := [], args := [] }

/- WHAT THE LISTED PACKAGE-LEVEL VARIABLES READ AS WHEN THE CALL BEGINS. Each datum BY PROGRAM (the guide's laid-datum.mjs) off the statement by which the dump's own 'gosem.cut.vars' lays the variable. In a bare row this is a premise. The card (YtakfcekfmdjklaaDoorCards.lean) ties it to the program's text. -/
def laid_math_bits_deBruijn32tab {H : Type} : DataW H := .agg [.lit (.int .u8 0), .lit (.int .u8 1), .lit (.int .u8 28), .lit (.int .u8 2), .lit (.int .u8 29), .lit (.int .u8 14), .lit (.int .u8 24), .lit (.int .u8 3), .lit (.int .u8 30), .lit (.int .u8 22), .lit (.int .u8 20), .lit (.int .u8 15), .lit (.int .u8 25), .lit (.int .u8 17), .lit (.int .u8 4), .lit (.int .u8 8), .lit (.int .u8 31), .lit (.int .u8 27), .lit (.int .u8 13), .lit (.int .u8 23), .lit (.int .u8 21), .lit (.int .u8 19), .lit (.int .u8 16), .lit (.int .u8 7), .lit (.int .u8 26), .lit (.int .u8 12), .lit (.int .u8 18), .lit (.int .u8 6), .lit (.int .u8 11), .lit (.int .u8 5), .lit (.int .u8 10), .lit (.int .u8 9)]
def laid_math_bits_deBruijn64tab {H : Type} : DataW H := .agg [.lit (.int .u8 0), .lit (.int .u8 1), .lit (.int .u8 56), .lit (.int .u8 2), .lit (.int .u8 57), .lit (.int .u8 49), .lit (.int .u8 28), .lit (.int .u8 3), .lit (.int .u8 61), .lit (.int .u8 58), .lit (.int .u8 42), .lit (.int .u8 50), .lit (.int .u8 38), .lit (.int .u8 29), .lit (.int .u8 17), .lit (.int .u8 4), .lit (.int .u8 62), .lit (.int .u8 47), .lit (.int .u8 59), .lit (.int .u8 36), .lit (.int .u8 45), .lit (.int .u8 43), .lit (.int .u8 51), .lit (.int .u8 22), .lit (.int .u8 53), .lit (.int .u8 39), .lit (.int .u8 33), .lit (.int .u8 30), .lit (.int .u8 24), .lit (.int .u8 18), .lit (.int .u8 12), .lit (.int .u8 5), .lit (.int .u8 63), .lit (.int .u8 55), .lit (.int .u8 48), .lit (.int .u8 27), .lit (.int .u8 60), .lit (.int .u8 41), .lit (.int .u8 37), .lit (.int .u8 16), .lit (.int .u8 46), .lit (.int .u8 35), .lit (.int .u8 44), .lit (.int .u8 21), .lit (.int .u8 52), .lit (.int .u8 32), .lit (.int .u8 23), .lit (.int .u8 11), .lit (.int .u8 54), .lit (.int .u8 26), .lit (.int .u8 40), .lit (.int .u8 15), .lit (.int .u8 34), .lit (.int .u8 20), .lit (.int .u8 31), .lit (.int .u8 10), .lit (.int .u8 25), .lit (.int .u8 14), .lit (.int .u8 19), .lit (.int .u8 9), .lit (.int .u8 13), .lit (.int .u8 8), .lit (.int .u8 7), .lit (.int .u8 6)]
def laid_internal_strconv_uint64pow10 {H : Type} : DataW H := .agg [.lit (.int .u64 1), .lit (.int .u64 10), .lit (.int .u64 100), .lit (.int .u64 1000), .lit (.int .u64 10000), .lit (.int .u64 100000), .lit (.int .u64 1000000), .lit (.int .u64 10000000), .lit (.int .u64 100000000), .lit (.int .u64 1000000000), .lit (.int .u64 10000000000), .lit (.int .u64 100000000000), .lit (.int .u64 1000000000000), .lit (.int .u64 10000000000000), .lit (.int .u64 100000000000000), .lit (.int .u64 1000000000000000), .lit (.int .u64 10000000000000000), .lit (.int .u64 100000000000000000), .lit (.int .u64 1000000000000000000), .lit (.int .u64 10000000000000000000)]
def laid_unicode_utf8_acceptRanges {H : Type} : DataW H := .agg [.agg [.lit (.int .u8 128), .lit (.int .u8 191)], .agg [.lit (.int .u8 160), .lit (.int .u8 191)], .agg [.lit (.int .u8 128), .lit (.int .u8 159)], .agg [.lit (.int .u8 144), .lit (.int .u8 191)], .agg [.lit (.int .u8 128), .lit (.int .u8 143)], .agg [.lit (.int .u8 0), .lit (.int .u8 0)], .agg [.lit (.int .u8 0), .lit (.int .u8 0)], .agg [.lit (.int .u8 0), .lit (.int .u8 0)], .agg [.lit (.int .u8 0), .lit (.int .u8 0)], .agg [.lit (.int .u8 0), .lit (.int .u8 0)], .agg [.lit (.int .u8 0), .lit (.int .u8 0)], .agg [.lit (.int .u8 0), .lit (.int .u8 0)], .agg [.lit (.int .u8 0), .lit (.int .u8 0)], .agg [.lit (.int .u8 0), .lit (.int .u8 0)], .agg [.lit (.int .u8 0), .lit (.int .u8 0)], .agg [.lit (.int .u8 0), .lit (.int .u8 0)]]
/-- One of Go's own tables, pinned by name: the form's constant. -/
def laid_unicode_utf8_first : DataW Unit := Go.Pinned.utf8First

/-- 'kurganlaw05.InstChecks': WHATEVER THE INPUT: true; the input reads as it did. -/
def instChecksSpec : ChangeSpec := { name := "instChecks", fn := fun _ => fun
  | [d] => { results := [.lit (.bool true)], args := [d] }
  | _ => none }
def instChecksRow : OpenClaim := { program := "ytakfcekfmdjklaadoor", sum := "ced4f7a76cbfcd6c3bb0586bbd39ce86d59e3ecf098077a14c512e3a161ff5cc", func := "kurgan/kurganlaw05.InstChecks", spec := "instChecks", inPlace := ["internal/abi.NoEscape", "internal/bytealg.MakeNoZero"], unfollowed := true, recurses := true, named := ["internal/strconv.uint64pow10", "math/bits.deBruijn32tab", "math/bits.deBruijn64tab"], apart := false, laid := [("math/bits.deBruijn32tab", laid_math_bits_deBruijn32tab), ("math/bits.deBruijn64tab", laid_math_bits_deBruijn64tab), ("internal/strconv.uint64pow10", laid_internal_strconv_uint64pow10)] }
def InstChecksSaid : Prop := instChecksRow.holds Tryd.pinned (OpenSpec.ofChange instChecksSpec)

/-- ITS FALSE NEIGHBOUR: 'it returns false'. Refute it at one input. -/
def instChecksWrong : ChangeSpec := { name := "instChecks", fn := fun _ => fun
  | [d] => { results := [.lit (.bool false)], args := [d] }
  | _ => none }
def InstChecksWrongFalsely : Prop := instChecksRow.holds Tryd.pinned (OpenSpec.ofChange instChecksWrong)

/-- 'kurganlaw05.InstWrites': WHATEVER THE INPUT: true; the input reads as it did. -/
def instWritesSpec : ChangeSpec := { name := "instWrites", fn := fun _ => fun
  | [d] => { results := [.lit (.bool true)], args := [d] }
  | _ => none }
def instWritesRow : OpenClaim := { program := "ytakfcekfmdjklaadoor", sum := "ced4f7a76cbfcd6c3bb0586bbd39ce86d59e3ecf098077a14c512e3a161ff5cc", func := "kurgan/kurganlaw05.InstWrites", spec := "instWrites", inPlace := ["internal/abi.NoEscape", "internal/bytealg.MakeNoZero"], unfollowed := true, recurses := true, named := ["internal/strconv.uint64pow10", "math/bits.deBruijn32tab", "math/bits.deBruijn64tab"], apart := false, laid := [("math/bits.deBruijn32tab", laid_math_bits_deBruijn32tab), ("math/bits.deBruijn64tab", laid_math_bits_deBruijn64tab), ("internal/strconv.uint64pow10", laid_internal_strconv_uint64pow10)] }
def InstWritesSaid : Prop := instWritesRow.holds Tryd.pinned (OpenSpec.ofChange instWritesSpec)

/-- ITS FALSE NEIGHBOUR: 'it returns false'. Refute it at one input. -/
def instWritesWrong : ChangeSpec := { name := "instWrites", fn := fun _ => fun
  | [d] => { results := [.lit (.bool false)], args := [d] }
  | _ => none }
def InstWritesWrongFalsely : Prop := instWritesRow.holds Tryd.pinned (OpenSpec.ofChange instWritesWrong)

/-- 'kurganlaw05.InstNames': WHATEVER THE INPUT: true; the input reads as it did. -/
def instNamesSpec : ChangeSpec := { name := "instNames", fn := fun _ => fun
  | [d] => { results := [.lit (.bool true)], args := [d] }
  | _ => none }
def instNamesRow : OpenClaim := { program := "ytakfcekfmdjklaadoor", sum := "ced4f7a76cbfcd6c3bb0586bbd39ce86d59e3ecf098077a14c512e3a161ff5cc", func := "kurgan/kurganlaw05.InstNames", spec := "instNames", inPlace := ["internal/abi.NoEscape", "internal/bytealg.MakeNoZero"], unfollowed := true, recurses := true, named := ["internal/strconv.uint64pow10", "math/bits.deBruijn32tab", "math/bits.deBruijn64tab"], apart := false, laid := [("math/bits.deBruijn32tab", laid_math_bits_deBruijn32tab), ("math/bits.deBruijn64tab", laid_math_bits_deBruijn64tab), ("internal/strconv.uint64pow10", laid_internal_strconv_uint64pow10)] }
def InstNamesSaid : Prop := instNamesRow.holds Tryd.pinned (OpenSpec.ofChange instNamesSpec)

/-- ITS FALSE NEIGHBOUR: 'it returns false'. Refute it at one input. -/
def instNamesWrong : ChangeSpec := { name := "instNames", fn := fun _ => fun
  | [d] => { results := [.lit (.bool false)], args := [d] }
  | _ => none }
def InstNamesWrongFalsely : Prop := instNamesRow.holds Tryd.pinned (OpenSpec.ofChange instNamesWrong)

/-- 'kurganlaw05.InstMirrors': WHATEVER THE INPUT: true; the input reads as it did. -/
def instMirrorsSpec : ChangeSpec := { name := "instMirrors", fn := fun _ => fun
  | [d1, d2] => { results := [.lit (.bool true)], args := [d1, d2] }
  | _ => none }
def instMirrorsRow : OpenClaim := { program := "ytakfcekfmdjklaadoor", sum := "ced4f7a76cbfcd6c3bb0586bbd39ce86d59e3ecf098077a14c512e3a161ff5cc", func := "kurgan/kurganlaw05.InstMirrors", spec := "instMirrors", inPlace := ["internal/abi.NoEscape", "internal/bytealg.MakeNoZero"], unfollowed := true, recurses := true, named := ["internal/strconv.uint64pow10", "math/bits.deBruijn32tab", "math/bits.deBruijn64tab"], apart := false, laid := [("math/bits.deBruijn32tab", laid_math_bits_deBruijn32tab), ("math/bits.deBruijn64tab", laid_math_bits_deBruijn64tab), ("internal/strconv.uint64pow10", laid_internal_strconv_uint64pow10)] }
def InstMirrorsSaid : Prop := instMirrorsRow.holds Tryd.pinned (OpenSpec.ofChange instMirrorsSpec)

/-- ITS FALSE NEIGHBOUR: 'it returns false'. Refute it at one input. -/
def instMirrorsWrong : ChangeSpec := { name := "instMirrors", fn := fun _ => fun
  | [d1, d2] => { results := [.lit (.bool false)], args := [d1, d2] }
  | _ => none }
def InstMirrorsWrongFalsely : Prop := instMirrorsRow.holds Tryd.pinned (OpenSpec.ofChange instMirrorsWrong)

/-- 'kurganlaw05.InstCopies': WHATEVER THE INPUT: true; the input reads as it did. -/
def instCopiesSpec : ChangeSpec := { name := "instCopies", fn := fun _ => fun
  | [d1, d2, d3] => { results := [.lit (.bool true)], args := [d1, d2, d3] }
  | _ => none }
def instCopiesRow : OpenClaim := { program := "ytakfcekfmdjklaadoor", sum := "ced4f7a76cbfcd6c3bb0586bbd39ce86d59e3ecf098077a14c512e3a161ff5cc", func := "kurgan/kurganlaw05.InstCopies", spec := "instCopies", inPlace := ["internal/abi.NoEscape", "internal/bytealg.MakeNoZero"], unfollowed := true, recurses := true, named := ["internal/strconv.uint64pow10", "math/bits.deBruijn32tab", "math/bits.deBruijn64tab"], apart := false, laid := [("math/bits.deBruijn32tab", laid_math_bits_deBruijn32tab), ("math/bits.deBruijn64tab", laid_math_bits_deBruijn64tab), ("internal/strconv.uint64pow10", laid_internal_strconv_uint64pow10)] }
def InstCopiesSaid : Prop := instCopiesRow.holds Tryd.pinned (OpenSpec.ofChange instCopiesSpec)

/-- ITS FALSE NEIGHBOUR: 'it returns false'. Refute it at one input. -/
def instCopiesWrong : ChangeSpec := { name := "instCopies", fn := fun _ => fun
  | [d1, d2, d3] => { results := [.lit (.bool false)], args := [d1, d2, d3] }
  | _ => none }
def InstCopiesWrongFalsely : Prop := instCopiesRow.holds Tryd.pinned (OpenSpec.ofChange instCopiesWrong)

/-- 'kurganlaw06.ParseTells': WHATEVER THE INPUT: true; the input reads as it did. -/
def parseTellsSpec : ChangeSpec := { name := "parseTells", fn := fun _ => fun
  | [d] => { results := [.lit (.bool true)], args := [d] }
  | _ => none }
def parseTellsRow : OpenClaim := { program := "ytakfcekfmdjklaadoor", sum := "ced4f7a76cbfcd6c3bb0586bbd39ce86d59e3ecf098077a14c512e3a161ff5cc", func := "kurgan/kurganlaw06.ParseTells", spec := "parseTells", inPlace := ["internal/bytealg.IndexByteString"], named := ["unicode/utf8.first", "unicode/utf8.acceptRanges"], apart := false, laid := [("unicode/utf8.acceptRanges", laid_unicode_utf8_acceptRanges), ("unicode/utf8.first", laid_unicode_utf8_first)] }
def ParseTellsSaid : Prop := parseTellsRow.holds Tryd.pinned (OpenSpec.ofChange parseTellsSpec)

/-- ITS FALSE NEIGHBOUR: 'it returns false'. Refute it at one input. -/
def parseTellsWrong : ChangeSpec := { name := "parseTells", fn := fun _ => fun
  | [d] => { results := [.lit (.bool false)], args := [d] }
  | _ => none }
def ParseTellsWrongFalsely : Prop := parseTellsRow.holds Tryd.pinned (OpenSpec.ofChange parseTellsWrong)

/-- 'kurganlaw06.ParseLimits': WHATEVER THE INPUT: true; the input reads as it did. -/
def parseLimitsSpec : ChangeSpec := { name := "parseLimits", fn := fun _ => fun
  | [d1, d2, d3] => { results := [.lit (.bool true)], args := [d1, d2, d3] }
  | _ => none }
def parseLimitsRow : OpenClaim := { program := "ytakfcekfmdjklaadoor", sum := "ced4f7a76cbfcd6c3bb0586bbd39ce86d59e3ecf098077a14c512e3a161ff5cc", func := "kurgan/kurganlaw06.ParseLimits", spec := "parseLimits", inPlace := ["internal/bytealg.IndexByteString"], named := ["unicode/utf8.first", "unicode/utf8.acceptRanges"], apart := false, laid := [("unicode/utf8.acceptRanges", laid_unicode_utf8_acceptRanges), ("unicode/utf8.first", laid_unicode_utf8_first)] }
def ParseLimitsSaid : Prop := parseLimitsRow.holds Tryd.pinned (OpenSpec.ofChange parseLimitsSpec)

/-- ITS FALSE NEIGHBOUR: 'it returns false'. Refute it at one input. -/
def parseLimitsWrong : ChangeSpec := { name := "parseLimits", fn := fun _ => fun
  | [d1, d2, d3] => { results := [.lit (.bool false)], args := [d1, d2, d3] }
  | _ => none }
def ParseLimitsWrongFalsely : Prop := parseLimitsRow.holds Tryd.pinned (OpenSpec.ofChange parseLimitsWrong)

/-- 'kurganlaw06.ParseUppers': WHATEVER THE INPUT: true; the input reads as it did. -/
def parseUppersSpec : ChangeSpec := { name := "parseUppers", fn := fun _ => fun
  | [d] => { results := [.lit (.bool true)], args := [d] }
  | _ => none }
def parseUppersRow : OpenClaim := { program := "ytakfcekfmdjklaadoor", sum := "ced4f7a76cbfcd6c3bb0586bbd39ce86d59e3ecf098077a14c512e3a161ff5cc", func := "kurgan/kurganlaw06.ParseUppers", spec := "parseUppers", inPlace := ["internal/bytealg.IndexByteString"], unfollowed := true, recurses := true, named := ["unicode/utf8.first", "unicode/utf8.acceptRanges"], apart := false, laid := [("unicode/utf8.acceptRanges", laid_unicode_utf8_acceptRanges), ("unicode/utf8.first", laid_unicode_utf8_first)] }
def ParseUppersSaid : Prop := parseUppersRow.holds Tryd.pinned (OpenSpec.ofChange parseUppersSpec)

/-- ITS FALSE NEIGHBOUR: 'it returns false'. Refute it at one input. -/
def parseUppersWrong : ChangeSpec := { name := "parseUppers", fn := fun _ => fun
  | [d] => { results := [.lit (.bool false)], args := [d] }
  | _ => none }
def ParseUppersWrongFalsely : Prop := parseUppersRow.holds Tryd.pinned (OpenSpec.ofChange parseUppersWrong)

/-- 'kurganlaw06.ParseBack': WHATEVER THE INPUT: true; the input reads as it did. -/
def parseBackSpec : ChangeSpec := { name := "parseBack", fn := fun _ => fun
  | [d1, d2] => { results := [.lit (.bool true)], args := [d1, d2] }
  | _ => none }
def parseBackRow : OpenClaim := { program := "ytakfcekfmdjklaadoor", sum := "ced4f7a76cbfcd6c3bb0586bbd39ce86d59e3ecf098077a14c512e3a161ff5cc", func := "kurgan/kurganlaw06.ParseBack", spec := "parseBack", inPlace := ["internal/abi.NoEscape", "internal/bytealg.MakeNoZero", "internal/bytealg.IndexByteString"], unfollowed := true, recurses := true, named := ["internal/strconv.uint64pow10", "math/bits.deBruijn32tab", "math/bits.deBruijn64tab", "unicode/utf8.first", "unicode/utf8.acceptRanges"], apart := false, laid := [("math/bits.deBruijn32tab", laid_math_bits_deBruijn32tab), ("math/bits.deBruijn64tab", laid_math_bits_deBruijn64tab), ("internal/strconv.uint64pow10", laid_internal_strconv_uint64pow10), ("unicode/utf8.acceptRanges", laid_unicode_utf8_acceptRanges), ("unicode/utf8.first", laid_unicode_utf8_first)] }
def ParseBackSaid : Prop := parseBackRow.holds Tryd.pinned (OpenSpec.ofChange parseBackSpec)

/-- ITS FALSE NEIGHBOUR: 'it returns false'. Refute it at one input. -/
def parseBackWrong : ChangeSpec := { name := "parseBack", fn := fun _ => fun
  | [d1, d2] => { results := [.lit (.bool false)], args := [d1, d2] }
  | _ => none }
def ParseBackWrongFalsely : Prop := parseBackRow.holds Tryd.pinned (OpenSpec.ofChange parseBackWrong)

/-- 'kurganlaw06.ParseCuts': WHATEVER THE INPUT: true; the input reads as it did. -/
def parseCutsSpec : ChangeSpec := { name := "parseCuts", fn := fun _ => fun
  | [d1, d2] => { results := [.lit (.bool true)], args := [d1, d2] }
  | _ => none }
def parseCutsRow : OpenClaim := { program := "ytakfcekfmdjklaadoor", sum := "ced4f7a76cbfcd6c3bb0586bbd39ce86d59e3ecf098077a14c512e3a161ff5cc", func := "kurgan/kurganlaw06.ParseCuts", spec := "parseCuts", inPlace := ["internal/abi.NoEscape", "internal/bytealg.MakeNoZero", "internal/bytealg.IndexByteString"], unfollowed := true, recurses := true, named := ["internal/strconv.uint64pow10", "math/bits.deBruijn32tab", "math/bits.deBruijn64tab", "unicode/utf8.first", "unicode/utf8.acceptRanges"], apart := false, laid := [("math/bits.deBruijn32tab", laid_math_bits_deBruijn32tab), ("math/bits.deBruijn64tab", laid_math_bits_deBruijn64tab), ("internal/strconv.uint64pow10", laid_internal_strconv_uint64pow10), ("unicode/utf8.acceptRanges", laid_unicode_utf8_acceptRanges), ("unicode/utf8.first", laid_unicode_utf8_first)] }
def ParseCutsSaid : Prop := parseCutsRow.holds Tryd.pinned (OpenSpec.ofChange parseCutsSpec)

/-- ITS FALSE NEIGHBOUR: 'it returns false'. Refute it at one input. -/
def parseCutsWrong : ChangeSpec := { name := "parseCuts", fn := fun _ => fun
  | [d1, d2] => { results := [.lit (.bool false)], args := [d1, d2] }
  | _ => none }
def ParseCutsWrongFalsely : Prop := parseCutsRow.holds Tryd.pinned (OpenSpec.ofChange parseCutsWrong)

/-- 'kurgantop.KurganTexts': WHATEVER THE INPUT: true; the input reads as it did. -/
def kurganTextsSpec : ChangeSpec := { name := "kurganTexts", fn := fun _ => fun
  | [d] => { results := [.lit (.bool true)], args := [d] }
  | _ => none }
def kurganTextsRow : OpenClaim := { program := "ytakfcekfmdjklaadoor", sum := "ced4f7a76cbfcd6c3bb0586bbd39ce86d59e3ecf098077a14c512e3a161ff5cc", func := "kurgan/kurgantop.KurganTexts", spec := "kurganTexts", inPlace := ["internal/bytealg.IndexByteString", "internal/abi.NoEscape", "internal/bytealg.MakeNoZero"], unfollowed := true, recurses := true, named := ["unicode/utf8.first", "unicode/utf8.acceptRanges", "internal/strconv.uint64pow10", "math/bits.deBruijn32tab", "math/bits.deBruijn64tab"], apart := false, laid := [("math/bits.deBruijn32tab", laid_math_bits_deBruijn32tab), ("math/bits.deBruijn64tab", laid_math_bits_deBruijn64tab), ("internal/strconv.uint64pow10", laid_internal_strconv_uint64pow10), ("unicode/utf8.acceptRanges", laid_unicode_utf8_acceptRanges), ("unicode/utf8.first", laid_unicode_utf8_first)] }
def KurganTextsSaid : Prop := kurganTextsRow.holds Tryd.pinned (OpenSpec.ofChange kurganTextsSpec)

/-- ITS FALSE NEIGHBOUR: 'it returns false'. Refute it at one input. -/
def kurganTextsWrong : ChangeSpec := { name := "kurganTexts", fn := fun _ => fun
  | [d] => { results := [.lit (.bool false)], args := [d] }
  | _ => none }
def KurganTextsWrongFalsely : Prop := kurganTextsRow.holds Tryd.pinned (OpenSpec.ofChange kurganTextsWrong)

/-- 'kurganlaw07.GenFine': WHATEVER THE INPUT: true; the input reads as it did. -/
def genFineSpec : ChangeSpec := { name := "genFine", fn := fun _ => fun
  | [d1, d2, d3] => { results := [.lit (.bool true)], args := [d1, d2, d3] }
  | _ => none }
def genFineRow : OpenClaim := { program := "ytakfcekfmdjklaadoor", sum := "ced4f7a76cbfcd6c3bb0586bbd39ce86d59e3ecf098077a14c512e3a161ff5cc", func := "kurgan/kurganlaw07.GenFine", spec := "genFine", inPlace := ["internal/abi.NoEscape", "internal/bytealg.MakeNoZero", "internal/bytealg.IndexByteString"], unfollowed := true, recurses := true, named := ["internal/strconv.uint64pow10", "math/bits.deBruijn32tab", "math/bits.deBruijn64tab", "unicode/utf8.first", "unicode/utf8.acceptRanges"], apart := false, laid := [("math/bits.deBruijn32tab", laid_math_bits_deBruijn32tab), ("math/bits.deBruijn64tab", laid_math_bits_deBruijn64tab), ("internal/strconv.uint64pow10", laid_internal_strconv_uint64pow10), ("unicode/utf8.acceptRanges", laid_unicode_utf8_acceptRanges), ("unicode/utf8.first", laid_unicode_utf8_first)] }
def GenFineSaid : Prop := genFineRow.holds Tryd.pinned (OpenSpec.ofChange genFineSpec)

/-- ITS FALSE NEIGHBOUR: 'it returns false'. Refute it at one input. -/
def genFineWrong : ChangeSpec := { name := "genFine", fn := fun _ => fun
  | [d1, d2, d3] => { results := [.lit (.bool false)], args := [d1, d2, d3] }
  | _ => none }
def GenFineWrongFalsely : Prop := genFineRow.holds Tryd.pinned (OpenSpec.ofChange genFineWrong)

/-- 'kurgantop.KurganDrawn': WHATEVER THE INPUT: true; the input reads as it did. -/
def kurganDrawnSpec : ChangeSpec := { name := "kurganDrawn", fn := fun _ => fun
  | [d1, d2, d3] => { results := [.lit (.bool true)], args := [d1, d2, d3] }
  | _ => none }
def kurganDrawnRow : OpenClaim := { program := "ytakfcekfmdjklaadoor", sum := "ced4f7a76cbfcd6c3bb0586bbd39ce86d59e3ecf098077a14c512e3a161ff5cc", func := "kurgan/kurgantop.KurganDrawn", spec := "kurganDrawn", inPlace := ["internal/abi.NoEscape", "internal/bytealg.MakeNoZero", "internal/bytealg.IndexByteString"], unfollowed := true, recurses := true, named := ["internal/strconv.uint64pow10", "math/bits.deBruijn32tab", "math/bits.deBruijn64tab", "unicode/utf8.first", "unicode/utf8.acceptRanges"], apart := false, laid := [("math/bits.deBruijn32tab", laid_math_bits_deBruijn32tab), ("math/bits.deBruijn64tab", laid_math_bits_deBruijn64tab), ("internal/strconv.uint64pow10", laid_internal_strconv_uint64pow10), ("unicode/utf8.acceptRanges", laid_unicode_utf8_acceptRanges), ("unicode/utf8.first", laid_unicode_utf8_first)] }
def KurganDrawnSaid : Prop := kurganDrawnRow.holds Tryd.pinned (OpenSpec.ofChange kurganDrawnSpec)

/-- ITS FALSE NEIGHBOUR: 'it returns false'. Refute it at one input. -/
def kurganDrawnWrong : ChangeSpec := { name := "kurganDrawn", fn := fun _ => fun
  | [d1, d2, d3] => { results := [.lit (.bool false)], args := [d1, d2, d3] }
  | _ => none }
def KurganDrawnWrongFalsely : Prop := kurganDrawnRow.holds Tryd.pinned (OpenSpec.ofChange kurganDrawnWrong)

/- THE SECOND FORM. 'bulk': how many values and letters a reading holds, each counted each time it is reached (what is shared counts as often as it is met; a slice's spare places count too). A statement '..UptoSaid' is the law's where the arguments, and the package variables that the reading takes, are together of bulk at most 1048576: NARROWER than '..Said'. Prove '..Said' where nothing that the law and all that it calls make is longer than what came in: it says more and counts as full. Else prove '..UptoSaid'. A law counts once. -/
mutual
def uptoBulk {H : Type} : DataW H → Nat
  | .lit (.string bytes) => bytes.length + 1
  | .lit _ => 1
  | .nil => 1
  | .ptr d => uptoBulk d + 1
  | .slice elems spare => uptoBulkAll elems + uptoBulkAll spare + 1
  | .agg parts => uptoBulkAll parts + 1
  | .iface _ d => uptoBulk d + 1
  | .map entries => uptoBulkEntries entries + 1
  | .held _ => 1
def uptoBulkAll {H : Type} : List (DataW H) → Nat
  | [] => 0
  | d :: r => uptoBulk d + uptoBulkAll r
def uptoBulkEntries {H : Type} : List (Lit × DataW H) → Nat
  | [] => 0
  | x :: r => uptoBulkEntry x + uptoBulkEntries r
def uptoBulkEntry {H : Type} : Lit × DataW H → Nat
  | (.string bytes, d) => bytes.length + uptoBulk d + 1
  | (_, d) => uptoBulk d + 1
 end
def uptoSmall : (H : Type) → List (DataW H) → Bool := fun _ ds => decide (uptoBulkAll ds ≤ 1048576)
def OpenSpec.upto (s : _root_.Go.ChangeSpec) : _root_.Go.OpenSpec := { _root_.Go.OpenSpec.ofChange s with cond := some uptoSmall }

/-- 'kurganlaw05.InstChecks', WHERE WHAT IT READS IS OF BULK AT MOST 1048576: true; the input reads as it did. -/
def instChecksUptoRow : OpenClaim := { program := "ytakfcekfmdjklaadoor", sum := "ced4f7a76cbfcd6c3bb0586bbd39ce86d59e3ecf098077a14c512e3a161ff5cc", func := "kurgan/kurganlaw05.InstChecks", spec := "instChecks", inPlace := ["internal/abi.NoEscape", "internal/bytealg.MakeNoZero"], unfollowed := true, recurses := true, named := ["internal/strconv.uint64pow10", "math/bits.deBruijn32tab", "math/bits.deBruijn64tab"], apart := false, laid := [("math/bits.deBruijn32tab", laid_math_bits_deBruijn32tab), ("math/bits.deBruijn64tab", laid_math_bits_deBruijn64tab), ("internal/strconv.uint64pow10", laid_internal_strconv_uint64pow10)], narrowed := true }
def InstChecksUptoSaid : Prop := instChecksUptoRow.holds Tryd.pinned (OpenSpec.upto instChecksSpec)

/-- 'kurganlaw05.InstWrites', WHERE WHAT IT READS IS OF BULK AT MOST 1048576: true; the input reads as it did. -/
def instWritesUptoRow : OpenClaim := { program := "ytakfcekfmdjklaadoor", sum := "ced4f7a76cbfcd6c3bb0586bbd39ce86d59e3ecf098077a14c512e3a161ff5cc", func := "kurgan/kurganlaw05.InstWrites", spec := "instWrites", inPlace := ["internal/abi.NoEscape", "internal/bytealg.MakeNoZero"], unfollowed := true, recurses := true, named := ["internal/strconv.uint64pow10", "math/bits.deBruijn32tab", "math/bits.deBruijn64tab"], apart := false, laid := [("math/bits.deBruijn32tab", laid_math_bits_deBruijn32tab), ("math/bits.deBruijn64tab", laid_math_bits_deBruijn64tab), ("internal/strconv.uint64pow10", laid_internal_strconv_uint64pow10)], narrowed := true }
def InstWritesUptoSaid : Prop := instWritesUptoRow.holds Tryd.pinned (OpenSpec.upto instWritesSpec)

/-- 'kurganlaw05.InstNames', WHERE WHAT IT READS IS OF BULK AT MOST 1048576: true; the input reads as it did. -/
def instNamesUptoRow : OpenClaim := { program := "ytakfcekfmdjklaadoor", sum := "ced4f7a76cbfcd6c3bb0586bbd39ce86d59e3ecf098077a14c512e3a161ff5cc", func := "kurgan/kurganlaw05.InstNames", spec := "instNames", inPlace := ["internal/abi.NoEscape", "internal/bytealg.MakeNoZero"], unfollowed := true, recurses := true, named := ["internal/strconv.uint64pow10", "math/bits.deBruijn32tab", "math/bits.deBruijn64tab"], apart := false, laid := [("math/bits.deBruijn32tab", laid_math_bits_deBruijn32tab), ("math/bits.deBruijn64tab", laid_math_bits_deBruijn64tab), ("internal/strconv.uint64pow10", laid_internal_strconv_uint64pow10)], narrowed := true }
def InstNamesUptoSaid : Prop := instNamesUptoRow.holds Tryd.pinned (OpenSpec.upto instNamesSpec)

/-- 'kurganlaw05.InstMirrors', WHERE WHAT IT READS IS OF BULK AT MOST 1048576: true; the input reads as it did. -/
def instMirrorsUptoRow : OpenClaim := { program := "ytakfcekfmdjklaadoor", sum := "ced4f7a76cbfcd6c3bb0586bbd39ce86d59e3ecf098077a14c512e3a161ff5cc", func := "kurgan/kurganlaw05.InstMirrors", spec := "instMirrors", inPlace := ["internal/abi.NoEscape", "internal/bytealg.MakeNoZero"], unfollowed := true, recurses := true, named := ["internal/strconv.uint64pow10", "math/bits.deBruijn32tab", "math/bits.deBruijn64tab"], apart := false, laid := [("math/bits.deBruijn32tab", laid_math_bits_deBruijn32tab), ("math/bits.deBruijn64tab", laid_math_bits_deBruijn64tab), ("internal/strconv.uint64pow10", laid_internal_strconv_uint64pow10)], narrowed := true }
def InstMirrorsUptoSaid : Prop := instMirrorsUptoRow.holds Tryd.pinned (OpenSpec.upto instMirrorsSpec)

/-- 'kurganlaw05.InstCopies', WHERE WHAT IT READS IS OF BULK AT MOST 1048576: true; the input reads as it did. -/
def instCopiesUptoRow : OpenClaim := { program := "ytakfcekfmdjklaadoor", sum := "ced4f7a76cbfcd6c3bb0586bbd39ce86d59e3ecf098077a14c512e3a161ff5cc", func := "kurgan/kurganlaw05.InstCopies", spec := "instCopies", inPlace := ["internal/abi.NoEscape", "internal/bytealg.MakeNoZero"], unfollowed := true, recurses := true, named := ["internal/strconv.uint64pow10", "math/bits.deBruijn32tab", "math/bits.deBruijn64tab"], apart := false, laid := [("math/bits.deBruijn32tab", laid_math_bits_deBruijn32tab), ("math/bits.deBruijn64tab", laid_math_bits_deBruijn64tab), ("internal/strconv.uint64pow10", laid_internal_strconv_uint64pow10)], narrowed := true }
def InstCopiesUptoSaid : Prop := instCopiesUptoRow.holds Tryd.pinned (OpenSpec.upto instCopiesSpec)

/-- 'kurganlaw06.ParseTells', WHERE WHAT IT READS IS OF BULK AT MOST 1048576: true; the input reads as it did. -/
def parseTellsUptoRow : OpenClaim := { program := "ytakfcekfmdjklaadoor", sum := "ced4f7a76cbfcd6c3bb0586bbd39ce86d59e3ecf098077a14c512e3a161ff5cc", func := "kurgan/kurganlaw06.ParseTells", spec := "parseTells", inPlace := ["internal/bytealg.IndexByteString"], named := ["unicode/utf8.first", "unicode/utf8.acceptRanges"], apart := false, laid := [("unicode/utf8.acceptRanges", laid_unicode_utf8_acceptRanges), ("unicode/utf8.first", laid_unicode_utf8_first)], narrowed := true }
def ParseTellsUptoSaid : Prop := parseTellsUptoRow.holds Tryd.pinned (OpenSpec.upto parseTellsSpec)

/-- 'kurganlaw06.ParseLimits', WHERE WHAT IT READS IS OF BULK AT MOST 1048576: true; the input reads as it did. -/
def parseLimitsUptoRow : OpenClaim := { program := "ytakfcekfmdjklaadoor", sum := "ced4f7a76cbfcd6c3bb0586bbd39ce86d59e3ecf098077a14c512e3a161ff5cc", func := "kurgan/kurganlaw06.ParseLimits", spec := "parseLimits", inPlace := ["internal/bytealg.IndexByteString"], named := ["unicode/utf8.first", "unicode/utf8.acceptRanges"], apart := false, laid := [("unicode/utf8.acceptRanges", laid_unicode_utf8_acceptRanges), ("unicode/utf8.first", laid_unicode_utf8_first)], narrowed := true }
def ParseLimitsUptoSaid : Prop := parseLimitsUptoRow.holds Tryd.pinned (OpenSpec.upto parseLimitsSpec)

/-- 'kurganlaw06.ParseUppers', WHERE WHAT IT READS IS OF BULK AT MOST 1048576: true; the input reads as it did. -/
def parseUppersUptoRow : OpenClaim := { program := "ytakfcekfmdjklaadoor", sum := "ced4f7a76cbfcd6c3bb0586bbd39ce86d59e3ecf098077a14c512e3a161ff5cc", func := "kurgan/kurganlaw06.ParseUppers", spec := "parseUppers", inPlace := ["internal/bytealg.IndexByteString"], unfollowed := true, recurses := true, named := ["unicode/utf8.first", "unicode/utf8.acceptRanges"], apart := false, laid := [("unicode/utf8.acceptRanges", laid_unicode_utf8_acceptRanges), ("unicode/utf8.first", laid_unicode_utf8_first)], narrowed := true }
def ParseUppersUptoSaid : Prop := parseUppersUptoRow.holds Tryd.pinned (OpenSpec.upto parseUppersSpec)

/-- 'kurganlaw06.ParseBack', WHERE WHAT IT READS IS OF BULK AT MOST 1048576: true; the input reads as it did. -/
def parseBackUptoRow : OpenClaim := { program := "ytakfcekfmdjklaadoor", sum := "ced4f7a76cbfcd6c3bb0586bbd39ce86d59e3ecf098077a14c512e3a161ff5cc", func := "kurgan/kurganlaw06.ParseBack", spec := "parseBack", inPlace := ["internal/abi.NoEscape", "internal/bytealg.MakeNoZero", "internal/bytealg.IndexByteString"], unfollowed := true, recurses := true, named := ["internal/strconv.uint64pow10", "math/bits.deBruijn32tab", "math/bits.deBruijn64tab", "unicode/utf8.first", "unicode/utf8.acceptRanges"], apart := false, laid := [("math/bits.deBruijn32tab", laid_math_bits_deBruijn32tab), ("math/bits.deBruijn64tab", laid_math_bits_deBruijn64tab), ("internal/strconv.uint64pow10", laid_internal_strconv_uint64pow10), ("unicode/utf8.acceptRanges", laid_unicode_utf8_acceptRanges), ("unicode/utf8.first", laid_unicode_utf8_first)], narrowed := true }
def ParseBackUptoSaid : Prop := parseBackUptoRow.holds Tryd.pinned (OpenSpec.upto parseBackSpec)

/-- 'kurganlaw06.ParseCuts', WHERE WHAT IT READS IS OF BULK AT MOST 1048576: true; the input reads as it did. -/
def parseCutsUptoRow : OpenClaim := { program := "ytakfcekfmdjklaadoor", sum := "ced4f7a76cbfcd6c3bb0586bbd39ce86d59e3ecf098077a14c512e3a161ff5cc", func := "kurgan/kurganlaw06.ParseCuts", spec := "parseCuts", inPlace := ["internal/abi.NoEscape", "internal/bytealg.MakeNoZero", "internal/bytealg.IndexByteString"], unfollowed := true, recurses := true, named := ["internal/strconv.uint64pow10", "math/bits.deBruijn32tab", "math/bits.deBruijn64tab", "unicode/utf8.first", "unicode/utf8.acceptRanges"], apart := false, laid := [("math/bits.deBruijn32tab", laid_math_bits_deBruijn32tab), ("math/bits.deBruijn64tab", laid_math_bits_deBruijn64tab), ("internal/strconv.uint64pow10", laid_internal_strconv_uint64pow10), ("unicode/utf8.acceptRanges", laid_unicode_utf8_acceptRanges), ("unicode/utf8.first", laid_unicode_utf8_first)], narrowed := true }
def ParseCutsUptoSaid : Prop := parseCutsUptoRow.holds Tryd.pinned (OpenSpec.upto parseCutsSpec)

/-- 'kurgantop.KurganTexts', WHERE WHAT IT READS IS OF BULK AT MOST 1048576: true; the input reads as it did. -/
def kurganTextsUptoRow : OpenClaim := { program := "ytakfcekfmdjklaadoor", sum := "ced4f7a76cbfcd6c3bb0586bbd39ce86d59e3ecf098077a14c512e3a161ff5cc", func := "kurgan/kurgantop.KurganTexts", spec := "kurganTexts", inPlace := ["internal/bytealg.IndexByteString", "internal/abi.NoEscape", "internal/bytealg.MakeNoZero"], unfollowed := true, recurses := true, named := ["unicode/utf8.first", "unicode/utf8.acceptRanges", "internal/strconv.uint64pow10", "math/bits.deBruijn32tab", "math/bits.deBruijn64tab"], apart := false, laid := [("math/bits.deBruijn32tab", laid_math_bits_deBruijn32tab), ("math/bits.deBruijn64tab", laid_math_bits_deBruijn64tab), ("internal/strconv.uint64pow10", laid_internal_strconv_uint64pow10), ("unicode/utf8.acceptRanges", laid_unicode_utf8_acceptRanges), ("unicode/utf8.first", laid_unicode_utf8_first)], narrowed := true }
def KurganTextsUptoSaid : Prop := kurganTextsUptoRow.holds Tryd.pinned (OpenSpec.upto kurganTextsSpec)

/-- 'kurganlaw07.GenFine', WHERE WHAT IT READS IS OF BULK AT MOST 1048576: true; the input reads as it did. -/
def genFineUptoRow : OpenClaim := { program := "ytakfcekfmdjklaadoor", sum := "ced4f7a76cbfcd6c3bb0586bbd39ce86d59e3ecf098077a14c512e3a161ff5cc", func := "kurgan/kurganlaw07.GenFine", spec := "genFine", inPlace := ["internal/abi.NoEscape", "internal/bytealg.MakeNoZero", "internal/bytealg.IndexByteString"], unfollowed := true, recurses := true, named := ["internal/strconv.uint64pow10", "math/bits.deBruijn32tab", "math/bits.deBruijn64tab", "unicode/utf8.first", "unicode/utf8.acceptRanges"], apart := false, laid := [("math/bits.deBruijn32tab", laid_math_bits_deBruijn32tab), ("math/bits.deBruijn64tab", laid_math_bits_deBruijn64tab), ("internal/strconv.uint64pow10", laid_internal_strconv_uint64pow10), ("unicode/utf8.acceptRanges", laid_unicode_utf8_acceptRanges), ("unicode/utf8.first", laid_unicode_utf8_first)], narrowed := true }
def GenFineUptoSaid : Prop := genFineUptoRow.holds Tryd.pinned (OpenSpec.upto genFineSpec)

/-- 'kurgantop.KurganDrawn', WHERE WHAT IT READS IS OF BULK AT MOST 1048576: true; the input reads as it did. -/
def kurganDrawnUptoRow : OpenClaim := { program := "ytakfcekfmdjklaadoor", sum := "ced4f7a76cbfcd6c3bb0586bbd39ce86d59e3ecf098077a14c512e3a161ff5cc", func := "kurgan/kurgantop.KurganDrawn", spec := "kurganDrawn", inPlace := ["internal/abi.NoEscape", "internal/bytealg.MakeNoZero", "internal/bytealg.IndexByteString"], unfollowed := true, recurses := true, named := ["internal/strconv.uint64pow10", "math/bits.deBruijn32tab", "math/bits.deBruijn64tab", "unicode/utf8.first", "unicode/utf8.acceptRanges"], apart := false, laid := [("math/bits.deBruijn32tab", laid_math_bits_deBruijn32tab), ("math/bits.deBruijn64tab", laid_math_bits_deBruijn64tab), ("internal/strconv.uint64pow10", laid_internal_strconv_uint64pow10), ("unicode/utf8.acceptRanges", laid_unicode_utf8_acceptRanges), ("unicode/utf8.first", laid_unicode_utf8_first)], narrowed := true }
def KurganDrawnUptoSaid : Prop := kurganDrawnUptoRow.holds Tryd.pinned (OpenSpec.upto kurganDrawnSpec)

end Rows
end Go.Proofs.YtakfcekfmdjklaaDoor
