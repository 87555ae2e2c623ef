/-
  NARROWER THAN 'FOR EVERY INPUT', by the rows' own cells (each row's printed sentence says how): ScriptTopos: laid · ScriptReads: laid · HdrNumbers: laid · CidrReads: laid · HdrBits: laid · HdrTurns: laid · FilterMatches: laid · FilterParts: laid · FilterMeets: laid · HdrTexts: laid · HdrReads: laid · CidrTexts: laid · FilterTexts: laid · ScriptChanges: laid · ScriptCalls: laid · ScriptBatches: laid.
  DERIVED. THE GIVEN ROWS OF THIS SEAT. 16 by the template 'for every input the law returns true; each argument reads behind the call as it read before'; 0 by the template 'total and deterministic' (their statements: YtloclimoffhbhaaDoorTotals.lean).
  GIVEN WITH THE SEED: the statements are not yours to turn. If you find one false, say at which input.
  Laid BY PROGRAM, IN A SANDBOX (cutbox-rows.mjs): the forced cells as the released guide's own fill.sh prints them over the translation 40dc7ecc904dc0fa… (all of the seat's roots in one cut). By AI agents, Wed Nov 11 2026. No macro, syntax, notation, axiom, sorry.
-/
import Derived.Test.YtloclimoffhbhaaDoorChecked
import GoSem.PinnedTables
import GoSem.Claim
import GoSem.ClaimJoined
import GoSem.ClaimMapViews
import Derived.JoinedTies
import Derived.KernelRfl
namespace Go.Proofs.YtloclimoffhbhaaDoor
/- THE CELL 'sum', in the pinned program and in every row, IS THE sha256 OF THE DUMP (.gsa) THAT YtloclimoffhbhaaDoorProg.lean LOADS. Nothing in Lean hashes anything: it is a label: what it is worth is what the hold of that sum in a sandbox is worth. -/
noncomputable def Tryd.pinned : Pinned := { name := "ytloclimoffhbhaadoor", sum := "40dc7ecc904dc0faa3586bb31a583712cb304c7c2abb60890c75aed54c47ead3", checked := Tryd.checked }
namespace Rows
def none {H : Type} : Left H := { results := [], args := [] }

/- WHAT THE LISTED PACKAGE-LEVEL VARIABLES READ AS WHEN THE CALL BEGINS. Each datum BY PROGRAM (the guide's laid-datum.mjs) off the statement by which the dump's own 'gosem.cut.vars' lays the variable. In a bare row this is a premise. The card (YtloclimoffhbhaaDoorCards.lean) ties it to the program's text. -/
def laid_math_bits_deBruijn32tab {H : Type} : DataW H := .agg [.lit (.int .u8 0), .lit (.int .u8 1), .lit (.int .u8 28), .lit (.int .u8 2), .lit (.int .u8 29), .lit (.int .u8 14), .lit (.int .u8 24), .lit (.int .u8 3), .lit (.int .u8 30), .lit (.int .u8 22), .lit (.int .u8 20), .lit (.int .u8 15), .lit (.int .u8 25), .lit (.int .u8 17), .lit (.int .u8 4), .lit (.int .u8 8), .lit (.int .u8 31), .lit (.int .u8 27), .lit (.int .u8 13), .lit (.int .u8 23), .lit (.int .u8 21), .lit (.int .u8 19), .lit (.int .u8 16), .lit (.int .u8 7), .lit (.int .u8 26), .lit (.int .u8 12), .lit (.int .u8 18), .lit (.int .u8 6), .lit (.int .u8 11), .lit (.int .u8 5), .lit (.int .u8 10), .lit (.int .u8 9)]
def laid_math_bits_deBruijn64tab {H : Type} : DataW H := .agg [.lit (.int .u8 0), .lit (.int .u8 1), .lit (.int .u8 56), .lit (.int .u8 2), .lit (.int .u8 57), .lit (.int .u8 49), .lit (.int .u8 28), .lit (.int .u8 3), .lit (.int .u8 61), .lit (.int .u8 58), .lit (.int .u8 42), .lit (.int .u8 50), .lit (.int .u8 38), .lit (.int .u8 29), .lit (.int .u8 17), .lit (.int .u8 4), .lit (.int .u8 62), .lit (.int .u8 47), .lit (.int .u8 59), .lit (.int .u8 36), .lit (.int .u8 45), .lit (.int .u8 43), .lit (.int .u8 51), .lit (.int .u8 22), .lit (.int .u8 53), .lit (.int .u8 39), .lit (.int .u8 33), .lit (.int .u8 30), .lit (.int .u8 24), .lit (.int .u8 18), .lit (.int .u8 12), .lit (.int .u8 5), .lit (.int .u8 63), .lit (.int .u8 55), .lit (.int .u8 48), .lit (.int .u8 27), .lit (.int .u8 60), .lit (.int .u8 41), .lit (.int .u8 37), .lit (.int .u8 16), .lit (.int .u8 46), .lit (.int .u8 35), .lit (.int .u8 44), .lit (.int .u8 21), .lit (.int .u8 52), .lit (.int .u8 32), .lit (.int .u8 23), .lit (.int .u8 11), .lit (.int .u8 54), .lit (.int .u8 26), .lit (.int .u8 40), .lit (.int .u8 15), .lit (.int .u8 34), .lit (.int .u8 20), .lit (.int .u8 31), .lit (.int .u8 10), .lit (.int .u8 25), .lit (.int .u8 14), .lit (.int .u8 19), .lit (.int .u8 9), .lit (.int .u8 13), .lit (.int .u8 8), .lit (.int .u8 7), .lit (.int .u8 6)]
def laid_internal_strconv_uint64pow10 {H : Type} : DataW H := .agg [.lit (.int .u64 1), .lit (.int .u64 10), .lit (.int .u64 100), .lit (.int .u64 1000), .lit (.int .u64 10000), .lit (.int .u64 100000), .lit (.int .u64 1000000), .lit (.int .u64 10000000), .lit (.int .u64 100000000), .lit (.int .u64 1000000000), .lit (.int .u64 10000000000), .lit (.int .u64 100000000000), .lit (.int .u64 1000000000000), .lit (.int .u64 10000000000000), .lit (.int .u64 100000000000000), .lit (.int .u64 1000000000000000), .lit (.int .u64 10000000000000000), .lit (.int .u64 100000000000000000), .lit (.int .u64 1000000000000000000), .lit (.int .u64 10000000000000000000)]
def laid_unicode_utf8_acceptRanges {H : Type} : DataW H := .agg [.agg [.lit (.int .u8 128), .lit (.int .u8 191)], .agg [.lit (.int .u8 160), .lit (.int .u8 191)], .agg [.lit (.int .u8 128), .lit (.int .u8 159)], .agg [.lit (.int .u8 144), .lit (.int .u8 191)], .agg [.lit (.int .u8 128), .lit (.int .u8 143)], .agg [.lit (.int .u8 0), .lit (.int .u8 0)], .agg [.lit (.int .u8 0), .lit (.int .u8 0)], .agg [.lit (.int .u8 0), .lit (.int .u8 0)], .agg [.lit (.int .u8 0), .lit (.int .u8 0)], .agg [.lit (.int .u8 0), .lit (.int .u8 0)], .agg [.lit (.int .u8 0), .lit (.int .u8 0)], .agg [.lit (.int .u8 0), .lit (.int .u8 0)], .agg [.lit (.int .u8 0), .lit (.int .u8 0)], .agg [.lit (.int .u8 0), .lit (.int .u8 0)], .agg [.lit (.int .u8 0), .lit (.int .u8 0)], .agg [.lit (.int .u8 0), .lit (.int .u8 0)]]
def laid_crossbuck_script_kinds {H : Type} : DataW H := .agg [.lit (.string [114, 101, 97, 99, 104]), .lit (.string [108, 111, 111, 112]), .lit (.string [104, 111, 108, 101]), .lit (.string [100, 114, 111, 112]), .lit (.string [100, 101, 110, 105, 101, 100]), .lit (.string [108, 101, 102, 116])]
/-- One of Go's own tables, pinned by name: the form's constant. -/
def laid_unicode_utf8_first : DataW Unit := Go.Pinned.utf8First

/-- 'crossbucklaw25.ScriptTopos': WHATEVER THE INPUT: true; the input reads as it did. -/
def scriptToposSpec : ChangeSpec := { name := "scriptTopos", fn := fun _ => fun
  | [d1, d2] => { results := [.lit (.bool true)], args := [d1, d2] }
  | _ => none }
def scriptToposRow : OpenClaim := { program := "ytloclimoffhbhaadoor", sum := "40dc7ecc904dc0faa3586bb31a583712cb304c7c2abb60890c75aed54c47ead3", func := "crossbuck/crossbucklaw25.ScriptTopos", spec := "scriptTopos", inPlace := ["internal/bytealg.IndexByteString", "internal/bytealg.IndexString", "internal/bytealg.CountString", "internal/abi.NoEscape", "internal/bytealg.MakeNoZero"], named := ["internal/bytealg.MaxLen", "unicode/utf8.first", "unicode/utf8.acceptRanges", "crossbuck/script.kinds", "internal/strconv.uint64pow10", "math/bits.deBruijn32tab", "math/bits.deBruijn64tab"], apart := false, laid := [("math/bits.deBruijn32tab", laid_math_bits_deBruijn32tab), ("math/bits.deBruijn64tab", laid_math_bits_deBruijn64tab), ("internal/strconv.uint64pow10", laid_internal_strconv_uint64pow10), ("unicode/utf8.acceptRanges", laid_unicode_utf8_acceptRanges), ("crossbuck/script.kinds", laid_crossbuck_script_kinds), ("unicode/utf8.first", laid_unicode_utf8_first)] }
def ScriptToposSaid : Prop := scriptToposRow.holds Tryd.pinned (OpenSpec.ofChange scriptToposSpec)

/-- ITS FALSE NEIGHBOUR: 'it returns false'. Refute it at one input. -/
def scriptToposWrong : ChangeSpec := { name := "scriptTopos", fn := fun _ => fun
  | [d1, d2] => { results := [.lit (.bool false)], args := [d1, d2] }
  | _ => none }
def ScriptToposWrongFalsely : Prop := scriptToposRow.holds Tryd.pinned (OpenSpec.ofChange scriptToposWrong)

/-- 'crossbucklaw25.ScriptReads': WHATEVER THE INPUT: true; the input reads as it did. -/
def scriptReadsSpec : ChangeSpec := { name := "scriptReads", fn := fun _ => fun
  | [d] => { results := [.lit (.bool true)], args := [d] }
  | _ => none }
def scriptReadsRow : OpenClaim := { program := "ytloclimoffhbhaadoor", sum := "40dc7ecc904dc0faa3586bb31a583712cb304c7c2abb60890c75aed54c47ead3", func := "crossbuck/crossbucklaw25.ScriptReads", spec := "scriptReads", inPlace := ["internal/bytealg.IndexByteString", "internal/bytealg.IndexString", "internal/bytealg.CountString", "internal/abi.NoEscape", "internal/bytealg.MakeNoZero"], named := ["internal/bytealg.MaxLen", "unicode/utf8.first", "unicode/utf8.acceptRanges", "crossbuck/script.kinds", "internal/strconv.uint64pow10", "math/bits.deBruijn32tab", "math/bits.deBruijn64tab"], apart := false, laid := [("math/bits.deBruijn32tab", laid_math_bits_deBruijn32tab), ("math/bits.deBruijn64tab", laid_math_bits_deBruijn64tab), ("internal/strconv.uint64pow10", laid_internal_strconv_uint64pow10), ("unicode/utf8.acceptRanges", laid_unicode_utf8_acceptRanges), ("crossbuck/script.kinds", laid_crossbuck_script_kinds), ("unicode/utf8.first", laid_unicode_utf8_first)] }
def ScriptReadsSaid : Prop := scriptReadsRow.holds Tryd.pinned (OpenSpec.ofChange scriptReadsSpec)

/-- ITS FALSE NEIGHBOUR: 'it returns false'. Refute it at one input. -/
def scriptReadsWrong : ChangeSpec := { name := "scriptReads", fn := fun _ => fun
  | [d] => { results := [.lit (.bool false)], args := [d] }
  | _ => none }
def ScriptReadsWrongFalsely : Prop := scriptReadsRow.holds Tryd.pinned (OpenSpec.ofChange scriptReadsWrong)

/-- 'crossbucklaw02.HdrNumbers': WHATEVER THE INPUT: true; the input reads as it did. -/
def hdrNumbersSpec : ChangeSpec := { name := "hdrNumbers", fn := fun _ => fun
  | [d1, d2] => { results := [.lit (.bool true)], args := [d1, d2] }
  | _ => none }
def hdrNumbersRow : OpenClaim := { program := "ytloclimoffhbhaadoor", sum := "40dc7ecc904dc0faa3586bb31a583712cb304c7c2abb60890c75aed54c47ead3", func := "crossbuck/crossbucklaw02.HdrNumbers", spec := "hdrNumbers", inPlace := ["internal/abi.NoEscape", "internal/bytealg.MakeNoZero"], named := ["internal/strconv.uint64pow10", "math/bits.deBruijn32tab", "math/bits.deBruijn64tab"], apart := false, laid := [("math/bits.deBruijn32tab", laid_math_bits_deBruijn32tab), ("math/bits.deBruijn64tab", laid_math_bits_deBruijn64tab), ("internal/strconv.uint64pow10", laid_internal_strconv_uint64pow10)] }
def HdrNumbersSaid : Prop := hdrNumbersRow.holds Tryd.pinned (OpenSpec.ofChange hdrNumbersSpec)

/-- ITS FALSE NEIGHBOUR: 'it returns false'. Refute it at one input. -/
def hdrNumbersWrong : ChangeSpec := { name := "hdrNumbers", fn := fun _ => fun
  | [d1, d2] => { results := [.lit (.bool false)], args := [d1, d2] }
  | _ => none }
def HdrNumbersWrongFalsely : Prop := hdrNumbersRow.holds Tryd.pinned (OpenSpec.ofChange hdrNumbersWrong)

/-- 'crossbucklaw03.CidrReads': WHATEVER THE INPUT: true; the input reads as it did. -/
def cidrReadsSpec : ChangeSpec := { name := "cidrReads", fn := fun _ => fun
  | [d] => { results := [.lit (.bool true)], args := [d] }
  | _ => none }
def cidrReadsRow : OpenClaim := { program := "ytloclimoffhbhaadoor", sum := "40dc7ecc904dc0faa3586bb31a583712cb304c7c2abb60890c75aed54c47ead3", func := "crossbuck/crossbucklaw03.CidrReads", spec := "cidrReads", inPlace := ["internal/bytealg.IndexByteString", "internal/bytealg.IndexString", "internal/bytealg.CountString"], named := ["internal/bytealg.MaxLen", "unicode/utf8.first", "unicode/utf8.acceptRanges"], apart := false, laid := [("unicode/utf8.acceptRanges", laid_unicode_utf8_acceptRanges), ("unicode/utf8.first", laid_unicode_utf8_first)] }
def CidrReadsSaid : Prop := cidrReadsRow.holds Tryd.pinned (OpenSpec.ofChange cidrReadsSpec)

/-- ITS FALSE NEIGHBOUR: 'it returns false'. Refute it at one input. -/
def cidrReadsWrong : ChangeSpec := { name := "cidrReads", fn := fun _ => fun
  | [d] => { results := [.lit (.bool false)], args := [d] }
  | _ => none }
def CidrReadsWrongFalsely : Prop := cidrReadsRow.holds Tryd.pinned (OpenSpec.ofChange cidrReadsWrong)

/-- 'crossbucklaw02.HdrBits': WHATEVER THE INPUT: true; the input reads as it did. -/
def hdrBitsSpec : ChangeSpec := { name := "hdrBits", fn := fun _ => fun
  | [d1, d2, d3] => { results := [.lit (.bool true)], args := [d1, d2, d3] }
  | _ => none }
def hdrBitsRow : OpenClaim := { program := "ytloclimoffhbhaadoor", sum := "40dc7ecc904dc0faa3586bb31a583712cb304c7c2abb60890c75aed54c47ead3", func := "crossbuck/crossbucklaw02.HdrBits", spec := "hdrBits", inPlace := ["internal/abi.NoEscape", "internal/bytealg.MakeNoZero"], named := ["internal/strconv.uint64pow10", "math/bits.deBruijn32tab", "math/bits.deBruijn64tab"], apart := false, laid := [("math/bits.deBruijn32tab", laid_math_bits_deBruijn32tab), ("math/bits.deBruijn64tab", laid_math_bits_deBruijn64tab), ("internal/strconv.uint64pow10", laid_internal_strconv_uint64pow10)] }
def HdrBitsSaid : Prop := hdrBitsRow.holds Tryd.pinned (OpenSpec.ofChange hdrBitsSpec)

/-- ITS FALSE NEIGHBOUR: 'it returns false'. Refute it at one input. -/
def hdrBitsWrong : ChangeSpec := { name := "hdrBits", fn := fun _ => fun
  | [d1, d2, d3] => { results := [.lit (.bool false)], args := [d1, d2, d3] }
  | _ => none }
def HdrBitsWrongFalsely : Prop := hdrBitsRow.holds Tryd.pinned (OpenSpec.ofChange hdrBitsWrong)

/-- 'crossbucklaw02.HdrTurns': WHATEVER THE INPUT: true; the input reads as it did. -/
def hdrTurnsSpec : ChangeSpec := { name := "hdrTurns", fn := fun _ => fun
  | [d1, d2, d3, d4] => { results := [.lit (.bool true)], args := [d1, d2, d3, d4] }
  | _ => none }
def hdrTurnsRow : OpenClaim := { program := "ytloclimoffhbhaadoor", sum := "40dc7ecc904dc0faa3586bb31a583712cb304c7c2abb60890c75aed54c47ead3", func := "crossbuck/crossbucklaw02.HdrTurns", spec := "hdrTurns", inPlace := ["internal/abi.NoEscape", "internal/bytealg.MakeNoZero"], named := ["internal/strconv.uint64pow10", "math/bits.deBruijn32tab", "math/bits.deBruijn64tab"], apart := false, laid := [("math/bits.deBruijn32tab", laid_math_bits_deBruijn32tab), ("math/bits.deBruijn64tab", laid_math_bits_deBruijn64tab), ("internal/strconv.uint64pow10", laid_internal_strconv_uint64pow10)] }
def HdrTurnsSaid : Prop := hdrTurnsRow.holds Tryd.pinned (OpenSpec.ofChange hdrTurnsSpec)

/-- ITS FALSE NEIGHBOUR: 'it returns false'. Refute it at one input. -/
def hdrTurnsWrong : ChangeSpec := { name := "hdrTurns", fn := fun _ => fun
  | [d1, d2, d3, d4] => { results := [.lit (.bool false)], args := [d1, d2, d3, d4] }
  | _ => none }
def HdrTurnsWrongFalsely : Prop := hdrTurnsRow.holds Tryd.pinned (OpenSpec.ofChange hdrTurnsWrong)

/-- 'crossbucklaw04.FilterMatches': WHATEVER THE INPUT: true; the input reads as it did. -/
def filterMatchesSpec : ChangeSpec := { name := "filterMatches", fn := fun _ => fun
  | [d1, d2] => { results := [.lit (.bool true)], args := [d1, d2] }
  | _ => none }
def filterMatchesRow : OpenClaim := { program := "ytloclimoffhbhaadoor", sum := "40dc7ecc904dc0faa3586bb31a583712cb304c7c2abb60890c75aed54c47ead3", func := "crossbuck/crossbucklaw04.FilterMatches", spec := "filterMatches", inPlace := ["internal/bytealg.CountString", "internal/bytealg.IndexByteString", "internal/bytealg.IndexString"], named := ["unicode/utf8.first", "unicode/utf8.acceptRanges", "internal/bytealg.MaxLen"], apart := false, laid := [("unicode/utf8.acceptRanges", laid_unicode_utf8_acceptRanges), ("unicode/utf8.first", laid_unicode_utf8_first)] }
def FilterMatchesSaid : Prop := filterMatchesRow.holds Tryd.pinned (OpenSpec.ofChange filterMatchesSpec)

/-- ITS FALSE NEIGHBOUR: 'it returns false'. Refute it at one input. -/
def filterMatchesWrong : ChangeSpec := { name := "filterMatches", fn := fun _ => fun
  | [d1, d2] => { results := [.lit (.bool false)], args := [d1, d2] }
  | _ => none }
def FilterMatchesWrongFalsely : Prop := filterMatchesRow.holds Tryd.pinned (OpenSpec.ofChange filterMatchesWrong)

/-- 'crossbucklaw04.FilterParts': WHATEVER THE INPUT: true; the input reads as it did. -/
def filterPartsSpec : ChangeSpec := { name := "filterParts", fn := fun _ => fun
  | [d1, d2] => { results := [.lit (.bool true)], args := [d1, d2] }
  | _ => none }
def filterPartsRow : OpenClaim := { program := "ytloclimoffhbhaadoor", sum := "40dc7ecc904dc0faa3586bb31a583712cb304c7c2abb60890c75aed54c47ead3", func := "crossbuck/crossbucklaw04.FilterParts", spec := "filterParts", inPlace := ["internal/bytealg.CountString", "internal/bytealg.IndexByteString", "internal/bytealg.IndexString"], named := ["unicode/utf8.first", "unicode/utf8.acceptRanges", "internal/bytealg.MaxLen"], apart := false, laid := [("unicode/utf8.acceptRanges", laid_unicode_utf8_acceptRanges), ("unicode/utf8.first", laid_unicode_utf8_first)] }
def FilterPartsSaid : Prop := filterPartsRow.holds Tryd.pinned (OpenSpec.ofChange filterPartsSpec)

/-- ITS FALSE NEIGHBOUR: 'it returns false'. Refute it at one input. -/
def filterPartsWrong : ChangeSpec := { name := "filterParts", fn := fun _ => fun
  | [d1, d2] => { results := [.lit (.bool false)], args := [d1, d2] }
  | _ => none }
def FilterPartsWrongFalsely : Prop := filterPartsRow.holds Tryd.pinned (OpenSpec.ofChange filterPartsWrong)

/-- 'crossbucklaw04.FilterMeets': WHATEVER THE INPUT: true; the input reads as it did. -/
def filterMeetsSpec : ChangeSpec := { name := "filterMeets", fn := fun _ => fun
  | [d1, d2, d3] => { results := [.lit (.bool true)], args := [d1, d2, d3] }
  | _ => none }
def filterMeetsRow : OpenClaim := { program := "ytloclimoffhbhaadoor", sum := "40dc7ecc904dc0faa3586bb31a583712cb304c7c2abb60890c75aed54c47ead3", func := "crossbuck/crossbucklaw04.FilterMeets", spec := "filterMeets", inPlace := ["internal/bytealg.CountString", "internal/bytealg.IndexByteString", "internal/bytealg.IndexString"], named := ["unicode/utf8.first", "unicode/utf8.acceptRanges", "internal/bytealg.MaxLen"], apart := false, laid := [("unicode/utf8.acceptRanges", laid_unicode_utf8_acceptRanges), ("unicode/utf8.first", laid_unicode_utf8_first)] }
def FilterMeetsSaid : Prop := filterMeetsRow.holds Tryd.pinned (OpenSpec.ofChange filterMeetsSpec)

/-- ITS FALSE NEIGHBOUR: 'it returns false'. Refute it at one input. -/
def filterMeetsWrong : ChangeSpec := { name := "filterMeets", fn := fun _ => fun
  | [d1, d2, d3] => { results := [.lit (.bool false)], args := [d1, d2, d3] }
  | _ => none }
def FilterMeetsWrongFalsely : Prop := filterMeetsRow.holds Tryd.pinned (OpenSpec.ofChange filterMeetsWrong)

/-- 'crossbucklaw02.HdrTexts': WHATEVER THE INPUT: true; the input reads as it did. -/
def hdrTextsSpec : ChangeSpec := { name := "hdrTexts", fn := fun _ => fun
  | [d] => { results := [.lit (.bool true)], args := [d] }
  | _ => none }
def hdrTextsRow : OpenClaim := { program := "ytloclimoffhbhaadoor", sum := "40dc7ecc904dc0faa3586bb31a583712cb304c7c2abb60890c75aed54c47ead3", func := "crossbuck/crossbucklaw02.HdrTexts", spec := "hdrTexts", inPlace := ["internal/abi.NoEscape", "internal/bytealg.MakeNoZero", "internal/bytealg.CountString", "internal/bytealg.IndexByteString", "internal/bytealg.IndexString"], named := ["internal/strconv.uint64pow10", "math/bits.deBruijn32tab", "math/bits.deBruijn64tab", "unicode/utf8.first", "unicode/utf8.acceptRanges", "internal/bytealg.MaxLen"], apart := false, laid := [("math/bits.deBruijn32tab", laid_math_bits_deBruijn32tab), ("math/bits.deBruijn64tab", laid_math_bits_deBruijn64tab), ("internal/strconv.uint64pow10", laid_internal_strconv_uint64pow10), ("unicode/utf8.acceptRanges", laid_unicode_utf8_acceptRanges), ("unicode/utf8.first", laid_unicode_utf8_first)] }
def HdrTextsSaid : Prop := hdrTextsRow.holds Tryd.pinned (OpenSpec.ofChange hdrTextsSpec)

/-- ITS FALSE NEIGHBOUR: 'it returns false'. Refute it at one input. -/
def hdrTextsWrong : ChangeSpec := { name := "hdrTexts", fn := fun _ => fun
  | [d] => { results := [.lit (.bool false)], args := [d] }
  | _ => none }
def HdrTextsWrongFalsely : Prop := hdrTextsRow.holds Tryd.pinned (OpenSpec.ofChange hdrTextsWrong)

/-- 'crossbucklaw02.HdrReads': WHATEVER THE INPUT: true; the input reads as it did. -/
def hdrReadsSpec : ChangeSpec := { name := "hdrReads", fn := fun _ => fun
  | [d1, d2] => { results := [.lit (.bool true)], args := [d1, d2] }
  | _ => none }
def hdrReadsRow : OpenClaim := { program := "ytloclimoffhbhaadoor", sum := "40dc7ecc904dc0faa3586bb31a583712cb304c7c2abb60890c75aed54c47ead3", func := "crossbuck/crossbucklaw02.HdrReads", spec := "hdrReads", inPlace := ["internal/abi.NoEscape", "internal/bytealg.MakeNoZero", "internal/bytealg.CountString", "internal/bytealg.IndexByteString", "internal/bytealg.IndexString"], named := ["internal/strconv.uint64pow10", "math/bits.deBruijn32tab", "math/bits.deBruijn64tab", "unicode/utf8.first", "unicode/utf8.acceptRanges", "internal/bytealg.MaxLen"], apart := false, laid := [("math/bits.deBruijn32tab", laid_math_bits_deBruijn32tab), ("math/bits.deBruijn64tab", laid_math_bits_deBruijn64tab), ("internal/strconv.uint64pow10", laid_internal_strconv_uint64pow10), ("unicode/utf8.acceptRanges", laid_unicode_utf8_acceptRanges), ("unicode/utf8.first", laid_unicode_utf8_first)] }
def HdrReadsSaid : Prop := hdrReadsRow.holds Tryd.pinned (OpenSpec.ofChange hdrReadsSpec)

/-- ITS FALSE NEIGHBOUR: 'it returns false'. Refute it at one input. -/
def hdrReadsWrong : ChangeSpec := { name := "hdrReads", fn := fun _ => fun
  | [d1, d2] => { results := [.lit (.bool false)], args := [d1, d2] }
  | _ => none }
def HdrReadsWrongFalsely : Prop := hdrReadsRow.holds Tryd.pinned (OpenSpec.ofChange hdrReadsWrong)

/-- 'crossbucklaw03.CidrTexts': WHATEVER THE INPUT: true; the input reads as it did. -/
def cidrTextsSpec : ChangeSpec := { name := "cidrTexts", fn := fun _ => fun
  | [d1, d2] => { results := [.lit (.bool true)], args := [d1, d2] }
  | _ => none }
def cidrTextsRow : OpenClaim := { program := "ytloclimoffhbhaadoor", sum := "40dc7ecc904dc0faa3586bb31a583712cb304c7c2abb60890c75aed54c47ead3", func := "crossbuck/crossbucklaw03.CidrTexts", spec := "cidrTexts", inPlace := ["internal/bytealg.IndexByteString", "internal/bytealg.IndexString", "internal/abi.NoEscape", "internal/bytealg.MakeNoZero", "internal/bytealg.CountString"], named := ["internal/strconv.uint64pow10", "math/bits.deBruijn32tab", "math/bits.deBruijn64tab", "internal/bytealg.MaxLen", "unicode/utf8.first", "unicode/utf8.acceptRanges"], apart := false, laid := [("math/bits.deBruijn32tab", laid_math_bits_deBruijn32tab), ("math/bits.deBruijn64tab", laid_math_bits_deBruijn64tab), ("internal/strconv.uint64pow10", laid_internal_strconv_uint64pow10), ("unicode/utf8.acceptRanges", laid_unicode_utf8_acceptRanges), ("unicode/utf8.first", laid_unicode_utf8_first)] }
def CidrTextsSaid : Prop := cidrTextsRow.holds Tryd.pinned (OpenSpec.ofChange cidrTextsSpec)

/-- ITS FALSE NEIGHBOUR: 'it returns false'. Refute it at one input. -/
def cidrTextsWrong : ChangeSpec := { name := "cidrTexts", fn := fun _ => fun
  | [d1, d2] => { results := [.lit (.bool false)], args := [d1, d2] }
  | _ => none }
def CidrTextsWrongFalsely : Prop := cidrTextsRow.holds Tryd.pinned (OpenSpec.ofChange cidrTextsWrong)

/-- 'crossbucklaw04.FilterTexts': WHATEVER THE INPUT: true; the input reads as it did. -/
def filterTextsSpec : ChangeSpec := { name := "filterTexts", fn := fun _ => fun
  | [d1, d2] => { results := [.lit (.bool true)], args := [d1, d2] }
  | _ => none }
def filterTextsRow : OpenClaim := { program := "ytloclimoffhbhaadoor", sum := "40dc7ecc904dc0faa3586bb31a583712cb304c7c2abb60890c75aed54c47ead3", func := "crossbuck/crossbucklaw04.FilterTexts", spec := "filterTexts", inPlace := ["internal/bytealg.CountString", "internal/bytealg.IndexByteString", "internal/bytealg.IndexString", "internal/abi.NoEscape", "internal/bytealg.MakeNoZero"], named := ["unicode/utf8.first", "unicode/utf8.acceptRanges", "internal/bytealg.MaxLen", "internal/strconv.uint64pow10", "math/bits.deBruijn32tab", "math/bits.deBruijn64tab"], apart := false, laid := [("math/bits.deBruijn32tab", laid_math_bits_deBruijn32tab), ("math/bits.deBruijn64tab", laid_math_bits_deBruijn64tab), ("internal/strconv.uint64pow10", laid_internal_strconv_uint64pow10), ("unicode/utf8.acceptRanges", laid_unicode_utf8_acceptRanges), ("unicode/utf8.first", laid_unicode_utf8_first)] }
def FilterTextsSaid : Prop := filterTextsRow.holds Tryd.pinned (OpenSpec.ofChange filterTextsSpec)

/-- ITS FALSE NEIGHBOUR: 'it returns false'. Refute it at one input. -/
def filterTextsWrong : ChangeSpec := { name := "filterTexts", fn := fun _ => fun
  | [d1, d2] => { results := [.lit (.bool false)], args := [d1, d2] }
  | _ => none }
def FilterTextsWrongFalsely : Prop := filterTextsRow.holds Tryd.pinned (OpenSpec.ofChange filterTextsWrong)

/-- 'crossbucklaw25.ScriptChanges': WHATEVER THE INPUT: true; the input reads as it did. -/
def scriptChangesSpec : ChangeSpec := { name := "scriptChanges", fn := fun _ => fun
  | [d] => { results := [.lit (.bool true)], args := [d] }
  | _ => none }
def scriptChangesRow : OpenClaim := { program := "ytloclimoffhbhaadoor", sum := "40dc7ecc904dc0faa3586bb31a583712cb304c7c2abb60890c75aed54c47ead3", func := "crossbuck/crossbucklaw25.ScriptChanges", spec := "scriptChanges", inPlace := ["internal/bytealg.IndexByteString", "internal/bytealg.IndexString", "internal/bytealg.CountString", "internal/abi.NoEscape", "internal/bytealg.MakeNoZero"], named := ["internal/bytealg.MaxLen", "unicode/utf8.first", "unicode/utf8.acceptRanges", "crossbuck/script.kinds", "internal/strconv.uint64pow10", "math/bits.deBruijn32tab", "math/bits.deBruijn64tab"], apart := false, laid := [("math/bits.deBruijn32tab", laid_math_bits_deBruijn32tab), ("math/bits.deBruijn64tab", laid_math_bits_deBruijn64tab), ("internal/strconv.uint64pow10", laid_internal_strconv_uint64pow10), ("unicode/utf8.acceptRanges", laid_unicode_utf8_acceptRanges), ("crossbuck/script.kinds", laid_crossbuck_script_kinds), ("unicode/utf8.first", laid_unicode_utf8_first)] }
def ScriptChangesSaid : Prop := scriptChangesRow.holds Tryd.pinned (OpenSpec.ofChange scriptChangesSpec)

/-- ITS FALSE NEIGHBOUR: 'it returns false'. Refute it at one input. -/
def scriptChangesWrong : ChangeSpec := { name := "scriptChanges", fn := fun _ => fun
  | [d] => { results := [.lit (.bool false)], args := [d] }
  | _ => none }
def ScriptChangesWrongFalsely : Prop := scriptChangesRow.holds Tryd.pinned (OpenSpec.ofChange scriptChangesWrong)

/-- 'crossbucklaw25.ScriptCalls': WHATEVER THE INPUT: true; the input reads as it did. -/
def scriptCallsSpec : ChangeSpec := { name := "scriptCalls", fn := fun _ => fun
  | [d] => { results := [.lit (.bool true)], args := [d] }
  | _ => none }
def scriptCallsRow : OpenClaim := { program := "ytloclimoffhbhaadoor", sum := "40dc7ecc904dc0faa3586bb31a583712cb304c7c2abb60890c75aed54c47ead3", func := "crossbuck/crossbucklaw25.ScriptCalls", spec := "scriptCalls", inPlace := ["internal/bytealg.IndexByteString", "internal/bytealg.IndexString", "internal/bytealg.CountString", "internal/abi.NoEscape", "internal/bytealg.MakeNoZero"], named := ["internal/bytealg.MaxLen", "unicode/utf8.first", "unicode/utf8.acceptRanges", "crossbuck/script.kinds", "internal/strconv.uint64pow10", "math/bits.deBruijn32tab", "math/bits.deBruijn64tab"], apart := false, laid := [("math/bits.deBruijn32tab", laid_math_bits_deBruijn32tab), ("math/bits.deBruijn64tab", laid_math_bits_deBruijn64tab), ("internal/strconv.uint64pow10", laid_internal_strconv_uint64pow10), ("unicode/utf8.acceptRanges", laid_unicode_utf8_acceptRanges), ("crossbuck/script.kinds", laid_crossbuck_script_kinds), ("unicode/utf8.first", laid_unicode_utf8_first)] }
def ScriptCallsSaid : Prop := scriptCallsRow.holds Tryd.pinned (OpenSpec.ofChange scriptCallsSpec)

/-- ITS FALSE NEIGHBOUR: 'it returns false'. Refute it at one input. -/
def scriptCallsWrong : ChangeSpec := { name := "scriptCalls", fn := fun _ => fun
  | [d] => { results := [.lit (.bool false)], args := [d] }
  | _ => none }
def ScriptCallsWrongFalsely : Prop := scriptCallsRow.holds Tryd.pinned (OpenSpec.ofChange scriptCallsWrong)

/-- 'crossbucklaw25.ScriptBatches': WHATEVER THE INPUT: true; the input reads as it did. -/
def scriptBatchesSpec : ChangeSpec := { name := "scriptBatches", fn := fun _ => fun
  | [d] => { results := [.lit (.bool true)], args := [d] }
  | _ => none }
def scriptBatchesRow : OpenClaim := { program := "ytloclimoffhbhaadoor", sum := "40dc7ecc904dc0faa3586bb31a583712cb304c7c2abb60890c75aed54c47ead3", func := "crossbuck/crossbucklaw25.ScriptBatches", spec := "scriptBatches", inPlace := ["internal/bytealg.IndexByteString", "internal/bytealg.IndexString", "internal/bytealg.CountString", "internal/abi.NoEscape", "internal/bytealg.MakeNoZero"], named := ["internal/bytealg.MaxLen", "unicode/utf8.first", "unicode/utf8.acceptRanges", "crossbuck/script.kinds", "internal/strconv.uint64pow10", "math/bits.deBruijn32tab", "math/bits.deBruijn64tab"], apart := false, laid := [("math/bits.deBruijn32tab", laid_math_bits_deBruijn32tab), ("math/bits.deBruijn64tab", laid_math_bits_deBruijn64tab), ("internal/strconv.uint64pow10", laid_internal_strconv_uint64pow10), ("unicode/utf8.acceptRanges", laid_unicode_utf8_acceptRanges), ("crossbuck/script.kinds", laid_crossbuck_script_kinds), ("unicode/utf8.first", laid_unicode_utf8_first)] }
def ScriptBatchesSaid : Prop := scriptBatchesRow.holds Tryd.pinned (OpenSpec.ofChange scriptBatchesSpec)

/-- ITS FALSE NEIGHBOUR: 'it returns false'. Refute it at one input. -/
def scriptBatchesWrong : ChangeSpec := { name := "scriptBatches", fn := fun _ => fun
  | [d] => { results := [.lit (.bool false)], args := [d] }
  | _ => none }
def ScriptBatchesWrongFalsely : Prop := scriptBatchesRow.holds Tryd.pinned (OpenSpec.ofChange scriptBatchesWrong)

/- THE SECOND FORM. 'bulk': how many values and letters a reading holds, each counted each time it is reached (what is shared counts as often as it is met; a slice's spare places count too). A statement '..UptoSaid' is the law's where the arguments, and the package variables that the reading takes, are together of bulk at most 1048576: NARROWER than '..Said'. Prove '..Said' where nothing that the law and all that it calls make is longer than what came in: it says more and counts as full. Else prove '..UptoSaid'. A law counts once. -/
mutual
def uptoBulk {H : Type} : DataW H → Nat
  | .lit (.string bytes) => bytes.length + 1
  | .lit _ => 1
  | .nil => 1
  | .ptr d => uptoBulk d + 1
  | .slice elems spare => uptoBulkAll elems + uptoBulkAll spare + 1
  | .agg parts => uptoBulkAll parts + 1
  | .iface _ d => uptoBulk d + 1
  | .map entries => uptoBulkEntries entries + 1
  | .held _ => 1
def uptoBulkAll {H : Type} : List (DataW H) → Nat
  | [] => 0
  | d :: r => uptoBulk d + uptoBulkAll r
def uptoBulkEntries {H : Type} : List (Lit × DataW H) → Nat
  | [] => 0
  | x :: r => uptoBulkEntry x + uptoBulkEntries r
def uptoBulkEntry {H : Type} : Lit × DataW H → Nat
  | (.string bytes, d) => bytes.length + uptoBulk d + 1
  | (_, d) => uptoBulk d + 1
 end
def uptoSmall : (H : Type) → List (DataW H) → Bool := fun _ ds => decide (uptoBulkAll ds ≤ 1048576)
def OpenSpec.upto (s : _root_.Go.ChangeSpec) : _root_.Go.OpenSpec := { _root_.Go.OpenSpec.ofChange s with cond := some uptoSmall }

/-- 'crossbucklaw25.ScriptTopos', WHERE WHAT IT READS IS OF BULK AT MOST 1048576: true; the input reads as it did. -/
def scriptToposUptoRow : OpenClaim := { program := "ytloclimoffhbhaadoor", sum := "40dc7ecc904dc0faa3586bb31a583712cb304c7c2abb60890c75aed54c47ead3", func := "crossbuck/crossbucklaw25.ScriptTopos", spec := "scriptTopos", inPlace := ["internal/bytealg.IndexByteString", "internal/bytealg.IndexString", "internal/bytealg.CountString", "internal/abi.NoEscape", "internal/bytealg.MakeNoZero"], named := ["internal/bytealg.MaxLen", "unicode/utf8.first", "unicode/utf8.acceptRanges", "crossbuck/script.kinds", "internal/strconv.uint64pow10", "math/bits.deBruijn32tab", "math/bits.deBruijn64tab"], apart := false, laid := [("math/bits.deBruijn32tab", laid_math_bits_deBruijn32tab), ("math/bits.deBruijn64tab", laid_math_bits_deBruijn64tab), ("internal/strconv.uint64pow10", laid_internal_strconv_uint64pow10), ("unicode/utf8.acceptRanges", laid_unicode_utf8_acceptRanges), ("crossbuck/script.kinds", laid_crossbuck_script_kinds), ("unicode/utf8.first", laid_unicode_utf8_first)], narrowed := true }
def ScriptToposUptoSaid : Prop := scriptToposUptoRow.holds Tryd.pinned (OpenSpec.upto scriptToposSpec)

/-- 'crossbucklaw25.ScriptReads', WHERE WHAT IT READS IS OF BULK AT MOST 1048576: true; the input reads as it did. -/
def scriptReadsUptoRow : OpenClaim := { program := "ytloclimoffhbhaadoor", sum := "40dc7ecc904dc0faa3586bb31a583712cb304c7c2abb60890c75aed54c47ead3", func := "crossbuck/crossbucklaw25.ScriptReads", spec := "scriptReads", inPlace := ["internal/bytealg.IndexByteString", "internal/bytealg.IndexString", "internal/bytealg.CountString", "internal/abi.NoEscape", "internal/bytealg.MakeNoZero"], named := ["internal/bytealg.MaxLen", "unicode/utf8.first", "unicode/utf8.acceptRanges", "crossbuck/script.kinds", "internal/strconv.uint64pow10", "math/bits.deBruijn32tab", "math/bits.deBruijn64tab"], apart := false, laid := [("math/bits.deBruijn32tab", laid_math_bits_deBruijn32tab), ("math/bits.deBruijn64tab", laid_math_bits_deBruijn64tab), ("internal/strconv.uint64pow10", laid_internal_strconv_uint64pow10), ("unicode/utf8.acceptRanges", laid_unicode_utf8_acceptRanges), ("crossbuck/script.kinds", laid_crossbuck_script_kinds), ("unicode/utf8.first", laid_unicode_utf8_first)], narrowed := true }
def ScriptReadsUptoSaid : Prop := scriptReadsUptoRow.holds Tryd.pinned (OpenSpec.upto scriptReadsSpec)

/-- 'crossbucklaw02.HdrNumbers', WHERE WHAT IT READS IS OF BULK AT MOST 1048576: true; the input reads as it did. -/
def hdrNumbersUptoRow : OpenClaim := { program := "ytloclimoffhbhaadoor", sum := "40dc7ecc904dc0faa3586bb31a583712cb304c7c2abb60890c75aed54c47ead3", func := "crossbuck/crossbucklaw02.HdrNumbers", spec := "hdrNumbers", inPlace := ["internal/abi.NoEscape", "internal/bytealg.MakeNoZero"], named := ["internal/strconv.uint64pow10", "math/bits.deBruijn32tab", "math/bits.deBruijn64tab"], apart := false, laid := [("math/bits.deBruijn32tab", laid_math_bits_deBruijn32tab), ("math/bits.deBruijn64tab", laid_math_bits_deBruijn64tab), ("internal/strconv.uint64pow10", laid_internal_strconv_uint64pow10)], narrowed := true }
def HdrNumbersUptoSaid : Prop := hdrNumbersUptoRow.holds Tryd.pinned (OpenSpec.upto hdrNumbersSpec)

/-- 'crossbucklaw03.CidrReads', WHERE WHAT IT READS IS OF BULK AT MOST 1048576: true; the input reads as it did. -/
def cidrReadsUptoRow : OpenClaim := { program := "ytloclimoffhbhaadoor", sum := "40dc7ecc904dc0faa3586bb31a583712cb304c7c2abb60890c75aed54c47ead3", func := "crossbuck/crossbucklaw03.CidrReads", spec := "cidrReads", inPlace := ["internal/bytealg.IndexByteString", "internal/bytealg.IndexString", "internal/bytealg.CountString"], named := ["internal/bytealg.MaxLen", "unicode/utf8.first", "unicode/utf8.acceptRanges"], apart := false, laid := [("unicode/utf8.acceptRanges", laid_unicode_utf8_acceptRanges), ("unicode/utf8.first", laid_unicode_utf8_first)], narrowed := true }
def CidrReadsUptoSaid : Prop := cidrReadsUptoRow.holds Tryd.pinned (OpenSpec.upto cidrReadsSpec)

/-- 'crossbucklaw02.HdrBits', WHERE WHAT IT READS IS OF BULK AT MOST 1048576: true; the input reads as it did. -/
def hdrBitsUptoRow : OpenClaim := { program := "ytloclimoffhbhaadoor", sum := "40dc7ecc904dc0faa3586bb31a583712cb304c7c2abb60890c75aed54c47ead3", func := "crossbuck/crossbucklaw02.HdrBits", spec := "hdrBits", inPlace := ["internal/abi.NoEscape", "internal/bytealg.MakeNoZero"], named := ["internal/strconv.uint64pow10", "math/bits.deBruijn32tab", "math/bits.deBruijn64tab"], apart := false, laid := [("math/bits.deBruijn32tab", laid_math_bits_deBruijn32tab), ("math/bits.deBruijn64tab", laid_math_bits_deBruijn64tab), ("internal/strconv.uint64pow10", laid_internal_strconv_uint64pow10)], narrowed := true }
def HdrBitsUptoSaid : Prop := hdrBitsUptoRow.holds Tryd.pinned (OpenSpec.upto hdrBitsSpec)

/-- 'crossbucklaw02.HdrTurns', WHERE WHAT IT READS IS OF BULK AT MOST 1048576: true; the input reads as it did. -/
def hdrTurnsUptoRow : OpenClaim := { program := "ytloclimoffhbhaadoor", sum := "40dc7ecc904dc0faa3586bb31a583712cb304c7c2abb60890c75aed54c47ead3", func := "crossbuck/crossbucklaw02.HdrTurns", spec := "hdrTurns", inPlace := ["internal/abi.NoEscape", "internal/bytealg.MakeNoZero"], named := ["internal/strconv.uint64pow10", "math/bits.deBruijn32tab", "math/bits.deBruijn64tab"], apart := false, laid := [("math/bits.deBruijn32tab", laid_math_bits_deBruijn32tab), ("math/bits.deBruijn64tab", laid_math_bits_deBruijn64tab), ("internal/strconv.uint64pow10", laid_internal_strconv_uint64pow10)], narrowed := true }
def HdrTurnsUptoSaid : Prop := hdrTurnsUptoRow.holds Tryd.pinned (OpenSpec.upto hdrTurnsSpec)

/-- 'crossbucklaw04.FilterMatches', WHERE WHAT IT READS IS OF BULK AT MOST 1048576: true; the input reads as it did. -/
def filterMatchesUptoRow : OpenClaim := { program := "ytloclimoffhbhaadoor", sum := "40dc7ecc904dc0faa3586bb31a583712cb304c7c2abb60890c75aed54c47ead3", func := "crossbuck/crossbucklaw04.FilterMatches", spec := "filterMatches", inPlace := ["internal/bytealg.CountString", "internal/bytealg.IndexByteString", "internal/bytealg.IndexString"], named := ["unicode/utf8.first", "unicode/utf8.acceptRanges", "internal/bytealg.MaxLen"], apart := false, laid := [("unicode/utf8.acceptRanges", laid_unicode_utf8_acceptRanges), ("unicode/utf8.first", laid_unicode_utf8_first)], narrowed := true }
def FilterMatchesUptoSaid : Prop := filterMatchesUptoRow.holds Tryd.pinned (OpenSpec.upto filterMatchesSpec)

/-- 'crossbucklaw04.FilterParts', WHERE WHAT IT READS IS OF BULK AT MOST 1048576: true; the input reads as it did. -/
def filterPartsUptoRow : OpenClaim := { program := "ytloclimoffhbhaadoor", sum := "40dc7ecc904dc0faa3586bb31a583712cb304c7c2abb60890c75aed54c47ead3", func := "crossbuck/crossbucklaw04.FilterParts", spec := "filterParts", inPlace := ["internal/bytealg.CountString", "internal/bytealg.IndexByteString", "internal/bytealg.IndexString"], named := ["unicode/utf8.first", "unicode/utf8.acceptRanges", "internal/bytealg.MaxLen"], apart := false, laid := [("unicode/utf8.acceptRanges", laid_unicode_utf8_acceptRanges), ("unicode/utf8.first", laid_unicode_utf8_first)], narrowed := true }
def FilterPartsUptoSaid : Prop := filterPartsUptoRow.holds Tryd.pinned (OpenSpec.upto filterPartsSpec)

/-- 'crossbucklaw04.FilterMeets', WHERE WHAT IT READS IS OF BULK AT MOST 1048576: true; the input reads as it did. -/
def filterMeetsUptoRow : OpenClaim := { program := "ytloclimoffhbhaadoor", sum := "40dc7ecc904dc0faa3586bb31a583712cb304c7c2abb60890c75aed54c47ead3", func := "crossbuck/crossbucklaw04.FilterMeets", spec := "filterMeets", inPlace := ["internal/bytealg.CountString", "internal/bytealg.IndexByteString", "internal/bytealg.IndexString"], named := ["unicode/utf8.first", "unicode/utf8.acceptRanges", "internal/bytealg.MaxLen"], apart := false, laid := [("unicode/utf8.acceptRanges", laid_unicode_utf8_acceptRanges), ("unicode/utf8.first", laid_unicode_utf8_first)], narrowed := true }
def FilterMeetsUptoSaid : Prop := filterMeetsUptoRow.holds Tryd.pinned (OpenSpec.upto filterMeetsSpec)

/-- 'crossbucklaw02.HdrTexts', WHERE WHAT IT READS IS OF BULK AT MOST 1048576: true; the input reads as it did. -/
def hdrTextsUptoRow : OpenClaim := { program := "ytloclimoffhbhaadoor", sum := "40dc7ecc904dc0faa3586bb31a583712cb304c7c2abb60890c75aed54c47ead3", func := "crossbuck/crossbucklaw02.HdrTexts", spec := "hdrTexts", inPlace := ["internal/abi.NoEscape", "internal/bytealg.MakeNoZero", "internal/bytealg.CountString", "internal/bytealg.IndexByteString", "internal/bytealg.IndexString"], named := ["internal/strconv.uint64pow10", "math/bits.deBruijn32tab", "math/bits.deBruijn64tab", "unicode/utf8.first", "unicode/utf8.acceptRanges", "internal/bytealg.MaxLen"], apart := false, laid := [("math/bits.deBruijn32tab", laid_math_bits_deBruijn32tab), ("math/bits.deBruijn64tab", laid_math_bits_deBruijn64tab), ("internal/strconv.uint64pow10", laid_internal_strconv_uint64pow10), ("unicode/utf8.acceptRanges", laid_unicode_utf8_acceptRanges), ("unicode/utf8.first", laid_unicode_utf8_first)], narrowed := true }
def HdrTextsUptoSaid : Prop := hdrTextsUptoRow.holds Tryd.pinned (OpenSpec.upto hdrTextsSpec)

/-- 'crossbucklaw02.HdrReads', WHERE WHAT IT READS IS OF BULK AT MOST 1048576: true; the input reads as it did. -/
def hdrReadsUptoRow : OpenClaim := { program := "ytloclimoffhbhaadoor", sum := "40dc7ecc904dc0faa3586bb31a583712cb304c7c2abb60890c75aed54c47ead3", func := "crossbuck/crossbucklaw02.HdrReads", spec := "hdrReads", inPlace := ["internal/abi.NoEscape", "internal/bytealg.MakeNoZero", "internal/bytealg.CountString", "internal/bytealg.IndexByteString", "internal/bytealg.IndexString"], named := ["internal/strconv.uint64pow10", "math/bits.deBruijn32tab", "math/bits.deBruijn64tab", "unicode/utf8.first", "unicode/utf8.acceptRanges", "internal/bytealg.MaxLen"], apart := false, laid := [("math/bits.deBruijn32tab", laid_math_bits_deBruijn32tab), ("math/bits.deBruijn64tab", laid_math_bits_deBruijn64tab), ("internal/strconv.uint64pow10", laid_internal_strconv_uint64pow10), ("unicode/utf8.acceptRanges", laid_unicode_utf8_acceptRanges), ("unicode/utf8.first", laid_unicode_utf8_first)], narrowed := true }
def HdrReadsUptoSaid : Prop := hdrReadsUptoRow.holds Tryd.pinned (OpenSpec.upto hdrReadsSpec)

/-- 'crossbucklaw03.CidrTexts', WHERE WHAT IT READS IS OF BULK AT MOST 1048576: true; the input reads as it did. -/
def cidrTextsUptoRow : OpenClaim := { program := "ytloclimoffhbhaadoor", sum := "40dc7ecc904dc0faa3586bb31a583712cb304c7c2abb60890c75aed54c47ead3", func := "crossbuck/crossbucklaw03.CidrTexts", spec := "cidrTexts", inPlace := ["internal/bytealg.IndexByteString", "internal/bytealg.IndexString", "internal/abi.NoEscape", "internal/bytealg.MakeNoZero", "internal/bytealg.CountString"], named := ["internal/strconv.uint64pow10", "math/bits.deBruijn32tab", "math/bits.deBruijn64tab", "internal/bytealg.MaxLen", "unicode/utf8.first", "unicode/utf8.acceptRanges"], apart := false, laid := [("math/bits.deBruijn32tab", laid_math_bits_deBruijn32tab), ("math/bits.deBruijn64tab", laid_math_bits_deBruijn64tab), ("internal/strconv.uint64pow10", laid_internal_strconv_uint64pow10), ("unicode/utf8.acceptRanges", laid_unicode_utf8_acceptRanges), ("unicode/utf8.first", laid_unicode_utf8_first)], narrowed := true }
def CidrTextsUptoSaid : Prop := cidrTextsUptoRow.holds Tryd.pinned (OpenSpec.upto cidrTextsSpec)

/-- 'crossbucklaw04.FilterTexts', WHERE WHAT IT READS IS OF BULK AT MOST 1048576: true; the input reads as it did. -/
def filterTextsUptoRow : OpenClaim := { program := "ytloclimoffhbhaadoor", sum := "40dc7ecc904dc0faa3586bb31a583712cb304c7c2abb60890c75aed54c47ead3", func := "crossbuck/crossbucklaw04.FilterTexts", spec := "filterTexts", inPlace := ["internal/bytealg.CountString", "internal/bytealg.IndexByteString", "internal/bytealg.IndexString", "internal/abi.NoEscape", "internal/bytealg.MakeNoZero"], named := ["unicode/utf8.first", "unicode/utf8.acceptRanges", "internal/bytealg.MaxLen", "internal/strconv.uint64pow10", "math/bits.deBruijn32tab", "math/bits.deBruijn64tab"], apart := false, laid := [("math/bits.deBruijn32tab", laid_math_bits_deBruijn32tab), ("math/bits.deBruijn64tab", laid_math_bits_deBruijn64tab), ("internal/strconv.uint64pow10", laid_internal_strconv_uint64pow10), ("unicode/utf8.acceptRanges", laid_unicode_utf8_acceptRanges), ("unicode/utf8.first", laid_unicode_utf8_first)], narrowed := true }
def FilterTextsUptoSaid : Prop := filterTextsUptoRow.holds Tryd.pinned (OpenSpec.upto filterTextsSpec)

/-- 'crossbucklaw25.ScriptChanges', WHERE WHAT IT READS IS OF BULK AT MOST 1048576: true; the input reads as it did. -/
def scriptChangesUptoRow : OpenClaim := { program := "ytloclimoffhbhaadoor", sum := "40dc7ecc904dc0faa3586bb31a583712cb304c7c2abb60890c75aed54c47ead3", func := "crossbuck/crossbucklaw25.ScriptChanges", spec := "scriptChanges", inPlace := ["internal/bytealg.IndexByteString", "internal/bytealg.IndexString", "internal/bytealg.CountString", "internal/abi.NoEscape", "internal/bytealg.MakeNoZero"], named := ["internal/bytealg.MaxLen", "unicode/utf8.first", "unicode/utf8.acceptRanges", "crossbuck/script.kinds", "internal/strconv.uint64pow10", "math/bits.deBruijn32tab", "math/bits.deBruijn64tab"], apart := false, laid := [("math/bits.deBruijn32tab", laid_math_bits_deBruijn32tab), ("math/bits.deBruijn64tab", laid_math_bits_deBruijn64tab), ("internal/strconv.uint64pow10", laid_internal_strconv_uint64pow10), ("unicode/utf8.acceptRanges", laid_unicode_utf8_acceptRanges), ("crossbuck/script.kinds", laid_crossbuck_script_kinds), ("unicode/utf8.first", laid_unicode_utf8_first)], narrowed := true }
def ScriptChangesUptoSaid : Prop := scriptChangesUptoRow.holds Tryd.pinned (OpenSpec.upto scriptChangesSpec)

/-- 'crossbucklaw25.ScriptCalls', WHERE WHAT IT READS IS OF BULK AT MOST 1048576: true; the input reads as it did. -/
def scriptCallsUptoRow : OpenClaim := { program := "ytloclimoffhbhaadoor", sum := "40dc7ecc904dc0faa3586bb31a583712cb304c7c2abb60890c75aed54c47ead3", func := "crossbuck/crossbucklaw25.ScriptCalls", spec := "scriptCalls", inPlace := ["internal/bytealg.IndexByteString", "internal/bytealg.IndexString", "internal/bytealg.CountString", "internal/abi.NoEscape", "internal/bytealg.MakeNoZero"], named := ["internal/bytealg.MaxLen", "unicode/utf8.first", "unicode/utf8.acceptRanges", "crossbuck/script.kinds", "internal/strconv.uint64pow10", "math/bits.deBruijn32tab", "math/bits.deBruijn64tab"], apart := false, laid := [("math/bits.deBruijn32tab", laid_math_bits_deBruijn32tab), ("math/bits.deBruijn64tab", laid_math_bits_deBruijn64tab), ("internal/strconv.uint64pow10", laid_internal_strconv_uint64pow10), ("unicode/utf8.acceptRanges", laid_unicode_utf8_acceptRanges), ("crossbuck/script.kinds", laid_crossbuck_script_kinds), ("unicode/utf8.first", laid_unicode_utf8_first)], narrowed := true }
def ScriptCallsUptoSaid : Prop := scriptCallsUptoRow.holds Tryd.pinned (OpenSpec.upto scriptCallsSpec)

/-- 'crossbucklaw25.ScriptBatches', WHERE WHAT IT READS IS OF BULK AT MOST 1048576: true; the input reads as it did. -/
def scriptBatchesUptoRow : OpenClaim := { program := "ytloclimoffhbhaadoor", sum := "40dc7ecc904dc0faa3586bb31a583712cb304c7c2abb60890c75aed54c47ead3", func := "crossbuck/crossbucklaw25.ScriptBatches", spec := "scriptBatches", inPlace := ["internal/bytealg.IndexByteString", "internal/bytealg.IndexString", "internal/bytealg.CountString", "internal/abi.NoEscape", "internal/bytealg.MakeNoZero"], named := ["internal/bytealg.MaxLen", "unicode/utf8.first", "unicode/utf8.acceptRanges", "crossbuck/script.kinds", "internal/strconv.uint64pow10", "math/bits.deBruijn32tab", "math/bits.deBruijn64tab"], apart := false, laid := [("math/bits.deBruijn32tab", laid_math_bits_deBruijn32tab), ("math/bits.deBruijn64tab", laid_math_bits_deBruijn64tab), ("internal/strconv.uint64pow10", laid_internal_strconv_uint64pow10), ("unicode/utf8.acceptRanges", laid_unicode_utf8_acceptRanges), ("crossbuck/script.kinds", laid_crossbuck_script_kinds), ("unicode/utf8.first", laid_unicode_utf8_first)], narrowed := true }
def ScriptBatchesUptoSaid : Prop := scriptBatchesUptoRow.holds Tryd.pinned (OpenSpec.upto scriptBatchesSpec)

end Rows
end Go.Proofs.YtloclimoffhbhaaDoor
