/-
  NARROWER THAN 'FOR EVERY INPUT', by the rows' own cells (each row's printed sentence says how): RulesParses: laid · RulesReads: laid · RulesSimple: loops, laid · RulesBlanks: loops, laid · RulesEvals: loops, laid · RulesFirst: loops, laid · RulesApplies: loops, laid · RulesPrints: loops, laid · RulesBack: loops, laid · RulesDiffers: loops, laid · RulesShadows: loops, laid · RulesClashes: loops, laid · RulesGapless: loops, laid · RulesEqual: loops, laid · RulesGaps: loops, laid · RulesChecks: loops, laid · RulesTypes: loops, laid · RulesShort: loops, laid.
  DERIVED. THE GIVEN ROWS OF THIS SEAT. 18 by the template 'for every input the law returns true; each argument reads behind the call as it read before'; 0 by the template 'total and deterministic' (their statements: YtaihlcdkcampbaaGreatDoorTotals.lean).
  GIVEN WITH THE SEED: the statements are not yours to turn. If you find one false, say at which input.
  Laid BY PROGRAM, IN A SANDBOX (cutbox-rows.mjs): the forced cells as the released guide's own fill.sh prints them over the translation 3473f621ca8d5cc4… (all of the seat's roots in one cut). By AI agents, Wed Nov 11 2026. No macro, syntax, notation, axiom, sorry.
-/
import Derived.Test.YtaihlcdkcampbaaGreatDoorChecked
import GoSem.Claim
import GoSem.ClaimJoined
import GoSem.ClaimMapViews
import Derived.JoinedTies
import Derived.KernelRfl
namespace Go.Proofs.YtaihlcdkcampbaaGreatDoor
/- THE CELL 'sum', in the pinned program and in every row, IS THE sha256 OF THE DUMP (.gsa) THAT YtaihlcdkcampbaaGreatDoorProg.lean LOADS. Nothing in Lean hashes anything: it is a label: what it is worth is what the hold of that sum in a sandbox is worth. -/
noncomputable def Tryz.pinned : Pinned := { name := "ytaihlcdkcampbaagreatdoor", sum := "3473f621ca8d5cc4a45c0cdb6f98b05203aeedfee247e5d94db6b6fd48ff2069", checked := Tryz.checked }
namespace Rows
def none {H : Type} : Left H := { results := [], args := [] }

/- WHAT THE LISTED PACKAGE-LEVEL VARIABLES READ AS WHEN THE CALL BEGINS. Each datum BY PROGRAM (the guide's laid-datum.mjs) off the statement by which the dump's own 'gosem.cut.vars' lays the variable. In a bare row this is a premise. The card (YtaihlcdkcampbaaGreatDoorCards.lean) ties it to the program's text. -/
def laid_math_bits_deBruijn32tab {H : Type} : DataW H := .agg [.lit (.int .u8 0), .lit (.int .u8 1), .lit (.int .u8 28), .lit (.int .u8 2), .lit (.int .u8 29), .lit (.int .u8 14), .lit (.int .u8 24), .lit (.int .u8 3), .lit (.int .u8 30), .lit (.int .u8 22), .lit (.int .u8 20), .lit (.int .u8 15), .lit (.int .u8 25), .lit (.int .u8 17), .lit (.int .u8 4), .lit (.int .u8 8), .lit (.int .u8 31), .lit (.int .u8 27), .lit (.int .u8 13), .lit (.int .u8 23), .lit (.int .u8 21), .lit (.int .u8 19), .lit (.int .u8 16), .lit (.int .u8 7), .lit (.int .u8 26), .lit (.int .u8 12), .lit (.int .u8 18), .lit (.int .u8 6), .lit (.int .u8 11), .lit (.int .u8 5), .lit (.int .u8 10), .lit (.int .u8 9)]
def laid_math_bits_deBruijn64tab {H : Type} : DataW H := .agg [.lit (.int .u8 0), .lit (.int .u8 1), .lit (.int .u8 56), .lit (.int .u8 2), .lit (.int .u8 57), .lit (.int .u8 49), .lit (.int .u8 28), .lit (.int .u8 3), .lit (.int .u8 61), .lit (.int .u8 58), .lit (.int .u8 42), .lit (.int .u8 50), .lit (.int .u8 38), .lit (.int .u8 29), .lit (.int .u8 17), .lit (.int .u8 4), .lit (.int .u8 62), .lit (.int .u8 47), .lit (.int .u8 59), .lit (.int .u8 36), .lit (.int .u8 45), .lit (.int .u8 43), .lit (.int .u8 51), .lit (.int .u8 22), .lit (.int .u8 53), .lit (.int .u8 39), .lit (.int .u8 33), .lit (.int .u8 30), .lit (.int .u8 24), .lit (.int .u8 18), .lit (.int .u8 12), .lit (.int .u8 5), .lit (.int .u8 63), .lit (.int .u8 55), .lit (.int .u8 48), .lit (.int .u8 27), .lit (.int .u8 60), .lit (.int .u8 41), .lit (.int .u8 37), .lit (.int .u8 16), .lit (.int .u8 46), .lit (.int .u8 35), .lit (.int .u8 44), .lit (.int .u8 21), .lit (.int .u8 52), .lit (.int .u8 32), .lit (.int .u8 23), .lit (.int .u8 11), .lit (.int .u8 54), .lit (.int .u8 26), .lit (.int .u8 40), .lit (.int .u8 15), .lit (.int .u8 34), .lit (.int .u8 20), .lit (.int .u8 31), .lit (.int .u8 10), .lit (.int .u8 25), .lit (.int .u8 14), .lit (.int .u8 19), .lit (.int .u8 9), .lit (.int .u8 13), .lit (.int .u8 8), .lit (.int .u8 7), .lit (.int .u8 6)]
def laid_internal_strconv_uint64pow10 {H : Type} : DataW H := .agg [.lit (.int .u64 1), .lit (.int .u64 10), .lit (.int .u64 100), .lit (.int .u64 1000), .lit (.int .u64 10000), .lit (.int .u64 100000), .lit (.int .u64 1000000), .lit (.int .u64 10000000), .lit (.int .u64 100000000), .lit (.int .u64 1000000000), .lit (.int .u64 10000000000), .lit (.int .u64 100000000000), .lit (.int .u64 1000000000000), .lit (.int .u64 10000000000000), .lit (.int .u64 100000000000000), .lit (.int .u64 1000000000000000), .lit (.int .u64 10000000000000000), .lit (.int .u64 100000000000000000), .lit (.int .u64 1000000000000000000), .lit (.int .u64 10000000000000000000)]
def laid_strconv_ErrRange {H : Type} : DataW H := .iface "*errors.errorString" (.ptr (.agg [.lit (.string [118, 97, 108, 117, 101, 32, 111, 117, 116, 32, 111, 102, 32, 114, 97, 110, 103, 101])]))
def laid_strconv_ErrSyntax {H : Type} : DataW H := .iface "*errors.errorString" (.ptr (.agg [.lit (.string [105, 110, 118, 97, 108, 105, 100, 32, 115, 121, 110, 116, 97, 120])]))

/-- 'pileuplaw06.RulesParses': WHATEVER THE INPUT: true; the input reads as it did. -/
def rulesParsesSpec : ChangeSpec := { name := "rulesParses", fn := fun _ => fun
  | [d] => { results := [.lit (.bool true)], args := [d] }
  | _ => none }
def rulesParsesRow : OpenClaim := { program := "ytaihlcdkcampbaagreatdoor", sum := "3473f621ca8d5cc4a45c0cdb6f98b05203aeedfee247e5d94db6b6fd48ff2069", func := "pileup/pileuplaw06.RulesParses", spec := "rulesParses", inPlace := ["internal/bytealg.IndexByteString"], unfollowed := true, recurses := true, named := ["strconv.ErrSyntax", "strconv.ErrRange", "internal/strconv.uint64pow10", "math/bits.deBruijn32tab", "math/bits.deBruijn64tab"], apart := false, laid := [("math/bits.deBruijn32tab", laid_math_bits_deBruijn32tab), ("math/bits.deBruijn64tab", laid_math_bits_deBruijn64tab), ("internal/strconv.uint64pow10", laid_internal_strconv_uint64pow10), ("strconv.ErrRange", laid_strconv_ErrRange), ("strconv.ErrSyntax", laid_strconv_ErrSyntax)] }
def RulesParsesSaid : Prop := rulesParsesRow.holds Tryz.pinned (OpenSpec.ofChange rulesParsesSpec)

/-- ITS FALSE NEIGHBOUR: 'it returns false'. Refute it at one input. -/
def rulesParsesWrong : ChangeSpec := { name := "rulesParses", fn := fun _ => fun
  | [d] => { results := [.lit (.bool false)], args := [d] }
  | _ => none }
def RulesParsesWrongFalsely : Prop := rulesParsesRow.holds Tryz.pinned (OpenSpec.ofChange rulesParsesWrong)

/-- 'pileuplaw06.RulesReads': WHATEVER THE INPUT: true; the input reads as it did. -/
def rulesReadsSpec : ChangeSpec := { name := "rulesReads", fn := fun _ => fun
  | [d] => { results := [.lit (.bool true)], args := [d] }
  | _ => none }
def rulesReadsRow : OpenClaim := { program := "ytaihlcdkcampbaagreatdoor", sum := "3473f621ca8d5cc4a45c0cdb6f98b05203aeedfee247e5d94db6b6fd48ff2069", func := "pileup/pileuplaw06.RulesReads", spec := "rulesReads", inPlace := ["internal/bytealg.IndexByteString"], unfollowed := true, recurses := true, named := ["strconv.ErrSyntax", "strconv.ErrRange", "internal/strconv.uint64pow10", "math/bits.deBruijn32tab", "math/bits.deBruijn64tab"], apart := false, laid := [("math/bits.deBruijn32tab", laid_math_bits_deBruijn32tab), ("math/bits.deBruijn64tab", laid_math_bits_deBruijn64tab), ("internal/strconv.uint64pow10", laid_internal_strconv_uint64pow10), ("strconv.ErrRange", laid_strconv_ErrRange), ("strconv.ErrSyntax", laid_strconv_ErrSyntax)] }
def RulesReadsSaid : Prop := rulesReadsRow.holds Tryz.pinned (OpenSpec.ofChange rulesReadsSpec)

/-- ITS FALSE NEIGHBOUR: 'it returns false'. Refute it at one input. -/
def rulesReadsWrong : ChangeSpec := { name := "rulesReads", fn := fun _ => fun
  | [d] => { results := [.lit (.bool false)], args := [d] }
  | _ => none }
def RulesReadsWrongFalsely : Prop := rulesReadsRow.holds Tryz.pinned (OpenSpec.ofChange rulesReadsWrong)

/-- 'pileuplaw06.RulesSimple': WHATEVER THE INPUT: true; the input reads as it did. -/
def rulesSimpleSpec : ChangeSpec := { name := "rulesSimple", fn := fun _ => fun
  | [d] => { results := [.lit (.bool true)], args := [d] }
  | _ => none }
def rulesSimpleRow : OpenClaim := { program := "ytaihlcdkcampbaagreatdoor", sum := "3473f621ca8d5cc4a45c0cdb6f98b05203aeedfee247e5d94db6b6fd48ff2069", func := "pileup/pileuplaw06.RulesSimple", spec := "rulesSimple", inPlace := ["internal/bytealg.IndexByteString"], unfollowed := true, recurses := true, named := ["strconv.ErrSyntax", "strconv.ErrRange", "internal/strconv.uint64pow10", "math/bits.deBruijn32tab", "math/bits.deBruijn64tab"], loops := true, apart := false, laid := [("math/bits.deBruijn32tab", laid_math_bits_deBruijn32tab), ("math/bits.deBruijn64tab", laid_math_bits_deBruijn64tab), ("internal/strconv.uint64pow10", laid_internal_strconv_uint64pow10), ("strconv.ErrRange", laid_strconv_ErrRange), ("strconv.ErrSyntax", laid_strconv_ErrSyntax)] }
def RulesSimpleSaid : Prop := rulesSimpleRow.holds Tryz.pinned (OpenSpec.ofChange rulesSimpleSpec)

/-- ITS FALSE NEIGHBOUR: 'it returns false'. Refute it at one input. -/
def rulesSimpleWrong : ChangeSpec := { name := "rulesSimple", fn := fun _ => fun
  | [d] => { results := [.lit (.bool false)], args := [d] }
  | _ => none }
def RulesSimpleWrongFalsely : Prop := rulesSimpleRow.holds Tryz.pinned (OpenSpec.ofChange rulesSimpleWrong)

/-- 'pileuplaw06.RulesBlanks': WHATEVER THE INPUT: true; the input reads as it did. -/
def rulesBlanksSpec : ChangeSpec := { name := "rulesBlanks", fn := fun _ => fun
  | [d1, d2] => { results := [.lit (.bool true)], args := [d1, d2] }
  | _ => none }
def rulesBlanksRow : OpenClaim := { program := "ytaihlcdkcampbaagreatdoor", sum := "3473f621ca8d5cc4a45c0cdb6f98b05203aeedfee247e5d94db6b6fd48ff2069", func := "pileup/pileuplaw06.RulesBlanks", spec := "rulesBlanks", inPlace := ["internal/bytealg.IndexByteString"], unfollowed := true, recurses := true, named := ["strconv.ErrSyntax", "strconv.ErrRange", "internal/strconv.uint64pow10", "math/bits.deBruijn32tab", "math/bits.deBruijn64tab"], loops := true, apart := false, laid := [("math/bits.deBruijn32tab", laid_math_bits_deBruijn32tab), ("math/bits.deBruijn64tab", laid_math_bits_deBruijn64tab), ("internal/strconv.uint64pow10", laid_internal_strconv_uint64pow10), ("strconv.ErrRange", laid_strconv_ErrRange), ("strconv.ErrSyntax", laid_strconv_ErrSyntax)] }
def RulesBlanksSaid : Prop := rulesBlanksRow.holds Tryz.pinned (OpenSpec.ofChange rulesBlanksSpec)

/-- ITS FALSE NEIGHBOUR: 'it returns false'. Refute it at one input. -/
def rulesBlanksWrong : ChangeSpec := { name := "rulesBlanks", fn := fun _ => fun
  | [d1, d2] => { results := [.lit (.bool false)], args := [d1, d2] }
  | _ => none }
def RulesBlanksWrongFalsely : Prop := rulesBlanksRow.holds Tryz.pinned (OpenSpec.ofChange rulesBlanksWrong)

/-- 'pileuplaw06.RulesEvals': WHATEVER THE INPUT: true; the input reads as it did. -/
def rulesEvalsSpec : ChangeSpec := { name := "rulesEvals", fn := fun _ => fun
  | [d1, d2, d3] => { results := [.lit (.bool true)], args := [d1, d2, d3] }
  | _ => none }
def rulesEvalsRow : OpenClaim := { program := "ytaihlcdkcampbaagreatdoor", sum := "3473f621ca8d5cc4a45c0cdb6f98b05203aeedfee247e5d94db6b6fd48ff2069", func := "pileup/pileuplaw06.RulesEvals", spec := "rulesEvals", inPlace := ["internal/bytealg.IndexByteString"], unfollowed := true, recurses := true, named := ["strconv.ErrSyntax", "strconv.ErrRange", "internal/strconv.uint64pow10", "math/bits.deBruijn32tab", "math/bits.deBruijn64tab"], loops := true, apart := false, laid := [("math/bits.deBruijn32tab", laid_math_bits_deBruijn32tab), ("math/bits.deBruijn64tab", laid_math_bits_deBruijn64tab), ("internal/strconv.uint64pow10", laid_internal_strconv_uint64pow10), ("strconv.ErrRange", laid_strconv_ErrRange), ("strconv.ErrSyntax", laid_strconv_ErrSyntax)] }
def RulesEvalsSaid : Prop := rulesEvalsRow.holds Tryz.pinned (OpenSpec.ofChange rulesEvalsSpec)

/-- ITS FALSE NEIGHBOUR: 'it returns false'. Refute it at one input. -/
def rulesEvalsWrong : ChangeSpec := { name := "rulesEvals", fn := fun _ => fun
  | [d1, d2, d3] => { results := [.lit (.bool false)], args := [d1, d2, d3] }
  | _ => none }
def RulesEvalsWrongFalsely : Prop := rulesEvalsRow.holds Tryz.pinned (OpenSpec.ofChange rulesEvalsWrong)

/-- 'pileuplaw06.RulesFirst': WHATEVER THE INPUT: true; the input reads as it did. -/
def rulesFirstSpec : ChangeSpec := { name := "rulesFirst", fn := fun _ => fun
  | [d1, d2] => { results := [.lit (.bool true)], args := [d1, d2] }
  | _ => none }
def rulesFirstRow : OpenClaim := { program := "ytaihlcdkcampbaagreatdoor", sum := "3473f621ca8d5cc4a45c0cdb6f98b05203aeedfee247e5d94db6b6fd48ff2069", func := "pileup/pileuplaw06.RulesFirst", spec := "rulesFirst", inPlace := ["internal/bytealg.IndexByteString"], unfollowed := true, recurses := true, named := ["strconv.ErrSyntax", "strconv.ErrRange", "internal/strconv.uint64pow10", "math/bits.deBruijn32tab", "math/bits.deBruijn64tab"], loops := true, apart := false, laid := [("math/bits.deBruijn32tab", laid_math_bits_deBruijn32tab), ("math/bits.deBruijn64tab", laid_math_bits_deBruijn64tab), ("internal/strconv.uint64pow10", laid_internal_strconv_uint64pow10), ("strconv.ErrRange", laid_strconv_ErrRange), ("strconv.ErrSyntax", laid_strconv_ErrSyntax)] }
def RulesFirstSaid : Prop := rulesFirstRow.holds Tryz.pinned (OpenSpec.ofChange rulesFirstSpec)

/-- ITS FALSE NEIGHBOUR: 'it returns false'. Refute it at one input. -/
def rulesFirstWrong : ChangeSpec := { name := "rulesFirst", fn := fun _ => fun
  | [d1, d2] => { results := [.lit (.bool false)], args := [d1, d2] }
  | _ => none }
def RulesFirstWrongFalsely : Prop := rulesFirstRow.holds Tryz.pinned (OpenSpec.ofChange rulesFirstWrong)

/-- 'pileuplaw06.RulesApplies': WHATEVER THE INPUT: true; the input reads as it did. -/
def rulesAppliesSpec : ChangeSpec := { name := "rulesApplies", fn := fun _ => fun
  | [d1, d2] => { results := [.lit (.bool true)], args := [d1, d2] }
  | _ => none }
def rulesAppliesRow : OpenClaim := { program := "ytaihlcdkcampbaagreatdoor", sum := "3473f621ca8d5cc4a45c0cdb6f98b05203aeedfee247e5d94db6b6fd48ff2069", func := "pileup/pileuplaw06.RulesApplies", spec := "rulesApplies", inPlace := ["internal/bytealg.IndexByteString"], unfollowed := true, recurses := true, named := ["strconv.ErrSyntax", "strconv.ErrRange", "internal/strconv.uint64pow10", "math/bits.deBruijn32tab", "math/bits.deBruijn64tab"], loops := true, apart := false, laid := [("math/bits.deBruijn32tab", laid_math_bits_deBruijn32tab), ("math/bits.deBruijn64tab", laid_math_bits_deBruijn64tab), ("internal/strconv.uint64pow10", laid_internal_strconv_uint64pow10), ("strconv.ErrRange", laid_strconv_ErrRange), ("strconv.ErrSyntax", laid_strconv_ErrSyntax)] }
def RulesAppliesSaid : Prop := rulesAppliesRow.holds Tryz.pinned (OpenSpec.ofChange rulesAppliesSpec)

/-- ITS FALSE NEIGHBOUR: 'it returns false'. Refute it at one input. -/
def rulesAppliesWrong : ChangeSpec := { name := "rulesApplies", fn := fun _ => fun
  | [d1, d2] => { results := [.lit (.bool false)], args := [d1, d2] }
  | _ => none }
def RulesAppliesWrongFalsely : Prop := rulesAppliesRow.holds Tryz.pinned (OpenSpec.ofChange rulesAppliesWrong)

/-- 'pileuplaw06.RulesPrints': WHATEVER THE INPUT: true; the input reads as it did. -/
def rulesPrintsSpec : ChangeSpec := { name := "rulesPrints", fn := fun _ => fun
  | [d1, d2] => { results := [.lit (.bool true)], args := [d1, d2] }
  | _ => none }
def rulesPrintsRow : OpenClaim := { program := "ytaihlcdkcampbaagreatdoor", sum := "3473f621ca8d5cc4a45c0cdb6f98b05203aeedfee247e5d94db6b6fd48ff2069", func := "pileup/pileuplaw06.RulesPrints", spec := "rulesPrints", inPlace := ["internal/bytealg.IndexByteString", "internal/abi.NoEscape"], unfollowed := true, recurses := true, named := ["strconv.ErrSyntax", "strconv.ErrRange", "internal/strconv.uint64pow10", "math/bits.deBruijn32tab", "math/bits.deBruijn64tab"], loops := true, apart := false, laid := [("math/bits.deBruijn32tab", laid_math_bits_deBruijn32tab), ("math/bits.deBruijn64tab", laid_math_bits_deBruijn64tab), ("internal/strconv.uint64pow10", laid_internal_strconv_uint64pow10), ("strconv.ErrRange", laid_strconv_ErrRange), ("strconv.ErrSyntax", laid_strconv_ErrSyntax)] }
def RulesPrintsSaid : Prop := rulesPrintsRow.holds Tryz.pinned (OpenSpec.ofChange rulesPrintsSpec)

/-- ITS FALSE NEIGHBOUR: 'it returns false'. Refute it at one input. -/
def rulesPrintsWrong : ChangeSpec := { name := "rulesPrints", fn := fun _ => fun
  | [d1, d2] => { results := [.lit (.bool false)], args := [d1, d2] }
  | _ => none }
def RulesPrintsWrongFalsely : Prop := rulesPrintsRow.holds Tryz.pinned (OpenSpec.ofChange rulesPrintsWrong)

/-- 'pileuplaw06.RulesBack': WHATEVER THE INPUT: true; the input reads as it did. -/
def rulesBackSpec : ChangeSpec := { name := "rulesBack", fn := fun _ => fun
  | [d1, d2, d3] => { results := [.lit (.bool true)], args := [d1, d2, d3] }
  | _ => none }
def rulesBackRow : OpenClaim := { program := "ytaihlcdkcampbaagreatdoor", sum := "3473f621ca8d5cc4a45c0cdb6f98b05203aeedfee247e5d94db6b6fd48ff2069", func := "pileup/pileuplaw06.RulesBack", spec := "rulesBack", inPlace := ["internal/bytealg.IndexByteString", "internal/abi.NoEscape"], unfollowed := true, recurses := true, named := ["strconv.ErrSyntax", "strconv.ErrRange", "internal/strconv.uint64pow10", "math/bits.deBruijn32tab", "math/bits.deBruijn64tab"], loops := true, apart := false, laid := [("math/bits.deBruijn32tab", laid_math_bits_deBruijn32tab), ("math/bits.deBruijn64tab", laid_math_bits_deBruijn64tab), ("internal/strconv.uint64pow10", laid_internal_strconv_uint64pow10), ("strconv.ErrRange", laid_strconv_ErrRange), ("strconv.ErrSyntax", laid_strconv_ErrSyntax)] }
def RulesBackSaid : Prop := rulesBackRow.holds Tryz.pinned (OpenSpec.ofChange rulesBackSpec)

/-- ITS FALSE NEIGHBOUR: 'it returns false'. Refute it at one input. -/
def rulesBackWrong : ChangeSpec := { name := "rulesBack", fn := fun _ => fun
  | [d1, d2, d3] => { results := [.lit (.bool false)], args := [d1, d2, d3] }
  | _ => none }
def RulesBackWrongFalsely : Prop := rulesBackRow.holds Tryz.pinned (OpenSpec.ofChange rulesBackWrong)

/-- 'pileuplaw06.RulesDiffers': WHATEVER THE INPUT: true; the input reads as it did. -/
def rulesDiffersSpec : ChangeSpec := { name := "rulesDiffers", fn := fun _ => fun
  | [d1, d2, d3] => { results := [.lit (.bool true)], args := [d1, d2, d3] }
  | _ => none }
def rulesDiffersRow : OpenClaim := { program := "ytaihlcdkcampbaagreatdoor", sum := "3473f621ca8d5cc4a45c0cdb6f98b05203aeedfee247e5d94db6b6fd48ff2069", func := "pileup/pileuplaw06.RulesDiffers", spec := "rulesDiffers", inPlace := ["internal/bytealg.IndexByteString"], unfollowed := true, recurses := true, named := ["strconv.ErrSyntax", "strconv.ErrRange", "internal/strconv.uint64pow10", "math/bits.deBruijn32tab", "math/bits.deBruijn64tab"], loops := true, apart := false, laid := [("math/bits.deBruijn32tab", laid_math_bits_deBruijn32tab), ("math/bits.deBruijn64tab", laid_math_bits_deBruijn64tab), ("internal/strconv.uint64pow10", laid_internal_strconv_uint64pow10), ("strconv.ErrRange", laid_strconv_ErrRange), ("strconv.ErrSyntax", laid_strconv_ErrSyntax)] }
def RulesDiffersSaid : Prop := rulesDiffersRow.holds Tryz.pinned (OpenSpec.ofChange rulesDiffersSpec)

/-- ITS FALSE NEIGHBOUR: 'it returns false'. Refute it at one input. -/
def rulesDiffersWrong : ChangeSpec := { name := "rulesDiffers", fn := fun _ => fun
  | [d1, d2, d3] => { results := [.lit (.bool false)], args := [d1, d2, d3] }
  | _ => none }
def RulesDiffersWrongFalsely : Prop := rulesDiffersRow.holds Tryz.pinned (OpenSpec.ofChange rulesDiffersWrong)

/-- 'pileuplaw06.RulesShadows': WHATEVER THE INPUT: true; the input reads as it did. -/
def rulesShadowsSpec : ChangeSpec := { name := "rulesShadows", fn := fun _ => fun
  | [d1, d2] => { results := [.lit (.bool true)], args := [d1, d2] }
  | _ => none }
def rulesShadowsRow : OpenClaim := { program := "ytaihlcdkcampbaagreatdoor", sum := "3473f621ca8d5cc4a45c0cdb6f98b05203aeedfee247e5d94db6b6fd48ff2069", func := "pileup/pileuplaw06.RulesShadows", spec := "rulesShadows", inPlace := ["internal/bytealg.IndexByteString"], unfollowed := true, recurses := true, named := ["strconv.ErrSyntax", "strconv.ErrRange", "internal/strconv.uint64pow10", "math/bits.deBruijn32tab", "math/bits.deBruijn64tab"], loops := true, apart := false, laid := [("math/bits.deBruijn32tab", laid_math_bits_deBruijn32tab), ("math/bits.deBruijn64tab", laid_math_bits_deBruijn64tab), ("internal/strconv.uint64pow10", laid_internal_strconv_uint64pow10), ("strconv.ErrRange", laid_strconv_ErrRange), ("strconv.ErrSyntax", laid_strconv_ErrSyntax)] }
def RulesShadowsSaid : Prop := rulesShadowsRow.holds Tryz.pinned (OpenSpec.ofChange rulesShadowsSpec)

/-- ITS FALSE NEIGHBOUR: 'it returns false'. Refute it at one input. -/
def rulesShadowsWrong : ChangeSpec := { name := "rulesShadows", fn := fun _ => fun
  | [d1, d2] => { results := [.lit (.bool false)], args := [d1, d2] }
  | _ => none }
def RulesShadowsWrongFalsely : Prop := rulesShadowsRow.holds Tryz.pinned (OpenSpec.ofChange rulesShadowsWrong)

/-- 'pileuplaw06.RulesClashes': WHATEVER THE INPUT: true; the input reads as it did. -/
def rulesClashesSpec : ChangeSpec := { name := "rulesClashes", fn := fun _ => fun
  | [d1, d2, d3] => { results := [.lit (.bool true)], args := [d1, d2, d3] }
  | _ => none }
def rulesClashesRow : OpenClaim := { program := "ytaihlcdkcampbaagreatdoor", sum := "3473f621ca8d5cc4a45c0cdb6f98b05203aeedfee247e5d94db6b6fd48ff2069", func := "pileup/pileuplaw06.RulesClashes", spec := "rulesClashes", inPlace := ["internal/bytealg.IndexByteString"], unfollowed := true, recurses := true, named := ["strconv.ErrSyntax", "strconv.ErrRange", "internal/strconv.uint64pow10", "math/bits.deBruijn32tab", "math/bits.deBruijn64tab"], loops := true, apart := false, laid := [("math/bits.deBruijn32tab", laid_math_bits_deBruijn32tab), ("math/bits.deBruijn64tab", laid_math_bits_deBruijn64tab), ("internal/strconv.uint64pow10", laid_internal_strconv_uint64pow10), ("strconv.ErrRange", laid_strconv_ErrRange), ("strconv.ErrSyntax", laid_strconv_ErrSyntax)] }
def RulesClashesSaid : Prop := rulesClashesRow.holds Tryz.pinned (OpenSpec.ofChange rulesClashesSpec)

/-- ITS FALSE NEIGHBOUR: 'it returns false'. Refute it at one input. -/
def rulesClashesWrong : ChangeSpec := { name := "rulesClashes", fn := fun _ => fun
  | [d1, d2, d3] => { results := [.lit (.bool false)], args := [d1, d2, d3] }
  | _ => none }
def RulesClashesWrongFalsely : Prop := rulesClashesRow.holds Tryz.pinned (OpenSpec.ofChange rulesClashesWrong)

/-- 'pileuplaw06.RulesGapless': WHATEVER THE INPUT: true; the input reads as it did. -/
def rulesGaplessSpec : ChangeSpec := { name := "rulesGapless", fn := fun _ => fun
  | [d1, d2, d3] => { results := [.lit (.bool true)], args := [d1, d2, d3] }
  | _ => none }
def rulesGaplessRow : OpenClaim := { program := "ytaihlcdkcampbaagreatdoor", sum := "3473f621ca8d5cc4a45c0cdb6f98b05203aeedfee247e5d94db6b6fd48ff2069", func := "pileup/pileuplaw06.RulesGapless", spec := "rulesGapless", inPlace := ["internal/bytealg.IndexByteString"], unfollowed := true, recurses := true, named := ["strconv.ErrSyntax", "strconv.ErrRange", "internal/strconv.uint64pow10", "math/bits.deBruijn32tab", "math/bits.deBruijn64tab"], loops := true, apart := false, laid := [("math/bits.deBruijn32tab", laid_math_bits_deBruijn32tab), ("math/bits.deBruijn64tab", laid_math_bits_deBruijn64tab), ("internal/strconv.uint64pow10", laid_internal_strconv_uint64pow10), ("strconv.ErrRange", laid_strconv_ErrRange), ("strconv.ErrSyntax", laid_strconv_ErrSyntax)] }
def RulesGaplessSaid : Prop := rulesGaplessRow.holds Tryz.pinned (OpenSpec.ofChange rulesGaplessSpec)

/-- ITS FALSE NEIGHBOUR: 'it returns false'. Refute it at one input. -/
def rulesGaplessWrong : ChangeSpec := { name := "rulesGapless", fn := fun _ => fun
  | [d1, d2, d3] => { results := [.lit (.bool false)], args := [d1, d2, d3] }
  | _ => none }
def RulesGaplessWrongFalsely : Prop := rulesGaplessRow.holds Tryz.pinned (OpenSpec.ofChange rulesGaplessWrong)

/-- 'pileuplaw06.RulesEqual': WHATEVER THE INPUT: true; the input reads as it did. -/
def rulesEqualSpec : ChangeSpec := { name := "rulesEqual", fn := fun _ => fun
  | [d1, d2, d3] => { results := [.lit (.bool true)], args := [d1, d2, d3] }
  | _ => none }
def rulesEqualRow : OpenClaim := { program := "ytaihlcdkcampbaagreatdoor", sum := "3473f621ca8d5cc4a45c0cdb6f98b05203aeedfee247e5d94db6b6fd48ff2069", func := "pileup/pileuplaw06.RulesEqual", spec := "rulesEqual", inPlace := ["internal/bytealg.IndexByteString"], unfollowed := true, recurses := true, named := ["strconv.ErrSyntax", "strconv.ErrRange", "internal/strconv.uint64pow10", "math/bits.deBruijn32tab", "math/bits.deBruijn64tab"], loops := true, apart := false, laid := [("math/bits.deBruijn32tab", laid_math_bits_deBruijn32tab), ("math/bits.deBruijn64tab", laid_math_bits_deBruijn64tab), ("internal/strconv.uint64pow10", laid_internal_strconv_uint64pow10), ("strconv.ErrRange", laid_strconv_ErrRange), ("strconv.ErrSyntax", laid_strconv_ErrSyntax)] }
def RulesEqualSaid : Prop := rulesEqualRow.holds Tryz.pinned (OpenSpec.ofChange rulesEqualSpec)

/-- ITS FALSE NEIGHBOUR: 'it returns false'. Refute it at one input. -/
def rulesEqualWrong : ChangeSpec := { name := "rulesEqual", fn := fun _ => fun
  | [d1, d2, d3] => { results := [.lit (.bool false)], args := [d1, d2, d3] }
  | _ => none }
def RulesEqualWrongFalsely : Prop := rulesEqualRow.holds Tryz.pinned (OpenSpec.ofChange rulesEqualWrong)

/-- 'pileuplaw06.RulesGaps': WHATEVER THE INPUT: true; the input reads as it did. -/
def rulesGapsSpec : ChangeSpec := { name := "rulesGaps", fn := fun _ => fun
  | [d1, d2, d3] => { results := [.lit (.bool true)], args := [d1, d2, d3] }
  | _ => none }
def rulesGapsRow : OpenClaim := { program := "ytaihlcdkcampbaagreatdoor", sum := "3473f621ca8d5cc4a45c0cdb6f98b05203aeedfee247e5d94db6b6fd48ff2069", func := "pileup/pileuplaw06.RulesGaps", spec := "rulesGaps", inPlace := ["internal/bytealg.IndexByteString"], unfollowed := true, recurses := true, named := ["strconv.ErrSyntax", "strconv.ErrRange", "internal/strconv.uint64pow10", "math/bits.deBruijn32tab", "math/bits.deBruijn64tab"], loops := true, apart := false, laid := [("math/bits.deBruijn32tab", laid_math_bits_deBruijn32tab), ("math/bits.deBruijn64tab", laid_math_bits_deBruijn64tab), ("internal/strconv.uint64pow10", laid_internal_strconv_uint64pow10), ("strconv.ErrRange", laid_strconv_ErrRange), ("strconv.ErrSyntax", laid_strconv_ErrSyntax)] }
def RulesGapsSaid : Prop := rulesGapsRow.holds Tryz.pinned (OpenSpec.ofChange rulesGapsSpec)

/-- ITS FALSE NEIGHBOUR: 'it returns false'. Refute it at one input. -/
def rulesGapsWrong : ChangeSpec := { name := "rulesGaps", fn := fun _ => fun
  | [d1, d2, d3] => { results := [.lit (.bool false)], args := [d1, d2, d3] }
  | _ => none }
def RulesGapsWrongFalsely : Prop := rulesGapsRow.holds Tryz.pinned (OpenSpec.ofChange rulesGapsWrong)

/-- 'pileuplaw06.RulesChecks': WHATEVER THE INPUT: true; the input reads as it did. -/
def rulesChecksSpec : ChangeSpec := { name := "rulesChecks", fn := fun _ => fun
  | [d1, d2] => { results := [.lit (.bool true)], args := [d1, d2] }
  | _ => none }
def rulesChecksRow : OpenClaim := { program := "ytaihlcdkcampbaagreatdoor", sum := "3473f621ca8d5cc4a45c0cdb6f98b05203aeedfee247e5d94db6b6fd48ff2069", func := "pileup/pileuplaw06.RulesChecks", spec := "rulesChecks", inPlace := ["internal/bytealg.IndexByteString"], unfollowed := true, recurses := true, named := ["strconv.ErrSyntax", "strconv.ErrRange", "internal/strconv.uint64pow10", "math/bits.deBruijn32tab", "math/bits.deBruijn64tab"], loops := true, apart := false, laid := [("math/bits.deBruijn32tab", laid_math_bits_deBruijn32tab), ("math/bits.deBruijn64tab", laid_math_bits_deBruijn64tab), ("internal/strconv.uint64pow10", laid_internal_strconv_uint64pow10), ("strconv.ErrRange", laid_strconv_ErrRange), ("strconv.ErrSyntax", laid_strconv_ErrSyntax)] }
def RulesChecksSaid : Prop := rulesChecksRow.holds Tryz.pinned (OpenSpec.ofChange rulesChecksSpec)

/-- ITS FALSE NEIGHBOUR: 'it returns false'. Refute it at one input. -/
def rulesChecksWrong : ChangeSpec := { name := "rulesChecks", fn := fun _ => fun
  | [d1, d2] => { results := [.lit (.bool false)], args := [d1, d2] }
  | _ => none }
def RulesChecksWrongFalsely : Prop := rulesChecksRow.holds Tryz.pinned (OpenSpec.ofChange rulesChecksWrong)

/-- 'pileuplaw06.RulesTypes': WHATEVER THE INPUT: true; the input reads as it did. -/
def rulesTypesSpec : ChangeSpec := { name := "rulesTypes", fn := fun _ => fun
  | [d1, d2, d3] => { results := [.lit (.bool true)], args := [d1, d2, d3] }
  | _ => none }
def rulesTypesRow : OpenClaim := { program := "ytaihlcdkcampbaagreatdoor", sum := "3473f621ca8d5cc4a45c0cdb6f98b05203aeedfee247e5d94db6b6fd48ff2069", func := "pileup/pileuplaw06.RulesTypes", spec := "rulesTypes", inPlace := ["internal/bytealg.IndexByteString"], unfollowed := true, recurses := true, named := ["strconv.ErrSyntax", "strconv.ErrRange", "internal/strconv.uint64pow10", "math/bits.deBruijn32tab", "math/bits.deBruijn64tab"], loops := true, apart := false, laid := [("math/bits.deBruijn32tab", laid_math_bits_deBruijn32tab), ("math/bits.deBruijn64tab", laid_math_bits_deBruijn64tab), ("internal/strconv.uint64pow10", laid_internal_strconv_uint64pow10), ("strconv.ErrRange", laid_strconv_ErrRange), ("strconv.ErrSyntax", laid_strconv_ErrSyntax)] }
def RulesTypesSaid : Prop := rulesTypesRow.holds Tryz.pinned (OpenSpec.ofChange rulesTypesSpec)

/-- ITS FALSE NEIGHBOUR: 'it returns false'. Refute it at one input. -/
def rulesTypesWrong : ChangeSpec := { name := "rulesTypes", fn := fun _ => fun
  | [d1, d2, d3] => { results := [.lit (.bool false)], args := [d1, d2, d3] }
  | _ => none }
def RulesTypesWrongFalsely : Prop := rulesTypesRow.holds Tryz.pinned (OpenSpec.ofChange rulesTypesWrong)

/-- 'pileuplaw06.RulesShort': WHATEVER THE INPUT: true; the input reads as it did. -/
def rulesShortSpec : ChangeSpec := { name := "rulesShort", fn := fun _ => fun
  | [d1, d2] => { results := [.lit (.bool true)], args := [d1, d2] }
  | _ => none }
def rulesShortRow : OpenClaim := { program := "ytaihlcdkcampbaagreatdoor", sum := "3473f621ca8d5cc4a45c0cdb6f98b05203aeedfee247e5d94db6b6fd48ff2069", func := "pileup/pileuplaw06.RulesShort", spec := "rulesShort", inPlace := ["internal/bytealg.IndexByteString"], unfollowed := true, recurses := true, named := ["strconv.ErrSyntax", "strconv.ErrRange", "internal/strconv.uint64pow10", "math/bits.deBruijn32tab", "math/bits.deBruijn64tab"], loops := true, apart := false, laid := [("math/bits.deBruijn32tab", laid_math_bits_deBruijn32tab), ("math/bits.deBruijn64tab", laid_math_bits_deBruijn64tab), ("internal/strconv.uint64pow10", laid_internal_strconv_uint64pow10), ("strconv.ErrRange", laid_strconv_ErrRange), ("strconv.ErrSyntax", laid_strconv_ErrSyntax)] }
def RulesShortSaid : Prop := rulesShortRow.holds Tryz.pinned (OpenSpec.ofChange rulesShortSpec)

/-- ITS FALSE NEIGHBOUR: 'it returns false'. Refute it at one input. -/
def rulesShortWrong : ChangeSpec := { name := "rulesShort", fn := fun _ => fun
  | [d1, d2] => { results := [.lit (.bool false)], args := [d1, d2] }
  | _ => none }
def RulesShortWrongFalsely : Prop := rulesShortRow.holds Tryz.pinned (OpenSpec.ofChange rulesShortWrong)

/- THE SECOND FORM. 'bulk': how many values and letters a reading holds, each counted each time it is reached (what is shared counts as often as it is met; a slice's spare places count too). A statement '..UptoSaid' is the law's where the arguments, and the package variables that the reading takes, are together of bulk at most 1048576: NARROWER than '..Said'. Prove '..Said' where nothing that the law and all that it calls make is longer than what came in: it says more and counts as full. Else prove '..UptoSaid'. A law counts once. -/
mutual
def uptoBulk {H : Type} : DataW H → Nat
  | .lit (.string bytes) => bytes.length + 1
  | .lit _ => 1
  | .nil => 1
  | .ptr d => uptoBulk d + 1
  | .slice elems spare => uptoBulkAll elems + uptoBulkAll spare + 1
  | .agg parts => uptoBulkAll parts + 1
  | .iface _ d => uptoBulk d + 1
  | .map entries => uptoBulkEntries entries + 1
  | .held _ => 1
def uptoBulkAll {H : Type} : List (DataW H) → Nat
  | [] => 0
  | d :: r => uptoBulk d + uptoBulkAll r
def uptoBulkEntries {H : Type} : List (Lit × DataW H) → Nat
  | [] => 0
  | x :: r => uptoBulkEntry x + uptoBulkEntries r
def uptoBulkEntry {H : Type} : Lit × DataW H → Nat
  | (.string bytes, d) => bytes.length + uptoBulk d + 1
  | (_, d) => uptoBulk d + 1
 end
def uptoSmall : (H : Type) → List (DataW H) → Bool := fun _ ds => decide (uptoBulkAll ds ≤ 1048576)
def OpenSpec.upto (s : _root_.Go.ChangeSpec) : _root_.Go.OpenSpec := { _root_.Go.OpenSpec.ofChange s with cond := some uptoSmall }

/-- 'pileuplaw06.RulesParses', WHERE WHAT IT READS IS OF BULK AT MOST 1048576: true; the input reads as it did. -/
def rulesParsesUptoRow : OpenClaim := { program := "ytaihlcdkcampbaagreatdoor", sum := "3473f621ca8d5cc4a45c0cdb6f98b05203aeedfee247e5d94db6b6fd48ff2069", func := "pileup/pileuplaw06.RulesParses", spec := "rulesParses", inPlace := ["internal/bytealg.IndexByteString"], unfollowed := true, recurses := true, named := ["strconv.ErrSyntax", "strconv.ErrRange", "internal/strconv.uint64pow10", "math/bits.deBruijn32tab", "math/bits.deBruijn64tab"], apart := false, laid := [("math/bits.deBruijn32tab", laid_math_bits_deBruijn32tab), ("math/bits.deBruijn64tab", laid_math_bits_deBruijn64tab), ("internal/strconv.uint64pow10", laid_internal_strconv_uint64pow10), ("strconv.ErrRange", laid_strconv_ErrRange), ("strconv.ErrSyntax", laid_strconv_ErrSyntax)], narrowed := true }
def RulesParsesUptoSaid : Prop := rulesParsesUptoRow.holds Tryz.pinned (OpenSpec.upto rulesParsesSpec)

/-- 'pileuplaw06.RulesReads', WHERE WHAT IT READS IS OF BULK AT MOST 1048576: true; the input reads as it did. -/
def rulesReadsUptoRow : OpenClaim := { program := "ytaihlcdkcampbaagreatdoor", sum := "3473f621ca8d5cc4a45c0cdb6f98b05203aeedfee247e5d94db6b6fd48ff2069", func := "pileup/pileuplaw06.RulesReads", spec := "rulesReads", inPlace := ["internal/bytealg.IndexByteString"], unfollowed := true, recurses := true, named := ["strconv.ErrSyntax", "strconv.ErrRange", "internal/strconv.uint64pow10", "math/bits.deBruijn32tab", "math/bits.deBruijn64tab"], apart := false, laid := [("math/bits.deBruijn32tab", laid_math_bits_deBruijn32tab), ("math/bits.deBruijn64tab", laid_math_bits_deBruijn64tab), ("internal/strconv.uint64pow10", laid_internal_strconv_uint64pow10), ("strconv.ErrRange", laid_strconv_ErrRange), ("strconv.ErrSyntax", laid_strconv_ErrSyntax)], narrowed := true }
def RulesReadsUptoSaid : Prop := rulesReadsUptoRow.holds Tryz.pinned (OpenSpec.upto rulesReadsSpec)

/-- 'pileuplaw06.RulesSimple', WHERE WHAT IT READS IS OF BULK AT MOST 1048576: true; the input reads as it did. -/
def rulesSimpleUptoRow : OpenClaim := { program := "ytaihlcdkcampbaagreatdoor", sum := "3473f621ca8d5cc4a45c0cdb6f98b05203aeedfee247e5d94db6b6fd48ff2069", func := "pileup/pileuplaw06.RulesSimple", spec := "rulesSimple", inPlace := ["internal/bytealg.IndexByteString"], unfollowed := true, recurses := true, named := ["strconv.ErrSyntax", "strconv.ErrRange", "internal/strconv.uint64pow10", "math/bits.deBruijn32tab", "math/bits.deBruijn64tab"], loops := true, apart := false, laid := [("math/bits.deBruijn32tab", laid_math_bits_deBruijn32tab), ("math/bits.deBruijn64tab", laid_math_bits_deBruijn64tab), ("internal/strconv.uint64pow10", laid_internal_strconv_uint64pow10), ("strconv.ErrRange", laid_strconv_ErrRange), ("strconv.ErrSyntax", laid_strconv_ErrSyntax)], narrowed := true }
def RulesSimpleUptoSaid : Prop := rulesSimpleUptoRow.holds Tryz.pinned (OpenSpec.upto rulesSimpleSpec)

/-- 'pileuplaw06.RulesBlanks', WHERE WHAT IT READS IS OF BULK AT MOST 1048576: true; the input reads as it did. -/
def rulesBlanksUptoRow : OpenClaim := { program := "ytaihlcdkcampbaagreatdoor", sum := "3473f621ca8d5cc4a45c0cdb6f98b05203aeedfee247e5d94db6b6fd48ff2069", func := "pileup/pileuplaw06.RulesBlanks", spec := "rulesBlanks", inPlace := ["internal/bytealg.IndexByteString"], unfollowed := true, recurses := true, named := ["strconv.ErrSyntax", "strconv.ErrRange", "internal/strconv.uint64pow10", "math/bits.deBruijn32tab", "math/bits.deBruijn64tab"], loops := true, apart := false, laid := [("math/bits.deBruijn32tab", laid_math_bits_deBruijn32tab), ("math/bits.deBruijn64tab", laid_math_bits_deBruijn64tab), ("internal/strconv.uint64pow10", laid_internal_strconv_uint64pow10), ("strconv.ErrRange", laid_strconv_ErrRange), ("strconv.ErrSyntax", laid_strconv_ErrSyntax)], narrowed := true }
def RulesBlanksUptoSaid : Prop := rulesBlanksUptoRow.holds Tryz.pinned (OpenSpec.upto rulesBlanksSpec)

/-- 'pileuplaw06.RulesEvals', WHERE WHAT IT READS IS OF BULK AT MOST 1048576: true; the input reads as it did. -/
def rulesEvalsUptoRow : OpenClaim := { program := "ytaihlcdkcampbaagreatdoor", sum := "3473f621ca8d5cc4a45c0cdb6f98b05203aeedfee247e5d94db6b6fd48ff2069", func := "pileup/pileuplaw06.RulesEvals", spec := "rulesEvals", inPlace := ["internal/bytealg.IndexByteString"], unfollowed := true, recurses := true, named := ["strconv.ErrSyntax", "strconv.ErrRange", "internal/strconv.uint64pow10", "math/bits.deBruijn32tab", "math/bits.deBruijn64tab"], loops := true, apart := false, laid := [("math/bits.deBruijn32tab", laid_math_bits_deBruijn32tab), ("math/bits.deBruijn64tab", laid_math_bits_deBruijn64tab), ("internal/strconv.uint64pow10", laid_internal_strconv_uint64pow10), ("strconv.ErrRange", laid_strconv_ErrRange), ("strconv.ErrSyntax", laid_strconv_ErrSyntax)], narrowed := true }
def RulesEvalsUptoSaid : Prop := rulesEvalsUptoRow.holds Tryz.pinned (OpenSpec.upto rulesEvalsSpec)

/-- 'pileuplaw06.RulesFirst', WHERE WHAT IT READS IS OF BULK AT MOST 1048576: true; the input reads as it did. -/
def rulesFirstUptoRow : OpenClaim := { program := "ytaihlcdkcampbaagreatdoor", sum := "3473f621ca8d5cc4a45c0cdb6f98b05203aeedfee247e5d94db6b6fd48ff2069", func := "pileup/pileuplaw06.RulesFirst", spec := "rulesFirst", inPlace := ["internal/bytealg.IndexByteString"], unfollowed := true, recurses := true, named := ["strconv.ErrSyntax", "strconv.ErrRange", "internal/strconv.uint64pow10", "math/bits.deBruijn32tab", "math/bits.deBruijn64tab"], loops := true, apart := false, laid := [("math/bits.deBruijn32tab", laid_math_bits_deBruijn32tab), ("math/bits.deBruijn64tab", laid_math_bits_deBruijn64tab), ("internal/strconv.uint64pow10", laid_internal_strconv_uint64pow10), ("strconv.ErrRange", laid_strconv_ErrRange), ("strconv.ErrSyntax", laid_strconv_ErrSyntax)], narrowed := true }
def RulesFirstUptoSaid : Prop := rulesFirstUptoRow.holds Tryz.pinned (OpenSpec.upto rulesFirstSpec)

/-- 'pileuplaw06.RulesApplies', WHERE WHAT IT READS IS OF BULK AT MOST 1048576: true; the input reads as it did. -/
def rulesAppliesUptoRow : OpenClaim := { program := "ytaihlcdkcampbaagreatdoor", sum := "3473f621ca8d5cc4a45c0cdb6f98b05203aeedfee247e5d94db6b6fd48ff2069", func := "pileup/pileuplaw06.RulesApplies", spec := "rulesApplies", inPlace := ["internal/bytealg.IndexByteString"], unfollowed := true, recurses := true, named := ["strconv.ErrSyntax", "strconv.ErrRange", "internal/strconv.uint64pow10", "math/bits.deBruijn32tab", "math/bits.deBruijn64tab"], loops := true, apart := false, laid := [("math/bits.deBruijn32tab", laid_math_bits_deBruijn32tab), ("math/bits.deBruijn64tab", laid_math_bits_deBruijn64tab), ("internal/strconv.uint64pow10", laid_internal_strconv_uint64pow10), ("strconv.ErrRange", laid_strconv_ErrRange), ("strconv.ErrSyntax", laid_strconv_ErrSyntax)], narrowed := true }
def RulesAppliesUptoSaid : Prop := rulesAppliesUptoRow.holds Tryz.pinned (OpenSpec.upto rulesAppliesSpec)

/-- 'pileuplaw06.RulesPrints', WHERE WHAT IT READS IS OF BULK AT MOST 1048576: true; the input reads as it did. -/
def rulesPrintsUptoRow : OpenClaim := { program := "ytaihlcdkcampbaagreatdoor", sum := "3473f621ca8d5cc4a45c0cdb6f98b05203aeedfee247e5d94db6b6fd48ff2069", func := "pileup/pileuplaw06.RulesPrints", spec := "rulesPrints", inPlace := ["internal/bytealg.IndexByteString", "internal/abi.NoEscape"], unfollowed := true, recurses := true, named := ["strconv.ErrSyntax", "strconv.ErrRange", "internal/strconv.uint64pow10", "math/bits.deBruijn32tab", "math/bits.deBruijn64tab"], loops := true, apart := false, laid := [("math/bits.deBruijn32tab", laid_math_bits_deBruijn32tab), ("math/bits.deBruijn64tab", laid_math_bits_deBruijn64tab), ("internal/strconv.uint64pow10", laid_internal_strconv_uint64pow10), ("strconv.ErrRange", laid_strconv_ErrRange), ("strconv.ErrSyntax", laid_strconv_ErrSyntax)], narrowed := true }
def RulesPrintsUptoSaid : Prop := rulesPrintsUptoRow.holds Tryz.pinned (OpenSpec.upto rulesPrintsSpec)

/-- 'pileuplaw06.RulesBack', WHERE WHAT IT READS IS OF BULK AT MOST 1048576: true; the input reads as it did. -/
def rulesBackUptoRow : OpenClaim := { program := "ytaihlcdkcampbaagreatdoor", sum := "3473f621ca8d5cc4a45c0cdb6f98b05203aeedfee247e5d94db6b6fd48ff2069", func := "pileup/pileuplaw06.RulesBack", spec := "rulesBack", inPlace := ["internal/bytealg.IndexByteString", "internal/abi.NoEscape"], unfollowed := true, recurses := true, named := ["strconv.ErrSyntax", "strconv.ErrRange", "internal/strconv.uint64pow10", "math/bits.deBruijn32tab", "math/bits.deBruijn64tab"], loops := true, apart := false, laid := [("math/bits.deBruijn32tab", laid_math_bits_deBruijn32tab), ("math/bits.deBruijn64tab", laid_math_bits_deBruijn64tab), ("internal/strconv.uint64pow10", laid_internal_strconv_uint64pow10), ("strconv.ErrRange", laid_strconv_ErrRange), ("strconv.ErrSyntax", laid_strconv_ErrSyntax)], narrowed := true }
def RulesBackUptoSaid : Prop := rulesBackUptoRow.holds Tryz.pinned (OpenSpec.upto rulesBackSpec)

/-- 'pileuplaw06.RulesDiffers', WHERE WHAT IT READS IS OF BULK AT MOST 1048576: true; the input reads as it did. -/
def rulesDiffersUptoRow : OpenClaim := { program := "ytaihlcdkcampbaagreatdoor", sum := "3473f621ca8d5cc4a45c0cdb6f98b05203aeedfee247e5d94db6b6fd48ff2069", func := "pileup/pileuplaw06.RulesDiffers", spec := "rulesDiffers", inPlace := ["internal/bytealg.IndexByteString"], unfollowed := true, recurses := true, named := ["strconv.ErrSyntax", "strconv.ErrRange", "internal/strconv.uint64pow10", "math/bits.deBruijn32tab", "math/bits.deBruijn64tab"], loops := true, apart := false, laid := [("math/bits.deBruijn32tab", laid_math_bits_deBruijn32tab), ("math/bits.deBruijn64tab", laid_math_bits_deBruijn64tab), ("internal/strconv.uint64pow10", laid_internal_strconv_uint64pow10), ("strconv.ErrRange", laid_strconv_ErrRange), ("strconv.ErrSyntax", laid_strconv_ErrSyntax)], narrowed := true }
def RulesDiffersUptoSaid : Prop := rulesDiffersUptoRow.holds Tryz.pinned (OpenSpec.upto rulesDiffersSpec)

/-- 'pileuplaw06.RulesShadows', WHERE WHAT IT READS IS OF BULK AT MOST 1048576: true; the input reads as it did. -/
def rulesShadowsUptoRow : OpenClaim := { program := "ytaihlcdkcampbaagreatdoor", sum := "3473f621ca8d5cc4a45c0cdb6f98b05203aeedfee247e5d94db6b6fd48ff2069", func := "pileup/pileuplaw06.RulesShadows", spec := "rulesShadows", inPlace := ["internal/bytealg.IndexByteString"], unfollowed := true, recurses := true, named := ["strconv.ErrSyntax", "strconv.ErrRange", "internal/strconv.uint64pow10", "math/bits.deBruijn32tab", "math/bits.deBruijn64tab"], loops := true, apart := false, laid := [("math/bits.deBruijn32tab", laid_math_bits_deBruijn32tab), ("math/bits.deBruijn64tab", laid_math_bits_deBruijn64tab), ("internal/strconv.uint64pow10", laid_internal_strconv_uint64pow10), ("strconv.ErrRange", laid_strconv_ErrRange), ("strconv.ErrSyntax", laid_strconv_ErrSyntax)], narrowed := true }
def RulesShadowsUptoSaid : Prop := rulesShadowsUptoRow.holds Tryz.pinned (OpenSpec.upto rulesShadowsSpec)

/-- 'pileuplaw06.RulesClashes', WHERE WHAT IT READS IS OF BULK AT MOST 1048576: true; the input reads as it did. -/
def rulesClashesUptoRow : OpenClaim := { program := "ytaihlcdkcampbaagreatdoor", sum := "3473f621ca8d5cc4a45c0cdb6f98b05203aeedfee247e5d94db6b6fd48ff2069", func := "pileup/pileuplaw06.RulesClashes", spec := "rulesClashes", inPlace := ["internal/bytealg.IndexByteString"], unfollowed := true, recurses := true, named := ["strconv.ErrSyntax", "strconv.ErrRange", "internal/strconv.uint64pow10", "math/bits.deBruijn32tab", "math/bits.deBruijn64tab"], loops := true, apart := false, laid := [("math/bits.deBruijn32tab", laid_math_bits_deBruijn32tab), ("math/bits.deBruijn64tab", laid_math_bits_deBruijn64tab), ("internal/strconv.uint64pow10", laid_internal_strconv_uint64pow10), ("strconv.ErrRange", laid_strconv_ErrRange), ("strconv.ErrSyntax", laid_strconv_ErrSyntax)], narrowed := true }
def RulesClashesUptoSaid : Prop := rulesClashesUptoRow.holds Tryz.pinned (OpenSpec.upto rulesClashesSpec)

/-- 'pileuplaw06.RulesGapless', WHERE WHAT IT READS IS OF BULK AT MOST 1048576: true; the input reads as it did. -/
def rulesGaplessUptoRow : OpenClaim := { program := "ytaihlcdkcampbaagreatdoor", sum := "3473f621ca8d5cc4a45c0cdb6f98b05203aeedfee247e5d94db6b6fd48ff2069", func := "pileup/pileuplaw06.RulesGapless", spec := "rulesGapless", inPlace := ["internal/bytealg.IndexByteString"], unfollowed := true, recurses := true, named := ["strconv.ErrSyntax", "strconv.ErrRange", "internal/strconv.uint64pow10", "math/bits.deBruijn32tab", "math/bits.deBruijn64tab"], loops := true, apart := false, laid := [("math/bits.deBruijn32tab", laid_math_bits_deBruijn32tab), ("math/bits.deBruijn64tab", laid_math_bits_deBruijn64tab), ("internal/strconv.uint64pow10", laid_internal_strconv_uint64pow10), ("strconv.ErrRange", laid_strconv_ErrRange), ("strconv.ErrSyntax", laid_strconv_ErrSyntax)], narrowed := true }
def RulesGaplessUptoSaid : Prop := rulesGaplessUptoRow.holds Tryz.pinned (OpenSpec.upto rulesGaplessSpec)

/-- 'pileuplaw06.RulesEqual', WHERE WHAT IT READS IS OF BULK AT MOST 1048576: true; the input reads as it did. -/
def rulesEqualUptoRow : OpenClaim := { program := "ytaihlcdkcampbaagreatdoor", sum := "3473f621ca8d5cc4a45c0cdb6f98b05203aeedfee247e5d94db6b6fd48ff2069", func := "pileup/pileuplaw06.RulesEqual", spec := "rulesEqual", inPlace := ["internal/bytealg.IndexByteString"], unfollowed := true, recurses := true, named := ["strconv.ErrSyntax", "strconv.ErrRange", "internal/strconv.uint64pow10", "math/bits.deBruijn32tab", "math/bits.deBruijn64tab"], loops := true, apart := false, laid := [("math/bits.deBruijn32tab", laid_math_bits_deBruijn32tab), ("math/bits.deBruijn64tab", laid_math_bits_deBruijn64tab), ("internal/strconv.uint64pow10", laid_internal_strconv_uint64pow10), ("strconv.ErrRange", laid_strconv_ErrRange), ("strconv.ErrSyntax", laid_strconv_ErrSyntax)], narrowed := true }
def RulesEqualUptoSaid : Prop := rulesEqualUptoRow.holds Tryz.pinned (OpenSpec.upto rulesEqualSpec)

/-- 'pileuplaw06.RulesGaps', WHERE WHAT IT READS IS OF BULK AT MOST 1048576: true; the input reads as it did. -/
def rulesGapsUptoRow : OpenClaim := { program := "ytaihlcdkcampbaagreatdoor", sum := "3473f621ca8d5cc4a45c0cdb6f98b05203aeedfee247e5d94db6b6fd48ff2069", func := "pileup/pileuplaw06.RulesGaps", spec := "rulesGaps", inPlace := ["internal/bytealg.IndexByteString"], unfollowed := true, recurses := true, named := ["strconv.ErrSyntax", "strconv.ErrRange", "internal/strconv.uint64pow10", "math/bits.deBruijn32tab", "math/bits.deBruijn64tab"], loops := true, apart := false, laid := [("math/bits.deBruijn32tab", laid_math_bits_deBruijn32tab), ("math/bits.deBruijn64tab", laid_math_bits_deBruijn64tab), ("internal/strconv.uint64pow10", laid_internal_strconv_uint64pow10), ("strconv.ErrRange", laid_strconv_ErrRange), ("strconv.ErrSyntax", laid_strconv_ErrSyntax)], narrowed := true }
def RulesGapsUptoSaid : Prop := rulesGapsUptoRow.holds Tryz.pinned (OpenSpec.upto rulesGapsSpec)

/-- 'pileuplaw06.RulesChecks', WHERE WHAT IT READS IS OF BULK AT MOST 1048576: true; the input reads as it did. -/
def rulesChecksUptoRow : OpenClaim := { program := "ytaihlcdkcampbaagreatdoor", sum := "3473f621ca8d5cc4a45c0cdb6f98b05203aeedfee247e5d94db6b6fd48ff2069", func := "pileup/pileuplaw06.RulesChecks", spec := "rulesChecks", inPlace := ["internal/bytealg.IndexByteString"], unfollowed := true, recurses := true, named := ["strconv.ErrSyntax", "strconv.ErrRange", "internal/strconv.uint64pow10", "math/bits.deBruijn32tab", "math/bits.deBruijn64tab"], loops := true, apart := false, laid := [("math/bits.deBruijn32tab", laid_math_bits_deBruijn32tab), ("math/bits.deBruijn64tab", laid_math_bits_deBruijn64tab), ("internal/strconv.uint64pow10", laid_internal_strconv_uint64pow10), ("strconv.ErrRange", laid_strconv_ErrRange), ("strconv.ErrSyntax", laid_strconv_ErrSyntax)], narrowed := true }
def RulesChecksUptoSaid : Prop := rulesChecksUptoRow.holds Tryz.pinned (OpenSpec.upto rulesChecksSpec)

/-- 'pileuplaw06.RulesTypes', WHERE WHAT IT READS IS OF BULK AT MOST 1048576: true; the input reads as it did. -/
def rulesTypesUptoRow : OpenClaim := { program := "ytaihlcdkcampbaagreatdoor", sum := "3473f621ca8d5cc4a45c0cdb6f98b05203aeedfee247e5d94db6b6fd48ff2069", func := "pileup/pileuplaw06.RulesTypes", spec := "rulesTypes", inPlace := ["internal/bytealg.IndexByteString"], unfollowed := true, recurses := true, named := ["strconv.ErrSyntax", "strconv.ErrRange", "internal/strconv.uint64pow10", "math/bits.deBruijn32tab", "math/bits.deBruijn64tab"], loops := true, apart := false, laid := [("math/bits.deBruijn32tab", laid_math_bits_deBruijn32tab), ("math/bits.deBruijn64tab", laid_math_bits_deBruijn64tab), ("internal/strconv.uint64pow10", laid_internal_strconv_uint64pow10), ("strconv.ErrRange", laid_strconv_ErrRange), ("strconv.ErrSyntax", laid_strconv_ErrSyntax)], narrowed := true }
def RulesTypesUptoSaid : Prop := rulesTypesUptoRow.holds Tryz.pinned (OpenSpec.upto rulesTypesSpec)

/-- 'pileuplaw06.RulesShort', WHERE WHAT IT READS IS OF BULK AT MOST 1048576: true; the input reads as it did. -/
def rulesShortUptoRow : OpenClaim := { program := "ytaihlcdkcampbaagreatdoor", sum := "3473f621ca8d5cc4a45c0cdb6f98b05203aeedfee247e5d94db6b6fd48ff2069", func := "pileup/pileuplaw06.RulesShort", spec := "rulesShort", inPlace := ["internal/bytealg.IndexByteString"], unfollowed := true, recurses := true, named := ["strconv.ErrSyntax", "strconv.ErrRange", "internal/strconv.uint64pow10", "math/bits.deBruijn32tab", "math/bits.deBruijn64tab"], loops := true, apart := false, laid := [("math/bits.deBruijn32tab", laid_math_bits_deBruijn32tab), ("math/bits.deBruijn64tab", laid_math_bits_deBruijn64tab), ("internal/strconv.uint64pow10", laid_internal_strconv_uint64pow10), ("strconv.ErrRange", laid_strconv_ErrRange), ("strconv.ErrSyntax", laid_strconv_ErrSyntax)], narrowed := true }
def RulesShortUptoSaid : Prop := rulesShortUptoRow.holds Tryz.pinned (OpenSpec.upto rulesShortSpec)

end Rows
end Go.Proofs.YtaihlcdkcampbaaGreatDoor
