/-
  NARROWER THAN 'FOR EVERY INPUT', by the rows' own cells (each row's printed sentence says how): UnitsTell: laid · MeterBounds: laid · MeterPlays: laid · TmplChecks: loops, laid · BnfLong: laid · NullableTells: laid · NullableTrees: laid · BnfReads: laid · NullableClosed: laid · TmplPlain: laid · UsefulTells: laid · BnfMay: laid.
  DERIVED. THE GIVEN ROWS OF THIS SEAT. 12 by the template 'for every input the law returns true; each argument reads behind the call as it read before'; 0 by the template 'total and deterministic' (their statements: YtlacnkjkcikodaaDoorTotals.lean).
  GIVEN WITH THE SEED: the statements are not yours to turn. If you find one false, say at which input.
  Laid BY PROGRAM, IN A SANDBOX (cutbox-rows.mjs): the forced cells as the released guide's own fill.sh prints them over the translation aed7ef44deebc744… (all of the seat's roots in one cut). By AI agents, Wed Nov 11 2026. No macro, syntax, notation, axiom, sorry.
-/
import Derived.Test.YtlacnkjkcikodaaDoorChecked
import GoSem.Claim
import GoSem.ClaimJoined
import GoSem.ClaimMapViews
import Derived.JoinedTies
import Derived.KernelRfl
namespace Go.Proofs.YtlacnkjkcikodaaDoor
/- THE CELL 'sum', in the pinned program and in every row, IS THE sha256 OF THE DUMP (.gsa) THAT YtlacnkjkcikodaaDoorProg.lean LOADS. Nothing in Lean hashes anything: it is a label: what it is worth is what the hold of that sum in a sandbox is worth. -/
noncomputable def Tryd.pinned : Pinned := { name := "ytlacnkjkcikodaadoor", sum := "aed7ef44deebc7443fa48803ad19a9eac888cce61a47745b27db579f20e64369", checked := Tryd.checked }
namespace Rows
def none {H : Type} : Left H := { results := [], args := [] }

/- WHAT THE LISTED PACKAGE-LEVEL VARIABLES READ AS WHEN THE CALL BEGINS. Each datum BY PROGRAM (the guide's laid-datum.mjs) off the statement by which the dump's own 'gosem.cut.vars' lays the variable. In a bare row this is a premise. The card (YtlacnkjkcikodaaDoorCards.lean) ties it to the program's text. -/
def laid_math_bits_deBruijn32tab {H : Type} : DataW H := .agg [.lit (.int .u8 0), .lit (.int .u8 1), .lit (.int .u8 28), .lit (.int .u8 2), .lit (.int .u8 29), .lit (.int .u8 14), .lit (.int .u8 24), .lit (.int .u8 3), .lit (.int .u8 30), .lit (.int .u8 22), .lit (.int .u8 20), .lit (.int .u8 15), .lit (.int .u8 25), .lit (.int .u8 17), .lit (.int .u8 4), .lit (.int .u8 8), .lit (.int .u8 31), .lit (.int .u8 27), .lit (.int .u8 13), .lit (.int .u8 23), .lit (.int .u8 21), .lit (.int .u8 19), .lit (.int .u8 16), .lit (.int .u8 7), .lit (.int .u8 26), .lit (.int .u8 12), .lit (.int .u8 18), .lit (.int .u8 6), .lit (.int .u8 11), .lit (.int .u8 5), .lit (.int .u8 10), .lit (.int .u8 9)]
def laid_math_bits_deBruijn64tab {H : Type} : DataW H := .agg [.lit (.int .u8 0), .lit (.int .u8 1), .lit (.int .u8 56), .lit (.int .u8 2), .lit (.int .u8 57), .lit (.int .u8 49), .lit (.int .u8 28), .lit (.int .u8 3), .lit (.int .u8 61), .lit (.int .u8 58), .lit (.int .u8 42), .lit (.int .u8 50), .lit (.int .u8 38), .lit (.int .u8 29), .lit (.int .u8 17), .lit (.int .u8 4), .lit (.int .u8 62), .lit (.int .u8 47), .lit (.int .u8 59), .lit (.int .u8 36), .lit (.int .u8 45), .lit (.int .u8 43), .lit (.int .u8 51), .lit (.int .u8 22), .lit (.int .u8 53), .lit (.int .u8 39), .lit (.int .u8 33), .lit (.int .u8 30), .lit (.int .u8 24), .lit (.int .u8 18), .lit (.int .u8 12), .lit (.int .u8 5), .lit (.int .u8 63), .lit (.int .u8 55), .lit (.int .u8 48), .lit (.int .u8 27), .lit (.int .u8 60), .lit (.int .u8 41), .lit (.int .u8 37), .lit (.int .u8 16), .lit (.int .u8 46), .lit (.int .u8 35), .lit (.int .u8 44), .lit (.int .u8 21), .lit (.int .u8 52), .lit (.int .u8 32), .lit (.int .u8 23), .lit (.int .u8 11), .lit (.int .u8 54), .lit (.int .u8 26), .lit (.int .u8 40), .lit (.int .u8 15), .lit (.int .u8 34), .lit (.int .u8 20), .lit (.int .u8 31), .lit (.int .u8 10), .lit (.int .u8 25), .lit (.int .u8 14), .lit (.int .u8 19), .lit (.int .u8 9), .lit (.int .u8 13), .lit (.int .u8 8), .lit (.int .u8 7), .lit (.int .u8 6)]
def laid_internal_strconv_uint64pow10 {H : Type} : DataW H := .agg [.lit (.int .u64 1), .lit (.int .u64 10), .lit (.int .u64 100), .lit (.int .u64 1000), .lit (.int .u64 10000), .lit (.int .u64 100000), .lit (.int .u64 1000000), .lit (.int .u64 10000000), .lit (.int .u64 100000000), .lit (.int .u64 1000000000), .lit (.int .u64 10000000000), .lit (.int .u64 100000000000), .lit (.int .u64 1000000000000), .lit (.int .u64 10000000000000), .lit (.int .u64 100000000000000), .lit (.int .u64 1000000000000000), .lit (.int .u64 10000000000000000), .lit (.int .u64 100000000000000000), .lit (.int .u64 1000000000000000000), .lit (.int .u64 10000000000000000000)]

/-- 'wickerlaw10.UnitsTell': WHATEVER THE INPUT: true; the input reads as it did. -/
def unitsTellSpec : ChangeSpec := { name := "unitsTell", fn := fun _ => fun
  | [d1, d2, d3] => { results := [.lit (.bool true)], args := [d1, d2, d3] }
  | _ => none }
def unitsTellRow : OpenClaim := { program := "ytlacnkjkcikodaadoor", sum := "aed7ef44deebc7443fa48803ad19a9eac888cce61a47745b27db579f20e64369", func := "wicker/wickerlaw10.UnitsTell", spec := "unitsTell", inPlace := ["internal/abi.NoEscape"], unfollowed := true, recurses := true, named := ["internal/strconv.uint64pow10", "math/bits.deBruijn32tab", "math/bits.deBruijn64tab"], apart := false, laid := [("math/bits.deBruijn32tab", laid_math_bits_deBruijn32tab), ("math/bits.deBruijn64tab", laid_math_bits_deBruijn64tab), ("internal/strconv.uint64pow10", laid_internal_strconv_uint64pow10)] }
def UnitsTellSaid : Prop := unitsTellRow.holds Tryd.pinned (OpenSpec.ofChange unitsTellSpec)

/-- ITS FALSE NEIGHBOUR: 'it returns false'. Refute it at one input. -/
def unitsTellWrong : ChangeSpec := { name := "unitsTell", fn := fun _ => fun
  | [d1, d2, d3] => { results := [.lit (.bool false)], args := [d1, d2, d3] }
  | _ => none }
def UnitsTellWrongFalsely : Prop := unitsTellRow.holds Tryd.pinned (OpenSpec.ofChange unitsTellWrong)

/-- 'wickerlaw14.MeterBounds': WHATEVER THE INPUT: true; the input reads as it did. -/
def meterBoundsSpec : ChangeSpec := { name := "meterBounds", fn := fun _ => fun
  | [d1, d2, d3] => { results := [.lit (.bool true)], args := [d1, d2, d3] }
  | _ => none }
def meterBoundsRow : OpenClaim := { program := "ytlacnkjkcikodaadoor", sum := "aed7ef44deebc7443fa48803ad19a9eac888cce61a47745b27db579f20e64369", func := "wicker/wickerlaw14.MeterBounds", spec := "meterBounds", inPlace := ["internal/abi.NoEscape"], unfollowed := true, recurses := true, named := ["internal/strconv.uint64pow10", "math/bits.deBruijn32tab", "math/bits.deBruijn64tab"], apart := false, laid := [("math/bits.deBruijn32tab", laid_math_bits_deBruijn32tab), ("math/bits.deBruijn64tab", laid_math_bits_deBruijn64tab), ("internal/strconv.uint64pow10", laid_internal_strconv_uint64pow10)] }
def MeterBoundsSaid : Prop := meterBoundsRow.holds Tryd.pinned (OpenSpec.ofChange meterBoundsSpec)

/-- ITS FALSE NEIGHBOUR: 'it returns false'. Refute it at one input. -/
def meterBoundsWrong : ChangeSpec := { name := "meterBounds", fn := fun _ => fun
  | [d1, d2, d3] => { results := [.lit (.bool false)], args := [d1, d2, d3] }
  | _ => none }
def MeterBoundsWrongFalsely : Prop := meterBoundsRow.holds Tryd.pinned (OpenSpec.ofChange meterBoundsWrong)

/-- 'wickerlaw14.MeterPlays': WHATEVER THE INPUT: true; the input reads as it did. -/
def meterPlaysSpec : ChangeSpec := { name := "meterPlays", fn := fun _ => fun
  | [d1, d2, d3] => { results := [.lit (.bool true)], args := [d1, d2, d3] }
  | _ => none }
def meterPlaysRow : OpenClaim := { program := "ytlacnkjkcikodaadoor", sum := "aed7ef44deebc7443fa48803ad19a9eac888cce61a47745b27db579f20e64369", func := "wicker/wickerlaw14.MeterPlays", spec := "meterPlays", inPlace := ["internal/abi.NoEscape"], unfollowed := true, recurses := true, named := ["internal/strconv.uint64pow10", "math/bits.deBruijn32tab", "math/bits.deBruijn64tab"], apart := false, laid := [("math/bits.deBruijn32tab", laid_math_bits_deBruijn32tab), ("math/bits.deBruijn64tab", laid_math_bits_deBruijn64tab), ("internal/strconv.uint64pow10", laid_internal_strconv_uint64pow10)] }
def MeterPlaysSaid : Prop := meterPlaysRow.holds Tryd.pinned (OpenSpec.ofChange meterPlaysSpec)

/-- ITS FALSE NEIGHBOUR: 'it returns false'. Refute it at one input. -/
def meterPlaysWrong : ChangeSpec := { name := "meterPlays", fn := fun _ => fun
  | [d1, d2, d3] => { results := [.lit (.bool false)], args := [d1, d2, d3] }
  | _ => none }
def MeterPlaysWrongFalsely : Prop := meterPlaysRow.holds Tryd.pinned (OpenSpec.ofChange meterPlaysWrong)

/-- 'wickerlaw12.TmplChecks': WHATEVER THE INPUT: true; the input reads as it did. -/
def tmplChecksSpec : ChangeSpec := { name := "tmplChecks", fn := fun _ => fun
  | [d] => { results := [.lit (.bool true)], args := [d] }
  | _ => none }
def tmplChecksRow : OpenClaim := { program := "ytlacnkjkcikodaadoor", sum := "aed7ef44deebc7443fa48803ad19a9eac888cce61a47745b27db579f20e64369", func := "wicker/wickerlaw12.TmplChecks", spec := "tmplChecks", inPlace := ["internal/abi.NoEscape"], unfollowed := true, recurses := true, named := ["internal/strconv.uint64pow10", "math/bits.deBruijn32tab", "math/bits.deBruijn64tab"], loops := true, apart := false, laid := [("math/bits.deBruijn32tab", laid_math_bits_deBruijn32tab), ("math/bits.deBruijn64tab", laid_math_bits_deBruijn64tab), ("internal/strconv.uint64pow10", laid_internal_strconv_uint64pow10)] }
def TmplChecksSaid : Prop := tmplChecksRow.holds Tryd.pinned (OpenSpec.ofChange tmplChecksSpec)

/-- ITS FALSE NEIGHBOUR: 'it returns false'. Refute it at one input. -/
def tmplChecksWrong : ChangeSpec := { name := "tmplChecks", fn := fun _ => fun
  | [d] => { results := [.lit (.bool false)], args := [d] }
  | _ => none }
def TmplChecksWrongFalsely : Prop := tmplChecksRow.holds Tryd.pinned (OpenSpec.ofChange tmplChecksWrong)

/-- 'wickerlaw06.BnfLong': WHATEVER THE INPUT: true; the input reads as it did. -/
def bnfLongSpec : ChangeSpec := { name := "bnfLong", fn := fun _ => fun
  | [d] => { results := [.lit (.bool true)], args := [d] }
  | _ => none }
def bnfLongRow : OpenClaim := { program := "ytlacnkjkcikodaadoor", sum := "aed7ef44deebc7443fa48803ad19a9eac888cce61a47745b27db579f20e64369", func := "wicker/wickerlaw06.BnfLong", spec := "bnfLong", inPlace := ["internal/bytealg.IndexByteString", "internal/abi.NoEscape"], unfollowed := true, recurses := true, named := ["internal/strconv.uint64pow10", "math/bits.deBruijn32tab", "math/bits.deBruijn64tab"], apart := false, laid := [("math/bits.deBruijn32tab", laid_math_bits_deBruijn32tab), ("math/bits.deBruijn64tab", laid_math_bits_deBruijn64tab), ("internal/strconv.uint64pow10", laid_internal_strconv_uint64pow10)] }
def BnfLongSaid : Prop := bnfLongRow.holds Tryd.pinned (OpenSpec.ofChange bnfLongSpec)

/-- ITS FALSE NEIGHBOUR: 'it returns false'. Refute it at one input. -/
def bnfLongWrong : ChangeSpec := { name := "bnfLong", fn := fun _ => fun
  | [d] => { results := [.lit (.bool false)], args := [d] }
  | _ => none }
def BnfLongWrongFalsely : Prop := bnfLongRow.holds Tryd.pinned (OpenSpec.ofChange bnfLongWrong)

/-- 'wickerlaw08.NullableTells': WHATEVER THE INPUT: true; the input reads as it did. -/
def nullableTellsSpec : ChangeSpec := { name := "nullableTells", fn := fun _ => fun
  | [d] => { results := [.lit (.bool true)], args := [d] }
  | _ => none }
def nullableTellsRow : OpenClaim := { program := "ytlacnkjkcikodaadoor", sum := "aed7ef44deebc7443fa48803ad19a9eac888cce61a47745b27db579f20e64369", func := "wicker/wickerlaw08.NullableTells", spec := "nullableTells", inPlace := ["internal/abi.NoEscape"], unfollowed := true, recurses := true, named := ["internal/strconv.uint64pow10", "math/bits.deBruijn32tab", "math/bits.deBruijn64tab"], apart := false, laid := [("math/bits.deBruijn32tab", laid_math_bits_deBruijn32tab), ("math/bits.deBruijn64tab", laid_math_bits_deBruijn64tab), ("internal/strconv.uint64pow10", laid_internal_strconv_uint64pow10)] }
def NullableTellsSaid : Prop := nullableTellsRow.holds Tryd.pinned (OpenSpec.ofChange nullableTellsSpec)

/-- ITS FALSE NEIGHBOUR: 'it returns false'. Refute it at one input. -/
def nullableTellsWrong : ChangeSpec := { name := "nullableTells", fn := fun _ => fun
  | [d] => { results := [.lit (.bool false)], args := [d] }
  | _ => none }
def NullableTellsWrongFalsely : Prop := nullableTellsRow.holds Tryd.pinned (OpenSpec.ofChange nullableTellsWrong)

/-- 'wickerlaw08.NullableTrees': WHATEVER THE INPUT: true; the input reads as it did. -/
def nullableTreesSpec : ChangeSpec := { name := "nullableTrees", fn := fun _ => fun
  | [d1, d2] => { results := [.lit (.bool true)], args := [d1, d2] }
  | _ => none }
def nullableTreesRow : OpenClaim := { program := "ytlacnkjkcikodaadoor", sum := "aed7ef44deebc7443fa48803ad19a9eac888cce61a47745b27db579f20e64369", func := "wicker/wickerlaw08.NullableTrees", spec := "nullableTrees", inPlace := ["internal/abi.NoEscape"], unfollowed := true, recurses := true, named := ["internal/strconv.uint64pow10", "math/bits.deBruijn32tab", "math/bits.deBruijn64tab"], apart := false, laid := [("math/bits.deBruijn32tab", laid_math_bits_deBruijn32tab), ("math/bits.deBruijn64tab", laid_math_bits_deBruijn64tab), ("internal/strconv.uint64pow10", laid_internal_strconv_uint64pow10)] }
def NullableTreesSaid : Prop := nullableTreesRow.holds Tryd.pinned (OpenSpec.ofChange nullableTreesSpec)

/-- ITS FALSE NEIGHBOUR: 'it returns false'. Refute it at one input. -/
def nullableTreesWrong : ChangeSpec := { name := "nullableTrees", fn := fun _ => fun
  | [d1, d2] => { results := [.lit (.bool false)], args := [d1, d2] }
  | _ => none }
def NullableTreesWrongFalsely : Prop := nullableTreesRow.holds Tryd.pinned (OpenSpec.ofChange nullableTreesWrong)

/-- 'wickerlaw06.BnfReads': WHATEVER THE INPUT: true; the input reads as it did. -/
def bnfReadsSpec : ChangeSpec := { name := "bnfReads", fn := fun _ => fun
  | [d] => { results := [.lit (.bool true)], args := [d] }
  | _ => none }
def bnfReadsRow : OpenClaim := { program := "ytlacnkjkcikodaadoor", sum := "aed7ef44deebc7443fa48803ad19a9eac888cce61a47745b27db579f20e64369", func := "wicker/wickerlaw06.BnfReads", spec := "bnfReads", inPlace := ["internal/bytealg.IndexByteString", "internal/abi.NoEscape"], unfollowed := true, recurses := true, named := ["internal/strconv.uint64pow10", "math/bits.deBruijn32tab", "math/bits.deBruijn64tab"], apart := false, laid := [("math/bits.deBruijn32tab", laid_math_bits_deBruijn32tab), ("math/bits.deBruijn64tab", laid_math_bits_deBruijn64tab), ("internal/strconv.uint64pow10", laid_internal_strconv_uint64pow10)] }
def BnfReadsSaid : Prop := bnfReadsRow.holds Tryd.pinned (OpenSpec.ofChange bnfReadsSpec)

/-- ITS FALSE NEIGHBOUR: 'it returns false'. Refute it at one input. -/
def bnfReadsWrong : ChangeSpec := { name := "bnfReads", fn := fun _ => fun
  | [d] => { results := [.lit (.bool false)], args := [d] }
  | _ => none }
def BnfReadsWrongFalsely : Prop := bnfReadsRow.holds Tryd.pinned (OpenSpec.ofChange bnfReadsWrong)

/-- 'wickerlaw08.NullableClosed': WHATEVER THE INPUT: true; the input reads as it did. -/
def nullableClosedSpec : ChangeSpec := { name := "nullableClosed", fn := fun _ => fun
  | [d] => { results := [.lit (.bool true)], args := [d] }
  | _ => none }
def nullableClosedRow : OpenClaim := { program := "ytlacnkjkcikodaadoor", sum := "aed7ef44deebc7443fa48803ad19a9eac888cce61a47745b27db579f20e64369", func := "wicker/wickerlaw08.NullableClosed", spec := "nullableClosed", inPlace := ["internal/abi.NoEscape"], unfollowed := true, recurses := true, named := ["internal/strconv.uint64pow10", "math/bits.deBruijn32tab", "math/bits.deBruijn64tab"], apart := false, laid := [("math/bits.deBruijn32tab", laid_math_bits_deBruijn32tab), ("math/bits.deBruijn64tab", laid_math_bits_deBruijn64tab), ("internal/strconv.uint64pow10", laid_internal_strconv_uint64pow10)] }
def NullableClosedSaid : Prop := nullableClosedRow.holds Tryd.pinned (OpenSpec.ofChange nullableClosedSpec)

/-- ITS FALSE NEIGHBOUR: 'it returns false'. Refute it at one input. -/
def nullableClosedWrong : ChangeSpec := { name := "nullableClosed", fn := fun _ => fun
  | [d] => { results := [.lit (.bool false)], args := [d] }
  | _ => none }
def NullableClosedWrongFalsely : Prop := nullableClosedRow.holds Tryd.pinned (OpenSpec.ofChange nullableClosedWrong)

/-- 'wickerlaw12.TmplPlain': WHATEVER THE INPUT: true; the input reads as it did. -/
def tmplPlainSpec : ChangeSpec := { name := "tmplPlain", fn := fun _ => fun
  | [d1, d2, d3] => { results := [.lit (.bool true)], args := [d1, d2, d3] }
  | _ => none }
def tmplPlainRow : OpenClaim := { program := "ytlacnkjkcikodaadoor", sum := "aed7ef44deebc7443fa48803ad19a9eac888cce61a47745b27db579f20e64369", func := "wicker/wickerlaw12.TmplPlain", spec := "tmplPlain", inPlace := ["internal/abi.NoEscape"], unfollowed := true, recurses := true, named := ["internal/strconv.uint64pow10", "math/bits.deBruijn32tab", "math/bits.deBruijn64tab"], apart := false, laid := [("math/bits.deBruijn32tab", laid_math_bits_deBruijn32tab), ("math/bits.deBruijn64tab", laid_math_bits_deBruijn64tab), ("internal/strconv.uint64pow10", laid_internal_strconv_uint64pow10)] }
def TmplPlainSaid : Prop := tmplPlainRow.holds Tryd.pinned (OpenSpec.ofChange tmplPlainSpec)

/-- ITS FALSE NEIGHBOUR: 'it returns false'. Refute it at one input. -/
def tmplPlainWrong : ChangeSpec := { name := "tmplPlain", fn := fun _ => fun
  | [d1, d2, d3] => { results := [.lit (.bool false)], args := [d1, d2, d3] }
  | _ => none }
def TmplPlainWrongFalsely : Prop := tmplPlainRow.holds Tryd.pinned (OpenSpec.ofChange tmplPlainWrong)

/-- 'wickerlaw09.UsefulTells': WHATEVER THE INPUT: true; the input reads as it did. -/
def usefulTellsSpec : ChangeSpec := { name := "usefulTells", fn := fun _ => fun
  | [d] => { results := [.lit (.bool true)], args := [d] }
  | _ => none }
def usefulTellsRow : OpenClaim := { program := "ytlacnkjkcikodaadoor", sum := "aed7ef44deebc7443fa48803ad19a9eac888cce61a47745b27db579f20e64369", func := "wicker/wickerlaw09.UsefulTells", spec := "usefulTells", inPlace := ["internal/abi.NoEscape"], unfollowed := true, recurses := true, named := ["internal/strconv.uint64pow10", "math/bits.deBruijn32tab", "math/bits.deBruijn64tab"], apart := false, laid := [("math/bits.deBruijn32tab", laid_math_bits_deBruijn32tab), ("math/bits.deBruijn64tab", laid_math_bits_deBruijn64tab), ("internal/strconv.uint64pow10", laid_internal_strconv_uint64pow10)] }
def UsefulTellsSaid : Prop := usefulTellsRow.holds Tryd.pinned (OpenSpec.ofChange usefulTellsSpec)

/-- ITS FALSE NEIGHBOUR: 'it returns false'. Refute it at one input. -/
def usefulTellsWrong : ChangeSpec := { name := "usefulTells", fn := fun _ => fun
  | [d] => { results := [.lit (.bool false)], args := [d] }
  | _ => none }
def UsefulTellsWrongFalsely : Prop := usefulTellsRow.holds Tryd.pinned (OpenSpec.ofChange usefulTellsWrong)

/-- 'wickerlaw06.BnfMay': WHATEVER THE INPUT: true; the input reads as it did. -/
def bnfMaySpec : ChangeSpec := { name := "bnfMay", fn := fun _ => fun
  | [d1, d2] => { results := [.lit (.bool true)], args := [d1, d2] }
  | _ => none }
def bnfMayRow : OpenClaim := { program := "ytlacnkjkcikodaadoor", sum := "aed7ef44deebc7443fa48803ad19a9eac888cce61a47745b27db579f20e64369", func := "wicker/wickerlaw06.BnfMay", spec := "bnfMay", inPlace := ["internal/bytealg.IndexByteString", "internal/abi.NoEscape"], unfollowed := true, recurses := true, named := ["internal/strconv.uint64pow10", "math/bits.deBruijn32tab", "math/bits.deBruijn64tab"], apart := false, laid := [("math/bits.deBruijn32tab", laid_math_bits_deBruijn32tab), ("math/bits.deBruijn64tab", laid_math_bits_deBruijn64tab), ("internal/strconv.uint64pow10", laid_internal_strconv_uint64pow10)] }
def BnfMaySaid : Prop := bnfMayRow.holds Tryd.pinned (OpenSpec.ofChange bnfMaySpec)

/-- ITS FALSE NEIGHBOUR: 'it returns false'. Refute it at one input. -/
def bnfMayWrong : ChangeSpec := { name := "bnfMay", fn := fun _ => fun
  | [d1, d2] => { results := [.lit (.bool false)], args := [d1, d2] }
  | _ => none }
def BnfMayWrongFalsely : Prop := bnfMayRow.holds Tryd.pinned (OpenSpec.ofChange bnfMayWrong)

/- THE SECOND FORM. 'bulk': how many values and letters a reading holds, each counted each time it is reached (what is shared counts as often as it is met; a slice's spare places count too). A statement '..UptoSaid' is the law's where the arguments, and the package variables that the reading takes, are together of bulk at most 1048576: NARROWER than '..Said'. Prove '..Said' where nothing that the law and all that it calls make is longer than what came in: it says more and counts as full. Else prove '..UptoSaid'. A law counts once. -/
mutual
def uptoBulk {H : Type} : DataW H → Nat
  | .lit (.string bytes) => bytes.length + 1
  | .lit _ => 1
  | .nil => 1
  | .ptr d => uptoBulk d + 1
  | .slice elems spare => uptoBulkAll elems + uptoBulkAll spare + 1
  | .agg parts => uptoBulkAll parts + 1
  | .iface _ d => uptoBulk d + 1
  | .map entries => uptoBulkEntries entries + 1
  | .held _ => 1
def uptoBulkAll {H : Type} : List (DataW H) → Nat
  | [] => 0
  | d :: r => uptoBulk d + uptoBulkAll r
def uptoBulkEntries {H : Type} : List (Lit × DataW H) → Nat
  | [] => 0
  | x :: r => uptoBulkEntry x + uptoBulkEntries r
def uptoBulkEntry {H : Type} : Lit × DataW H → Nat
  | (.string bytes, d) => bytes.length + uptoBulk d + 1
  | (_, d) => uptoBulk d + 1
 end
def uptoSmall : (H : Type) → List (DataW H) → Bool := fun _ ds => decide (uptoBulkAll ds ≤ 1048576)
def OpenSpec.upto (s : _root_.Go.ChangeSpec) : _root_.Go.OpenSpec := { _root_.Go.OpenSpec.ofChange s with cond := some uptoSmall }

/-- 'wickerlaw10.UnitsTell', WHERE WHAT IT READS IS OF BULK AT MOST 1048576: true; the input reads as it did. -/
def unitsTellUptoRow : OpenClaim := { program := "ytlacnkjkcikodaadoor", sum := "aed7ef44deebc7443fa48803ad19a9eac888cce61a47745b27db579f20e64369", func := "wicker/wickerlaw10.UnitsTell", spec := "unitsTell", inPlace := ["internal/abi.NoEscape"], unfollowed := true, recurses := true, named := ["internal/strconv.uint64pow10", "math/bits.deBruijn32tab", "math/bits.deBruijn64tab"], apart := false, laid := [("math/bits.deBruijn32tab", laid_math_bits_deBruijn32tab), ("math/bits.deBruijn64tab", laid_math_bits_deBruijn64tab), ("internal/strconv.uint64pow10", laid_internal_strconv_uint64pow10)], narrowed := true }
def UnitsTellUptoSaid : Prop := unitsTellUptoRow.holds Tryd.pinned (OpenSpec.upto unitsTellSpec)

/-- 'wickerlaw14.MeterBounds', WHERE WHAT IT READS IS OF BULK AT MOST 1048576: true; the input reads as it did. -/
def meterBoundsUptoRow : OpenClaim := { program := "ytlacnkjkcikodaadoor", sum := "aed7ef44deebc7443fa48803ad19a9eac888cce61a47745b27db579f20e64369", func := "wicker/wickerlaw14.MeterBounds", spec := "meterBounds", inPlace := ["internal/abi.NoEscape"], unfollowed := true, recurses := true, named := ["internal/strconv.uint64pow10", "math/bits.deBruijn32tab", "math/bits.deBruijn64tab"], apart := false, laid := [("math/bits.deBruijn32tab", laid_math_bits_deBruijn32tab), ("math/bits.deBruijn64tab", laid_math_bits_deBruijn64tab), ("internal/strconv.uint64pow10", laid_internal_strconv_uint64pow10)], narrowed := true }
def MeterBoundsUptoSaid : Prop := meterBoundsUptoRow.holds Tryd.pinned (OpenSpec.upto meterBoundsSpec)

/-- 'wickerlaw14.MeterPlays', WHERE WHAT IT READS IS OF BULK AT MOST 1048576: true; the input reads as it did. -/
def meterPlaysUptoRow : OpenClaim := { program := "ytlacnkjkcikodaadoor", sum := "aed7ef44deebc7443fa48803ad19a9eac888cce61a47745b27db579f20e64369", func := "wicker/wickerlaw14.MeterPlays", spec := "meterPlays", inPlace := ["internal/abi.NoEscape"], unfollowed := true, recurses := true, named := ["internal/strconv.uint64pow10", "math/bits.deBruijn32tab", "math/bits.deBruijn64tab"], apart := false, laid := [("math/bits.deBruijn32tab", laid_math_bits_deBruijn32tab), ("math/bits.deBruijn64tab", laid_math_bits_deBruijn64tab), ("internal/strconv.uint64pow10", laid_internal_strconv_uint64pow10)], narrowed := true }
def MeterPlaysUptoSaid : Prop := meterPlaysUptoRow.holds Tryd.pinned (OpenSpec.upto meterPlaysSpec)

/-- 'wickerlaw12.TmplChecks', WHERE WHAT IT READS IS OF BULK AT MOST 1048576: true; the input reads as it did. -/
def tmplChecksUptoRow : OpenClaim := { program := "ytlacnkjkcikodaadoor", sum := "aed7ef44deebc7443fa48803ad19a9eac888cce61a47745b27db579f20e64369", func := "wicker/wickerlaw12.TmplChecks", spec := "tmplChecks", inPlace := ["internal/abi.NoEscape"], unfollowed := true, recurses := true, named := ["internal/strconv.uint64pow10", "math/bits.deBruijn32tab", "math/bits.deBruijn64tab"], loops := true, apart := false, laid := [("math/bits.deBruijn32tab", laid_math_bits_deBruijn32tab), ("math/bits.deBruijn64tab", laid_math_bits_deBruijn64tab), ("internal/strconv.uint64pow10", laid_internal_strconv_uint64pow10)], narrowed := true }
def TmplChecksUptoSaid : Prop := tmplChecksUptoRow.holds Tryd.pinned (OpenSpec.upto tmplChecksSpec)

/-- 'wickerlaw06.BnfLong', WHERE WHAT IT READS IS OF BULK AT MOST 1048576: true; the input reads as it did. -/
def bnfLongUptoRow : OpenClaim := { program := "ytlacnkjkcikodaadoor", sum := "aed7ef44deebc7443fa48803ad19a9eac888cce61a47745b27db579f20e64369", func := "wicker/wickerlaw06.BnfLong", spec := "bnfLong", inPlace := ["internal/bytealg.IndexByteString", "internal/abi.NoEscape"], unfollowed := true, recurses := true, named := ["internal/strconv.uint64pow10", "math/bits.deBruijn32tab", "math/bits.deBruijn64tab"], apart := false, laid := [("math/bits.deBruijn32tab", laid_math_bits_deBruijn32tab), ("math/bits.deBruijn64tab", laid_math_bits_deBruijn64tab), ("internal/strconv.uint64pow10", laid_internal_strconv_uint64pow10)], narrowed := true }
def BnfLongUptoSaid : Prop := bnfLongUptoRow.holds Tryd.pinned (OpenSpec.upto bnfLongSpec)

/-- 'wickerlaw08.NullableTells', WHERE WHAT IT READS IS OF BULK AT MOST 1048576: true; the input reads as it did. -/
def nullableTellsUptoRow : OpenClaim := { program := "ytlacnkjkcikodaadoor", sum := "aed7ef44deebc7443fa48803ad19a9eac888cce61a47745b27db579f20e64369", func := "wicker/wickerlaw08.NullableTells", spec := "nullableTells", inPlace := ["internal/abi.NoEscape"], unfollowed := true, recurses := true, named := ["internal/strconv.uint64pow10", "math/bits.deBruijn32tab", "math/bits.deBruijn64tab"], apart := false, laid := [("math/bits.deBruijn32tab", laid_math_bits_deBruijn32tab), ("math/bits.deBruijn64tab", laid_math_bits_deBruijn64tab), ("internal/strconv.uint64pow10", laid_internal_strconv_uint64pow10)], narrowed := true }
def NullableTellsUptoSaid : Prop := nullableTellsUptoRow.holds Tryd.pinned (OpenSpec.upto nullableTellsSpec)

/-- 'wickerlaw08.NullableTrees', WHERE WHAT IT READS IS OF BULK AT MOST 1048576: true; the input reads as it did. -/
def nullableTreesUptoRow : OpenClaim := { program := "ytlacnkjkcikodaadoor", sum := "aed7ef44deebc7443fa48803ad19a9eac888cce61a47745b27db579f20e64369", func := "wicker/wickerlaw08.NullableTrees", spec := "nullableTrees", inPlace := ["internal/abi.NoEscape"], unfollowed := true, recurses := true, named := ["internal/strconv.uint64pow10", "math/bits.deBruijn32tab", "math/bits.deBruijn64tab"], apart := false, laid := [("math/bits.deBruijn32tab", laid_math_bits_deBruijn32tab), ("math/bits.deBruijn64tab", laid_math_bits_deBruijn64tab), ("internal/strconv.uint64pow10", laid_internal_strconv_uint64pow10)], narrowed := true }
def NullableTreesUptoSaid : Prop := nullableTreesUptoRow.holds Tryd.pinned (OpenSpec.upto nullableTreesSpec)

/-- 'wickerlaw06.BnfReads', WHERE WHAT IT READS IS OF BULK AT MOST 1048576: true; the input reads as it did. -/
def bnfReadsUptoRow : OpenClaim := { program := "ytlacnkjkcikodaadoor", sum := "aed7ef44deebc7443fa48803ad19a9eac888cce61a47745b27db579f20e64369", func := "wicker/wickerlaw06.BnfReads", spec := "bnfReads", inPlace := ["internal/bytealg.IndexByteString", "internal/abi.NoEscape"], unfollowed := true, recurses := true, named := ["internal/strconv.uint64pow10", "math/bits.deBruijn32tab", "math/bits.deBruijn64tab"], apart := false, laid := [("math/bits.deBruijn32tab", laid_math_bits_deBruijn32tab), ("math/bits.deBruijn64tab", laid_math_bits_deBruijn64tab), ("internal/strconv.uint64pow10", laid_internal_strconv_uint64pow10)], narrowed := true }
def BnfReadsUptoSaid : Prop := bnfReadsUptoRow.holds Tryd.pinned (OpenSpec.upto bnfReadsSpec)

/-- 'wickerlaw08.NullableClosed', WHERE WHAT IT READS IS OF BULK AT MOST 1048576: true; the input reads as it did. -/
def nullableClosedUptoRow : OpenClaim := { program := "ytlacnkjkcikodaadoor", sum := "aed7ef44deebc7443fa48803ad19a9eac888cce61a47745b27db579f20e64369", func := "wicker/wickerlaw08.NullableClosed", spec := "nullableClosed", inPlace := ["internal/abi.NoEscape"], unfollowed := true, recurses := true, named := ["internal/strconv.uint64pow10", "math/bits.deBruijn32tab", "math/bits.deBruijn64tab"], apart := false, laid := [("math/bits.deBruijn32tab", laid_math_bits_deBruijn32tab), ("math/bits.deBruijn64tab", laid_math_bits_deBruijn64tab), ("internal/strconv.uint64pow10", laid_internal_strconv_uint64pow10)], narrowed := true }
def NullableClosedUptoSaid : Prop := nullableClosedUptoRow.holds Tryd.pinned (OpenSpec.upto nullableClosedSpec)

/-- 'wickerlaw12.TmplPlain', WHERE WHAT IT READS IS OF BULK AT MOST 1048576: true; the input reads as it did. -/
def tmplPlainUptoRow : OpenClaim := { program := "ytlacnkjkcikodaadoor", sum := "aed7ef44deebc7443fa48803ad19a9eac888cce61a47745b27db579f20e64369", func := "wicker/wickerlaw12.TmplPlain", spec := "tmplPlain", inPlace := ["internal/abi.NoEscape"], unfollowed := true, recurses := true, named := ["internal/strconv.uint64pow10", "math/bits.deBruijn32tab", "math/bits.deBruijn64tab"], apart := false, laid := [("math/bits.deBruijn32tab", laid_math_bits_deBruijn32tab), ("math/bits.deBruijn64tab", laid_math_bits_deBruijn64tab), ("internal/strconv.uint64pow10", laid_internal_strconv_uint64pow10)], narrowed := true }
def TmplPlainUptoSaid : Prop := tmplPlainUptoRow.holds Tryd.pinned (OpenSpec.upto tmplPlainSpec)

/-- 'wickerlaw09.UsefulTells', WHERE WHAT IT READS IS OF BULK AT MOST 1048576: true; the input reads as it did. -/
def usefulTellsUptoRow : OpenClaim := { program := "ytlacnkjkcikodaadoor", sum := "aed7ef44deebc7443fa48803ad19a9eac888cce61a47745b27db579f20e64369", func := "wicker/wickerlaw09.UsefulTells", spec := "usefulTells", inPlace := ["internal/abi.NoEscape"], unfollowed := true, recurses := true, named := ["internal/strconv.uint64pow10", "math/bits.deBruijn32tab", "math/bits.deBruijn64tab"], apart := false, laid := [("math/bits.deBruijn32tab", laid_math_bits_deBruijn32tab), ("math/bits.deBruijn64tab", laid_math_bits_deBruijn64tab), ("internal/strconv.uint64pow10", laid_internal_strconv_uint64pow10)], narrowed := true }
def UsefulTellsUptoSaid : Prop := usefulTellsUptoRow.holds Tryd.pinned (OpenSpec.upto usefulTellsSpec)

/-- 'wickerlaw06.BnfMay', WHERE WHAT IT READS IS OF BULK AT MOST 1048576: true; the input reads as it did. -/
def bnfMayUptoRow : OpenClaim := { program := "ytlacnkjkcikodaadoor", sum := "aed7ef44deebc7443fa48803ad19a9eac888cce61a47745b27db579f20e64369", func := "wicker/wickerlaw06.BnfMay", spec := "bnfMay", inPlace := ["internal/bytealg.IndexByteString", "internal/abi.NoEscape"], unfollowed := true, recurses := true, named := ["internal/strconv.uint64pow10", "math/bits.deBruijn32tab", "math/bits.deBruijn64tab"], apart := false, laid := [("math/bits.deBruijn32tab", laid_math_bits_deBruijn32tab), ("math/bits.deBruijn64tab", laid_math_bits_deBruijn64tab), ("internal/strconv.uint64pow10", laid_internal_strconv_uint64pow10)], narrowed := true }
def BnfMayUptoSaid : Prop := bnfMayUptoRow.holds Tryd.pinned (OpenSpec.upto bnfMaySpec)

end Rows
end Go.Proofs.YtlacnkjkcikodaaDoor
