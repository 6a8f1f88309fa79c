/-
  NARROWER THAN 'FOR EVERY INPUT', by the rows' own cells (each row's printed sentence says how): LinearValidates: laid · LinearValues: laid · LinearTightens: laid · LinearTightenKeeps: laid · LinearFormats: laid · LinearNegates: laid · LinearSigns: laid · LinearCombines: laid · LinearAppends: laid · LinearSubstitutes: laid · LinearSubstituteMeans: laid · LinearLeast: laid.
  DERIVED. THE GIVEN ROWS OF THIS SEAT. 12 by the template 'for every input the law returns true; each argument reads behind the call as it read before'; 0 by the template 'total and deterministic' (their statements: YtbioiodjdfcooaaDoorTotals.lean).
  GIVEN WITH THE SEED: the statements are not yours to turn. If you find one false, say at which input.
  Laid BY PROGRAM, IN A SANDBOX (cutbox-rows.mjs): the forced cells as the released guide's own fill.sh prints them over the translation 58d0160165183b08… (all of the seat's roots in one cut). By AI agents, Wed Nov 11 2026. No macro, syntax, notation, axiom, sorry.
-/
import Derived.Test.YtbioiodjdfcooaaDoorChecked
import GoSem.Claim
import GoSem.ClaimJoined
import GoSem.ClaimMapViews
import Derived.JoinedTies
import Derived.KernelRfl
namespace Go.Proofs.YtbioiodjdfcooaaDoor
/- THE CELL 'sum', in the pinned program and in every row, IS THE sha256 OF THE DUMP (.gsa) THAT YtbioiodjdfcooaaDoorProg.lean LOADS. Nothing in Lean hashes anything: it is a label: what it is worth is what the hold of that sum in a sandbox is worth. -/
noncomputable def Tryd.pinned : Pinned := { name := "ytbioiodjdfcooaadoor", sum := "58d0160165183b0819f47a5d0e4817af41a4122c1479d2fe2e8aced4036d3dc3", checked := Tryd.checked }
namespace Rows
def none {H : Type} : Left H := { results := [], args := [] }

/- WHAT THE LISTED PACKAGE-LEVEL VARIABLES READ AS WHEN THE CALL BEGINS. Each datum BY PROGRAM (the guide's laid-datum.mjs) off the statement by which the dump's own 'gosem.cut.vars' lays the variable. In a bare row this is a premise. The card (YtbioiodjdfcooaaDoorCards.lean) ties it to the program's text. -/
def laid_math_bits_deBruijn32tab {H : Type} : DataW H := .agg [.lit (.int .u8 0), .lit (.int .u8 1), .lit (.int .u8 28), .lit (.int .u8 2), .lit (.int .u8 29), .lit (.int .u8 14), .lit (.int .u8 24), .lit (.int .u8 3), .lit (.int .u8 30), .lit (.int .u8 22), .lit (.int .u8 20), .lit (.int .u8 15), .lit (.int .u8 25), .lit (.int .u8 17), .lit (.int .u8 4), .lit (.int .u8 8), .lit (.int .u8 31), .lit (.int .u8 27), .lit (.int .u8 13), .lit (.int .u8 23), .lit (.int .u8 21), .lit (.int .u8 19), .lit (.int .u8 16), .lit (.int .u8 7), .lit (.int .u8 26), .lit (.int .u8 12), .lit (.int .u8 18), .lit (.int .u8 6), .lit (.int .u8 11), .lit (.int .u8 5), .lit (.int .u8 10), .lit (.int .u8 9)]
def laid_math_bits_deBruijn64tab {H : Type} : DataW H := .agg [.lit (.int .u8 0), .lit (.int .u8 1), .lit (.int .u8 56), .lit (.int .u8 2), .lit (.int .u8 57), .lit (.int .u8 49), .lit (.int .u8 28), .lit (.int .u8 3), .lit (.int .u8 61), .lit (.int .u8 58), .lit (.int .u8 42), .lit (.int .u8 50), .lit (.int .u8 38), .lit (.int .u8 29), .lit (.int .u8 17), .lit (.int .u8 4), .lit (.int .u8 62), .lit (.int .u8 47), .lit (.int .u8 59), .lit (.int .u8 36), .lit (.int .u8 45), .lit (.int .u8 43), .lit (.int .u8 51), .lit (.int .u8 22), .lit (.int .u8 53), .lit (.int .u8 39), .lit (.int .u8 33), .lit (.int .u8 30), .lit (.int .u8 24), .lit (.int .u8 18), .lit (.int .u8 12), .lit (.int .u8 5), .lit (.int .u8 63), .lit (.int .u8 55), .lit (.int .u8 48), .lit (.int .u8 27), .lit (.int .u8 60), .lit (.int .u8 41), .lit (.int .u8 37), .lit (.int .u8 16), .lit (.int .u8 46), .lit (.int .u8 35), .lit (.int .u8 44), .lit (.int .u8 21), .lit (.int .u8 52), .lit (.int .u8 32), .lit (.int .u8 23), .lit (.int .u8 11), .lit (.int .u8 54), .lit (.int .u8 26), .lit (.int .u8 40), .lit (.int .u8 15), .lit (.int .u8 34), .lit (.int .u8 20), .lit (.int .u8 31), .lit (.int .u8 10), .lit (.int .u8 25), .lit (.int .u8 14), .lit (.int .u8 19), .lit (.int .u8 9), .lit (.int .u8 13), .lit (.int .u8 8), .lit (.int .u8 7), .lit (.int .u8 6)]
def laid_internal_strconv_uint64pow10 {H : Type} : DataW H := .agg [.lit (.int .u64 1), .lit (.int .u64 10), .lit (.int .u64 100), .lit (.int .u64 1000), .lit (.int .u64 10000), .lit (.int .u64 100000), .lit (.int .u64 1000000), .lit (.int .u64 10000000), .lit (.int .u64 100000000), .lit (.int .u64 1000000000), .lit (.int .u64 10000000000), .lit (.int .u64 100000000000), .lit (.int .u64 1000000000000), .lit (.int .u64 10000000000000), .lit (.int .u64 100000000000000), .lit (.int .u64 1000000000000000), .lit (.int .u64 10000000000000000), .lit (.int .u64 100000000000000000), .lit (.int .u64 1000000000000000000), .lit (.int .u64 10000000000000000000)]

/-- 'familychecklaw01.LinearValidates': WHATEVER THE INPUT: true; the input reads as it did. -/
def linearValidatesSpec : ChangeSpec := { name := "linearValidates", fn := fun _ => fun
  | [d] => { results := [.lit (.bool true)], args := [d] }
  | _ => none }
def linearValidatesRow : OpenClaim := { program := "ytbioiodjdfcooaadoor", sum := "58d0160165183b0819f47a5d0e4817af41a4122c1479d2fe2e8aced4036d3dc3", func := "familycheck/familychecklaw01.LinearValidates", spec := "linearValidates", inPlace := ["internal/abi.NoEscape"], named := ["internal/strconv.uint64pow10", "math/bits.deBruijn32tab", "math/bits.deBruijn64tab"], apart := false, laid := [("math/bits.deBruijn32tab", laid_math_bits_deBruijn32tab), ("math/bits.deBruijn64tab", laid_math_bits_deBruijn64tab), ("internal/strconv.uint64pow10", laid_internal_strconv_uint64pow10)] }
def LinearValidatesSaid : Prop := linearValidatesRow.holds Tryd.pinned (OpenSpec.ofChange linearValidatesSpec)

/-- ITS FALSE NEIGHBOUR: 'it returns false'. Refute it at one input. -/
def linearValidatesWrong : ChangeSpec := { name := "linearValidates", fn := fun _ => fun
  | [d] => { results := [.lit (.bool false)], args := [d] }
  | _ => none }
def LinearValidatesWrongFalsely : Prop := linearValidatesRow.holds Tryd.pinned (OpenSpec.ofChange linearValidatesWrong)

/-- 'familychecklaw01.LinearValues': WHATEVER THE INPUT: true; the input reads as it did. -/
def linearValuesSpec : ChangeSpec := { name := "linearValues", fn := fun _ => fun
  | [d1, d2, d3] => { results := [.lit (.bool true)], args := [d1, d2, d3] }
  | _ => none }
def linearValuesRow : OpenClaim := { program := "ytbioiodjdfcooaadoor", sum := "58d0160165183b0819f47a5d0e4817af41a4122c1479d2fe2e8aced4036d3dc3", func := "familycheck/familychecklaw01.LinearValues", spec := "linearValues", inPlace := ["internal/abi.NoEscape"], named := ["internal/strconv.uint64pow10", "math/bits.deBruijn32tab", "math/bits.deBruijn64tab"], apart := false, laid := [("math/bits.deBruijn32tab", laid_math_bits_deBruijn32tab), ("math/bits.deBruijn64tab", laid_math_bits_deBruijn64tab), ("internal/strconv.uint64pow10", laid_internal_strconv_uint64pow10)] }
def LinearValuesSaid : Prop := linearValuesRow.holds Tryd.pinned (OpenSpec.ofChange linearValuesSpec)

/-- ITS FALSE NEIGHBOUR: 'it returns false'. Refute it at one input. -/
def linearValuesWrong : ChangeSpec := { name := "linearValues", fn := fun _ => fun
  | [d1, d2, d3] => { results := [.lit (.bool false)], args := [d1, d2, d3] }
  | _ => none }
def LinearValuesWrongFalsely : Prop := linearValuesRow.holds Tryd.pinned (OpenSpec.ofChange linearValuesWrong)

/-- 'familychecklaw01.LinearTightens': WHATEVER THE INPUT: true; the input reads as it did. -/
def linearTightensSpec : ChangeSpec := { name := "linearTightens", fn := fun _ => fun
  | [d] => { results := [.lit (.bool true)], args := [d] }
  | _ => none }
def linearTightensRow : OpenClaim := { program := "ytbioiodjdfcooaadoor", sum := "58d0160165183b0819f47a5d0e4817af41a4122c1479d2fe2e8aced4036d3dc3", func := "familycheck/familychecklaw01.LinearTightens", spec := "linearTightens", inPlace := ["internal/abi.NoEscape"], named := ["internal/strconv.uint64pow10", "math/bits.deBruijn32tab", "math/bits.deBruijn64tab"], apart := false, laid := [("math/bits.deBruijn32tab", laid_math_bits_deBruijn32tab), ("math/bits.deBruijn64tab", laid_math_bits_deBruijn64tab), ("internal/strconv.uint64pow10", laid_internal_strconv_uint64pow10)] }
def LinearTightensSaid : Prop := linearTightensRow.holds Tryd.pinned (OpenSpec.ofChange linearTightensSpec)

/-- ITS FALSE NEIGHBOUR: 'it returns false'. Refute it at one input. -/
def linearTightensWrong : ChangeSpec := { name := "linearTightens", fn := fun _ => fun
  | [d] => { results := [.lit (.bool false)], args := [d] }
  | _ => none }
def LinearTightensWrongFalsely : Prop := linearTightensRow.holds Tryd.pinned (OpenSpec.ofChange linearTightensWrong)

/-- 'familychecklaw01.LinearTightenKeeps': WHATEVER THE INPUT: true; the input reads as it did. -/
def linearTightenKeepsSpec : ChangeSpec := { name := "linearTightenKeeps", fn := fun _ => fun
  | [d1, d2] => { results := [.lit (.bool true)], args := [d1, d2] }
  | _ => none }
def linearTightenKeepsRow : OpenClaim := { program := "ytbioiodjdfcooaadoor", sum := "58d0160165183b0819f47a5d0e4817af41a4122c1479d2fe2e8aced4036d3dc3", func := "familycheck/familychecklaw01.LinearTightenKeeps", spec := "linearTightenKeeps", inPlace := ["internal/abi.NoEscape"], named := ["internal/strconv.uint64pow10", "math/bits.deBruijn32tab", "math/bits.deBruijn64tab"], apart := false, laid := [("math/bits.deBruijn32tab", laid_math_bits_deBruijn32tab), ("math/bits.deBruijn64tab", laid_math_bits_deBruijn64tab), ("internal/strconv.uint64pow10", laid_internal_strconv_uint64pow10)] }
def LinearTightenKeepsSaid : Prop := linearTightenKeepsRow.holds Tryd.pinned (OpenSpec.ofChange linearTightenKeepsSpec)

/-- ITS FALSE NEIGHBOUR: 'it returns false'. Refute it at one input. -/
def linearTightenKeepsWrong : ChangeSpec := { name := "linearTightenKeeps", fn := fun _ => fun
  | [d1, d2] => { results := [.lit (.bool false)], args := [d1, d2] }
  | _ => none }
def LinearTightenKeepsWrongFalsely : Prop := linearTightenKeepsRow.holds Tryd.pinned (OpenSpec.ofChange linearTightenKeepsWrong)

/-- 'familychecklaw01.LinearFormats': WHATEVER THE INPUT: true; the input reads as it did. -/
def linearFormatsSpec : ChangeSpec := { name := "linearFormats", fn := fun _ => fun
  | [d] => { results := [.lit (.bool true)], args := [d] }
  | _ => none }
def linearFormatsRow : OpenClaim := { program := "ytbioiodjdfcooaadoor", sum := "58d0160165183b0819f47a5d0e4817af41a4122c1479d2fe2e8aced4036d3dc3", func := "familycheck/familychecklaw01.LinearFormats", spec := "linearFormats", inPlace := ["internal/abi.NoEscape"], named := ["internal/strconv.uint64pow10", "math/bits.deBruijn32tab", "math/bits.deBruijn64tab"], apart := false, laid := [("math/bits.deBruijn32tab", laid_math_bits_deBruijn32tab), ("math/bits.deBruijn64tab", laid_math_bits_deBruijn64tab), ("internal/strconv.uint64pow10", laid_internal_strconv_uint64pow10)] }
def LinearFormatsSaid : Prop := linearFormatsRow.holds Tryd.pinned (OpenSpec.ofChange linearFormatsSpec)

/-- ITS FALSE NEIGHBOUR: 'it returns false'. Refute it at one input. -/
def linearFormatsWrong : ChangeSpec := { name := "linearFormats", fn := fun _ => fun
  | [d] => { results := [.lit (.bool false)], args := [d] }
  | _ => none }
def LinearFormatsWrongFalsely : Prop := linearFormatsRow.holds Tryd.pinned (OpenSpec.ofChange linearFormatsWrong)

/-- 'familychecklaw01.LinearNegates': WHATEVER THE INPUT: true; the input reads as it did. -/
def linearNegatesSpec : ChangeSpec := { name := "linearNegates", fn := fun _ => fun
  | [d1, d2] => { results := [.lit (.bool true)], args := [d1, d2] }
  | _ => none }
def linearNegatesRow : OpenClaim := { program := "ytbioiodjdfcooaadoor", sum := "58d0160165183b0819f47a5d0e4817af41a4122c1479d2fe2e8aced4036d3dc3", func := "familycheck/familychecklaw01.LinearNegates", spec := "linearNegates", inPlace := ["internal/abi.NoEscape"], named := ["internal/strconv.uint64pow10", "math/bits.deBruijn32tab", "math/bits.deBruijn64tab"], apart := false, laid := [("math/bits.deBruijn32tab", laid_math_bits_deBruijn32tab), ("math/bits.deBruijn64tab", laid_math_bits_deBruijn64tab), ("internal/strconv.uint64pow10", laid_internal_strconv_uint64pow10)] }
def LinearNegatesSaid : Prop := linearNegatesRow.holds Tryd.pinned (OpenSpec.ofChange linearNegatesSpec)

/-- ITS FALSE NEIGHBOUR: 'it returns false'. Refute it at one input. -/
def linearNegatesWrong : ChangeSpec := { name := "linearNegates", fn := fun _ => fun
  | [d1, d2] => { results := [.lit (.bool false)], args := [d1, d2] }
  | _ => none }
def LinearNegatesWrongFalsely : Prop := linearNegatesRow.holds Tryd.pinned (OpenSpec.ofChange linearNegatesWrong)

/-- 'familychecklaw01.LinearSigns': WHATEVER THE INPUT: true; the input reads as it did. -/
def linearSignsSpec : ChangeSpec := { name := "linearSigns", fn := fun _ => fun
  | [d1, d2] => { results := [.lit (.bool true)], args := [d1, d2] }
  | _ => none }
def linearSignsRow : OpenClaim := { program := "ytbioiodjdfcooaadoor", sum := "58d0160165183b0819f47a5d0e4817af41a4122c1479d2fe2e8aced4036d3dc3", func := "familycheck/familychecklaw01.LinearSigns", spec := "linearSigns", inPlace := ["internal/abi.NoEscape"], named := ["internal/strconv.uint64pow10", "math/bits.deBruijn32tab", "math/bits.deBruijn64tab"], apart := false, laid := [("math/bits.deBruijn32tab", laid_math_bits_deBruijn32tab), ("math/bits.deBruijn64tab", laid_math_bits_deBruijn64tab), ("internal/strconv.uint64pow10", laid_internal_strconv_uint64pow10)] }
def LinearSignsSaid : Prop := linearSignsRow.holds Tryd.pinned (OpenSpec.ofChange linearSignsSpec)

/-- ITS FALSE NEIGHBOUR: 'it returns false'. Refute it at one input. -/
def linearSignsWrong : ChangeSpec := { name := "linearSigns", fn := fun _ => fun
  | [d1, d2] => { results := [.lit (.bool false)], args := [d1, d2] }
  | _ => none }
def LinearSignsWrongFalsely : Prop := linearSignsRow.holds Tryd.pinned (OpenSpec.ofChange linearSignsWrong)

/-- 'familychecklaw01.LinearCombines': WHATEVER THE INPUT: true; the input reads as it did. -/
def linearCombinesSpec : ChangeSpec := { name := "linearCombines", fn := fun _ => fun
  | [d] => { results := [.lit (.bool true)], args := [d] }
  | _ => none }
def linearCombinesRow : OpenClaim := { program := "ytbioiodjdfcooaadoor", sum := "58d0160165183b0819f47a5d0e4817af41a4122c1479d2fe2e8aced4036d3dc3", func := "familycheck/familychecklaw01.LinearCombines", spec := "linearCombines", inPlace := ["internal/abi.NoEscape"], named := ["internal/strconv.uint64pow10", "math/bits.deBruijn32tab", "math/bits.deBruijn64tab"], apart := false, laid := [("math/bits.deBruijn32tab", laid_math_bits_deBruijn32tab), ("math/bits.deBruijn64tab", laid_math_bits_deBruijn64tab), ("internal/strconv.uint64pow10", laid_internal_strconv_uint64pow10)] }
def LinearCombinesSaid : Prop := linearCombinesRow.holds Tryd.pinned (OpenSpec.ofChange linearCombinesSpec)

/-- ITS FALSE NEIGHBOUR: 'it returns false'. Refute it at one input. -/
def linearCombinesWrong : ChangeSpec := { name := "linearCombines", fn := fun _ => fun
  | [d] => { results := [.lit (.bool false)], args := [d] }
  | _ => none }
def LinearCombinesWrongFalsely : Prop := linearCombinesRow.holds Tryd.pinned (OpenSpec.ofChange linearCombinesWrong)

/-- 'familychecklaw01.LinearAppends': WHATEVER THE INPUT: true; the input reads as it did. -/
def linearAppendsSpec : ChangeSpec := { name := "linearAppends", fn := fun _ => fun
  | [d1, d2] => { results := [.lit (.bool true)], args := [d1, d2] }
  | _ => none }
def linearAppendsRow : OpenClaim := { program := "ytbioiodjdfcooaadoor", sum := "58d0160165183b0819f47a5d0e4817af41a4122c1479d2fe2e8aced4036d3dc3", func := "familycheck/familychecklaw01.LinearAppends", spec := "linearAppends", inPlace := ["internal/abi.NoEscape"], named := ["internal/strconv.uint64pow10", "math/bits.deBruijn32tab", "math/bits.deBruijn64tab"], apart := false, laid := [("math/bits.deBruijn32tab", laid_math_bits_deBruijn32tab), ("math/bits.deBruijn64tab", laid_math_bits_deBruijn64tab), ("internal/strconv.uint64pow10", laid_internal_strconv_uint64pow10)] }
def LinearAppendsSaid : Prop := linearAppendsRow.holds Tryd.pinned (OpenSpec.ofChange linearAppendsSpec)

/-- ITS FALSE NEIGHBOUR: 'it returns false'. Refute it at one input. -/
def linearAppendsWrong : ChangeSpec := { name := "linearAppends", fn := fun _ => fun
  | [d1, d2] => { results := [.lit (.bool false)], args := [d1, d2] }
  | _ => none }
def LinearAppendsWrongFalsely : Prop := linearAppendsRow.holds Tryd.pinned (OpenSpec.ofChange linearAppendsWrong)

/-- 'familychecklaw01.LinearSubstitutes': WHATEVER THE INPUT: true; the input reads as it did. -/
def linearSubstitutesSpec : ChangeSpec := { name := "linearSubstitutes", fn := fun _ => fun
  | [d1, d2] => { results := [.lit (.bool true)], args := [d1, d2] }
  | _ => none }
def linearSubstitutesRow : OpenClaim := { program := "ytbioiodjdfcooaadoor", sum := "58d0160165183b0819f47a5d0e4817af41a4122c1479d2fe2e8aced4036d3dc3", func := "familycheck/familychecklaw01.LinearSubstitutes", spec := "linearSubstitutes", inPlace := ["internal/abi.NoEscape"], named := ["internal/strconv.uint64pow10", "math/bits.deBruijn32tab", "math/bits.deBruijn64tab"], apart := false, laid := [("math/bits.deBruijn32tab", laid_math_bits_deBruijn32tab), ("math/bits.deBruijn64tab", laid_math_bits_deBruijn64tab), ("internal/strconv.uint64pow10", laid_internal_strconv_uint64pow10)] }
def LinearSubstitutesSaid : Prop := linearSubstitutesRow.holds Tryd.pinned (OpenSpec.ofChange linearSubstitutesSpec)

/-- ITS FALSE NEIGHBOUR: 'it returns false'. Refute it at one input. -/
def linearSubstitutesWrong : ChangeSpec := { name := "linearSubstitutes", fn := fun _ => fun
  | [d1, d2] => { results := [.lit (.bool false)], args := [d1, d2] }
  | _ => none }
def LinearSubstitutesWrongFalsely : Prop := linearSubstitutesRow.holds Tryd.pinned (OpenSpec.ofChange linearSubstitutesWrong)

/-- 'familychecklaw01.LinearSubstituteMeans': WHATEVER THE INPUT: true; the input reads as it did. -/
def linearSubstituteMeansSpec : ChangeSpec := { name := "linearSubstituteMeans", fn := fun _ => fun
  | [d1, d2, d3] => { results := [.lit (.bool true)], args := [d1, d2, d3] }
  | _ => none }
def linearSubstituteMeansRow : OpenClaim := { program := "ytbioiodjdfcooaadoor", sum := "58d0160165183b0819f47a5d0e4817af41a4122c1479d2fe2e8aced4036d3dc3", func := "familycheck/familychecklaw01.LinearSubstituteMeans", spec := "linearSubstituteMeans", inPlace := ["internal/abi.NoEscape"], named := ["internal/strconv.uint64pow10", "math/bits.deBruijn32tab", "math/bits.deBruijn64tab"], apart := false, laid := [("math/bits.deBruijn32tab", laid_math_bits_deBruijn32tab), ("math/bits.deBruijn64tab", laid_math_bits_deBruijn64tab), ("internal/strconv.uint64pow10", laid_internal_strconv_uint64pow10)] }
def LinearSubstituteMeansSaid : Prop := linearSubstituteMeansRow.holds Tryd.pinned (OpenSpec.ofChange linearSubstituteMeansSpec)

/-- ITS FALSE NEIGHBOUR: 'it returns false'. Refute it at one input. -/
def linearSubstituteMeansWrong : ChangeSpec := { name := "linearSubstituteMeans", fn := fun _ => fun
  | [d1, d2, d3] => { results := [.lit (.bool false)], args := [d1, d2, d3] }
  | _ => none }
def LinearSubstituteMeansWrongFalsely : Prop := linearSubstituteMeansRow.holds Tryd.pinned (OpenSpec.ofChange linearSubstituteMeansWrong)

/-- 'familychecklaw01.LinearLeast': WHATEVER THE INPUT: true; the input reads as it did. -/
def linearLeastSpec : ChangeSpec := { name := "linearLeast", fn := fun _ => fun
  | [d1, d2] => { results := [.lit (.bool true)], args := [d1, d2] }
  | _ => none }
def linearLeastRow : OpenClaim := { program := "ytbioiodjdfcooaadoor", sum := "58d0160165183b0819f47a5d0e4817af41a4122c1479d2fe2e8aced4036d3dc3", func := "familycheck/familychecklaw01.LinearLeast", spec := "linearLeast", inPlace := ["internal/abi.NoEscape"], named := ["internal/strconv.uint64pow10", "math/bits.deBruijn32tab", "math/bits.deBruijn64tab"], apart := false, laid := [("math/bits.deBruijn32tab", laid_math_bits_deBruijn32tab), ("math/bits.deBruijn64tab", laid_math_bits_deBruijn64tab), ("internal/strconv.uint64pow10", laid_internal_strconv_uint64pow10)] }
def LinearLeastSaid : Prop := linearLeastRow.holds Tryd.pinned (OpenSpec.ofChange linearLeastSpec)

/-- ITS FALSE NEIGHBOUR: 'it returns false'. Refute it at one input. -/
def linearLeastWrong : ChangeSpec := { name := "linearLeast", fn := fun _ => fun
  | [d1, d2] => { results := [.lit (.bool false)], args := [d1, d2] }
  | _ => none }
def LinearLeastWrongFalsely : Prop := linearLeastRow.holds Tryd.pinned (OpenSpec.ofChange linearLeastWrong)

/- THE SECOND FORM. 'bulk': how many values and letters a reading holds, each counted each time it is reached (what is shared counts as often as it is met; a slice's spare places count too). A statement '..UptoSaid' is the law's where the arguments, and the package variables that the reading takes, are together of bulk at most 1048576: NARROWER than '..Said'. Prove '..Said' where nothing that the law and all that it calls make is longer than what came in: it says more and counts as full. Else prove '..UptoSaid'. A law counts once. -/
mutual
def uptoBulk {H : Type} : DataW H → Nat
  | .lit (.string bytes) => bytes.length + 1
  | .lit _ => 1
  | .nil => 1
  | .ptr d => uptoBulk d + 1
  | .slice elems spare => uptoBulkAll elems + uptoBulkAll spare + 1
  | .agg parts => uptoBulkAll parts + 1
  | .iface _ d => uptoBulk d + 1
  | .map entries => uptoBulkEntries entries + 1
  | .held _ => 1
def uptoBulkAll {H : Type} : List (DataW H) → Nat
  | [] => 0
  | d :: r => uptoBulk d + uptoBulkAll r
def uptoBulkEntries {H : Type} : List (Lit × DataW H) → Nat
  | [] => 0
  | x :: r => uptoBulkEntry x + uptoBulkEntries r
def uptoBulkEntry {H : Type} : Lit × DataW H → Nat
  | (.string bytes, d) => bytes.length + uptoBulk d + 1
  | (_, d) => uptoBulk d + 1
 end
def uptoSmall : (H : Type) → List (DataW H) → Bool := fun _ ds => decide (uptoBulkAll ds ≤ 1048576)
def OpenSpec.upto (s : _root_.Go.ChangeSpec) : _root_.Go.OpenSpec := { _root_.Go.OpenSpec.ofChange s with cond := some uptoSmall }

/-- 'familychecklaw01.LinearValidates', WHERE WHAT IT READS IS OF BULK AT MOST 1048576: true; the input reads as it did. -/
def linearValidatesUptoRow : OpenClaim := { program := "ytbioiodjdfcooaadoor", sum := "58d0160165183b0819f47a5d0e4817af41a4122c1479d2fe2e8aced4036d3dc3", func := "familycheck/familychecklaw01.LinearValidates", spec := "linearValidates", inPlace := ["internal/abi.NoEscape"], named := ["internal/strconv.uint64pow10", "math/bits.deBruijn32tab", "math/bits.deBruijn64tab"], apart := false, laid := [("math/bits.deBruijn32tab", laid_math_bits_deBruijn32tab), ("math/bits.deBruijn64tab", laid_math_bits_deBruijn64tab), ("internal/strconv.uint64pow10", laid_internal_strconv_uint64pow10)], narrowed := true }
def LinearValidatesUptoSaid : Prop := linearValidatesUptoRow.holds Tryd.pinned (OpenSpec.upto linearValidatesSpec)

/-- 'familychecklaw01.LinearValues', WHERE WHAT IT READS IS OF BULK AT MOST 1048576: true; the input reads as it did. -/
def linearValuesUptoRow : OpenClaim := { program := "ytbioiodjdfcooaadoor", sum := "58d0160165183b0819f47a5d0e4817af41a4122c1479d2fe2e8aced4036d3dc3", func := "familycheck/familychecklaw01.LinearValues", spec := "linearValues", inPlace := ["internal/abi.NoEscape"], named := ["internal/strconv.uint64pow10", "math/bits.deBruijn32tab", "math/bits.deBruijn64tab"], apart := false, laid := [("math/bits.deBruijn32tab", laid_math_bits_deBruijn32tab), ("math/bits.deBruijn64tab", laid_math_bits_deBruijn64tab), ("internal/strconv.uint64pow10", laid_internal_strconv_uint64pow10)], narrowed := true }
def LinearValuesUptoSaid : Prop := linearValuesUptoRow.holds Tryd.pinned (OpenSpec.upto linearValuesSpec)

/-- 'familychecklaw01.LinearTightens', WHERE WHAT IT READS IS OF BULK AT MOST 1048576: true; the input reads as it did. -/
def linearTightensUptoRow : OpenClaim := { program := "ytbioiodjdfcooaadoor", sum := "58d0160165183b0819f47a5d0e4817af41a4122c1479d2fe2e8aced4036d3dc3", func := "familycheck/familychecklaw01.LinearTightens", spec := "linearTightens", inPlace := ["internal/abi.NoEscape"], named := ["internal/strconv.uint64pow10", "math/bits.deBruijn32tab", "math/bits.deBruijn64tab"], apart := false, laid := [("math/bits.deBruijn32tab", laid_math_bits_deBruijn32tab), ("math/bits.deBruijn64tab", laid_math_bits_deBruijn64tab), ("internal/strconv.uint64pow10", laid_internal_strconv_uint64pow10)], narrowed := true }
def LinearTightensUptoSaid : Prop := linearTightensUptoRow.holds Tryd.pinned (OpenSpec.upto linearTightensSpec)

/-- 'familychecklaw01.LinearTightenKeeps', WHERE WHAT IT READS IS OF BULK AT MOST 1048576: true; the input reads as it did. -/
def linearTightenKeepsUptoRow : OpenClaim := { program := "ytbioiodjdfcooaadoor", sum := "58d0160165183b0819f47a5d0e4817af41a4122c1479d2fe2e8aced4036d3dc3", func := "familycheck/familychecklaw01.LinearTightenKeeps", spec := "linearTightenKeeps", inPlace := ["internal/abi.NoEscape"], named := ["internal/strconv.uint64pow10", "math/bits.deBruijn32tab", "math/bits.deBruijn64tab"], apart := false, laid := [("math/bits.deBruijn32tab", laid_math_bits_deBruijn32tab), ("math/bits.deBruijn64tab", laid_math_bits_deBruijn64tab), ("internal/strconv.uint64pow10", laid_internal_strconv_uint64pow10)], narrowed := true }
def LinearTightenKeepsUptoSaid : Prop := linearTightenKeepsUptoRow.holds Tryd.pinned (OpenSpec.upto linearTightenKeepsSpec)

/-- 'familychecklaw01.LinearFormats', WHERE WHAT IT READS IS OF BULK AT MOST 1048576: true; the input reads as it did. -/
def linearFormatsUptoRow : OpenClaim := { program := "ytbioiodjdfcooaadoor", sum := "58d0160165183b0819f47a5d0e4817af41a4122c1479d2fe2e8aced4036d3dc3", func := "familycheck/familychecklaw01.LinearFormats", spec := "linearFormats", inPlace := ["internal/abi.NoEscape"], named := ["internal/strconv.uint64pow10", "math/bits.deBruijn32tab", "math/bits.deBruijn64tab"], apart := false, laid := [("math/bits.deBruijn32tab", laid_math_bits_deBruijn32tab), ("math/bits.deBruijn64tab", laid_math_bits_deBruijn64tab), ("internal/strconv.uint64pow10", laid_internal_strconv_uint64pow10)], narrowed := true }
def LinearFormatsUptoSaid : Prop := linearFormatsUptoRow.holds Tryd.pinned (OpenSpec.upto linearFormatsSpec)

/-- 'familychecklaw01.LinearNegates', WHERE WHAT IT READS IS OF BULK AT MOST 1048576: true; the input reads as it did. -/
def linearNegatesUptoRow : OpenClaim := { program := "ytbioiodjdfcooaadoor", sum := "58d0160165183b0819f47a5d0e4817af41a4122c1479d2fe2e8aced4036d3dc3", func := "familycheck/familychecklaw01.LinearNegates", spec := "linearNegates", inPlace := ["internal/abi.NoEscape"], named := ["internal/strconv.uint64pow10", "math/bits.deBruijn32tab", "math/bits.deBruijn64tab"], apart := false, laid := [("math/bits.deBruijn32tab", laid_math_bits_deBruijn32tab), ("math/bits.deBruijn64tab", laid_math_bits_deBruijn64tab), ("internal/strconv.uint64pow10", laid_internal_strconv_uint64pow10)], narrowed := true }
def LinearNegatesUptoSaid : Prop := linearNegatesUptoRow.holds Tryd.pinned (OpenSpec.upto linearNegatesSpec)

/-- 'familychecklaw01.LinearSigns', WHERE WHAT IT READS IS OF BULK AT MOST 1048576: true; the input reads as it did. -/
def linearSignsUptoRow : OpenClaim := { program := "ytbioiodjdfcooaadoor", sum := "58d0160165183b0819f47a5d0e4817af41a4122c1479d2fe2e8aced4036d3dc3", func := "familycheck/familychecklaw01.LinearSigns", spec := "linearSigns", inPlace := ["internal/abi.NoEscape"], named := ["internal/strconv.uint64pow10", "math/bits.deBruijn32tab", "math/bits.deBruijn64tab"], apart := false, laid := [("math/bits.deBruijn32tab", laid_math_bits_deBruijn32tab), ("math/bits.deBruijn64tab", laid_math_bits_deBruijn64tab), ("internal/strconv.uint64pow10", laid_internal_strconv_uint64pow10)], narrowed := true }
def LinearSignsUptoSaid : Prop := linearSignsUptoRow.holds Tryd.pinned (OpenSpec.upto linearSignsSpec)

/-- 'familychecklaw01.LinearCombines', WHERE WHAT IT READS IS OF BULK AT MOST 1048576: true; the input reads as it did. -/
def linearCombinesUptoRow : OpenClaim := { program := "ytbioiodjdfcooaadoor", sum := "58d0160165183b0819f47a5d0e4817af41a4122c1479d2fe2e8aced4036d3dc3", func := "familycheck/familychecklaw01.LinearCombines", spec := "linearCombines", inPlace := ["internal/abi.NoEscape"], named := ["internal/strconv.uint64pow10", "math/bits.deBruijn32tab", "math/bits.deBruijn64tab"], apart := false, laid := [("math/bits.deBruijn32tab", laid_math_bits_deBruijn32tab), ("math/bits.deBruijn64tab", laid_math_bits_deBruijn64tab), ("internal/strconv.uint64pow10", laid_internal_strconv_uint64pow10)], narrowed := true }
def LinearCombinesUptoSaid : Prop := linearCombinesUptoRow.holds Tryd.pinned (OpenSpec.upto linearCombinesSpec)

/-- 'familychecklaw01.LinearAppends', WHERE WHAT IT READS IS OF BULK AT MOST 1048576: true; the input reads as it did. -/
def linearAppendsUptoRow : OpenClaim := { program := "ytbioiodjdfcooaadoor", sum := "58d0160165183b0819f47a5d0e4817af41a4122c1479d2fe2e8aced4036d3dc3", func := "familycheck/familychecklaw01.LinearAppends", spec := "linearAppends", inPlace := ["internal/abi.NoEscape"], named := ["internal/strconv.uint64pow10", "math/bits.deBruijn32tab", "math/bits.deBruijn64tab"], apart := false, laid := [("math/bits.deBruijn32tab", laid_math_bits_deBruijn32tab), ("math/bits.deBruijn64tab", laid_math_bits_deBruijn64tab), ("internal/strconv.uint64pow10", laid_internal_strconv_uint64pow10)], narrowed := true }
def LinearAppendsUptoSaid : Prop := linearAppendsUptoRow.holds Tryd.pinned (OpenSpec.upto linearAppendsSpec)

/-- 'familychecklaw01.LinearSubstitutes', WHERE WHAT IT READS IS OF BULK AT MOST 1048576: true; the input reads as it did. -/
def linearSubstitutesUptoRow : OpenClaim := { program := "ytbioiodjdfcooaadoor", sum := "58d0160165183b0819f47a5d0e4817af41a4122c1479d2fe2e8aced4036d3dc3", func := "familycheck/familychecklaw01.LinearSubstitutes", spec := "linearSubstitutes", inPlace := ["internal/abi.NoEscape"], named := ["internal/strconv.uint64pow10", "math/bits.deBruijn32tab", "math/bits.deBruijn64tab"], apart := false, laid := [("math/bits.deBruijn32tab", laid_math_bits_deBruijn32tab), ("math/bits.deBruijn64tab", laid_math_bits_deBruijn64tab), ("internal/strconv.uint64pow10", laid_internal_strconv_uint64pow10)], narrowed := true }
def LinearSubstitutesUptoSaid : Prop := linearSubstitutesUptoRow.holds Tryd.pinned (OpenSpec.upto linearSubstitutesSpec)

/-- 'familychecklaw01.LinearSubstituteMeans', WHERE WHAT IT READS IS OF BULK AT MOST 1048576: true; the input reads as it did. -/
def linearSubstituteMeansUptoRow : OpenClaim := { program := "ytbioiodjdfcooaadoor", sum := "58d0160165183b0819f47a5d0e4817af41a4122c1479d2fe2e8aced4036d3dc3", func := "familycheck/familychecklaw01.LinearSubstituteMeans", spec := "linearSubstituteMeans", inPlace := ["internal/abi.NoEscape"], named := ["internal/strconv.uint64pow10", "math/bits.deBruijn32tab", "math/bits.deBruijn64tab"], apart := false, laid := [("math/bits.deBruijn32tab", laid_math_bits_deBruijn32tab), ("math/bits.deBruijn64tab", laid_math_bits_deBruijn64tab), ("internal/strconv.uint64pow10", laid_internal_strconv_uint64pow10)], narrowed := true }
def LinearSubstituteMeansUptoSaid : Prop := linearSubstituteMeansUptoRow.holds Tryd.pinned (OpenSpec.upto linearSubstituteMeansSpec)

/-- 'familychecklaw01.LinearLeast', WHERE WHAT IT READS IS OF BULK AT MOST 1048576: true; the input reads as it did. -/
def linearLeastUptoRow : OpenClaim := { program := "ytbioiodjdfcooaadoor", sum := "58d0160165183b0819f47a5d0e4817af41a4122c1479d2fe2e8aced4036d3dc3", func := "familycheck/familychecklaw01.LinearLeast", spec := "linearLeast", inPlace := ["internal/abi.NoEscape"], named := ["internal/strconv.uint64pow10", "math/bits.deBruijn32tab", "math/bits.deBruijn64tab"], apart := false, laid := [("math/bits.deBruijn32tab", laid_math_bits_deBruijn32tab), ("math/bits.deBruijn64tab", laid_math_bits_deBruijn64tab), ("internal/strconv.uint64pow10", laid_internal_strconv_uint64pow10)], narrowed := true }
def LinearLeastUptoSaid : Prop := linearLeastUptoRow.holds Tryd.pinned (OpenSpec.upto linearLeastSpec)

end Rows
end Go.Proofs.YtbioiodjdfcooaaDoor
