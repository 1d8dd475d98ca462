/-
  NARROWER THAN 'FOR EVERY INPUT', by the rows' own cells (each row's printed sentence says how): ExpandTells: laid · ExpandURI: laid · ExpandOther: laid · ExpandJoins: laid · ExpandLimit: laid · ExpandNothing: laid · ExpandSingle: laid · ProgCompiles: laid · ProgRuns: laid · ProgBack: laid · ProgJoins: laid · ProgLits: laid · ProgSame: laid.
  DERIVED. THE GIVEN ROWS OF THIS SEAT. 13 by the template 'for every input the law returns true; each argument reads behind the call as it read before'; 0 by the template 'total and deterministic' (their statements: YtlocbpaikdgmbaaGreatDoorTotals.lean).
  GIVEN WITH THE SEED: the statements are not yours to turn. If you find one false, say at which input.
  Laid BY PROGRAM, IN A SANDBOX (cutbox-rows.mjs): the forced cells as the released guide's own fill.sh prints them over the translation 6cb571f71f8cf931… (all of the seat's roots in one cut). By AI agents, Wed Nov 11 2026. No macro, syntax, notation, axiom, sorry.
-/
import Derived.Test.YtlocbpaikdgmbaaGreatDoorChecked
import GoSem.Claim
import GoSem.ClaimJoined
import GoSem.ClaimMapViews
import Derived.JoinedTies
import Derived.KernelRfl
namespace Go.Proofs.YtlocbpaikdgmbaaGreatDoor
/- THE CELL 'sum', in the pinned program and in every row, IS THE sha256 OF THE DUMP (.gsa) THAT YtlocbpaikdgmbaaGreatDoorProg.lean LOADS. Nothing in Lean hashes anything: it is a label: what it is worth is what the hold of that sum in a sandbox is worth. -/
noncomputable def Tryz.pinned : Pinned := { name := "ytlocbpaikdgmbaagreatdoor", sum := "6cb571f71f8cf9310d24ca3c2966c26a00b4132fec30c5953434ba79ba312768", checked := Tryz.checked }
namespace Rows
def none {H : Type} : Left H := { results := [], args := [] }

/- WHAT THE LISTED PACKAGE-LEVEL VARIABLES READ AS WHEN THE CALL BEGINS. Each datum BY PROGRAM (the guide's laid-datum.mjs) off the statement by which the dump's own 'gosem.cut.vars' lays the variable. In a bare row this is a premise. The card (YtlocbpaikdgmbaaGreatDoorCards.lean) ties it to the program's text. -/
def laid_math_bits_deBruijn32tab {H : Type} : DataW H := .agg [.lit (.int .u8 0), .lit (.int .u8 1), .lit (.int .u8 28), .lit (.int .u8 2), .lit (.int .u8 29), .lit (.int .u8 14), .lit (.int .u8 24), .lit (.int .u8 3), .lit (.int .u8 30), .lit (.int .u8 22), .lit (.int .u8 20), .lit (.int .u8 15), .lit (.int .u8 25), .lit (.int .u8 17), .lit (.int .u8 4), .lit (.int .u8 8), .lit (.int .u8 31), .lit (.int .u8 27), .lit (.int .u8 13), .lit (.int .u8 23), .lit (.int .u8 21), .lit (.int .u8 19), .lit (.int .u8 16), .lit (.int .u8 7), .lit (.int .u8 26), .lit (.int .u8 12), .lit (.int .u8 18), .lit (.int .u8 6), .lit (.int .u8 11), .lit (.int .u8 5), .lit (.int .u8 10), .lit (.int .u8 9)]
def laid_math_bits_deBruijn64tab {H : Type} : DataW H := .agg [.lit (.int .u8 0), .lit (.int .u8 1), .lit (.int .u8 56), .lit (.int .u8 2), .lit (.int .u8 57), .lit (.int .u8 49), .lit (.int .u8 28), .lit (.int .u8 3), .lit (.int .u8 61), .lit (.int .u8 58), .lit (.int .u8 42), .lit (.int .u8 50), .lit (.int .u8 38), .lit (.int .u8 29), .lit (.int .u8 17), .lit (.int .u8 4), .lit (.int .u8 62), .lit (.int .u8 47), .lit (.int .u8 59), .lit (.int .u8 36), .lit (.int .u8 45), .lit (.int .u8 43), .lit (.int .u8 51), .lit (.int .u8 22), .lit (.int .u8 53), .lit (.int .u8 39), .lit (.int .u8 33), .lit (.int .u8 30), .lit (.int .u8 24), .lit (.int .u8 18), .lit (.int .u8 12), .lit (.int .u8 5), .lit (.int .u8 63), .lit (.int .u8 55), .lit (.int .u8 48), .lit (.int .u8 27), .lit (.int .u8 60), .lit (.int .u8 41), .lit (.int .u8 37), .lit (.int .u8 16), .lit (.int .u8 46), .lit (.int .u8 35), .lit (.int .u8 44), .lit (.int .u8 21), .lit (.int .u8 52), .lit (.int .u8 32), .lit (.int .u8 23), .lit (.int .u8 11), .lit (.int .u8 54), .lit (.int .u8 26), .lit (.int .u8 40), .lit (.int .u8 15), .lit (.int .u8 34), .lit (.int .u8 20), .lit (.int .u8 31), .lit (.int .u8 10), .lit (.int .u8 25), .lit (.int .u8 14), .lit (.int .u8 19), .lit (.int .u8 9), .lit (.int .u8 13), .lit (.int .u8 8), .lit (.int .u8 7), .lit (.int .u8 6)]
def laid_internal_strconv_uint64pow10 {H : Type} : DataW H := .agg [.lit (.int .u64 1), .lit (.int .u64 10), .lit (.int .u64 100), .lit (.int .u64 1000), .lit (.int .u64 10000), .lit (.int .u64 100000), .lit (.int .u64 1000000), .lit (.int .u64 10000000), .lit (.int .u64 100000000), .lit (.int .u64 1000000000), .lit (.int .u64 10000000000), .lit (.int .u64 100000000000), .lit (.int .u64 1000000000000), .lit (.int .u64 10000000000000), .lit (.int .u64 100000000000000), .lit (.int .u64 1000000000000000), .lit (.int .u64 10000000000000000), .lit (.int .u64 100000000000000000), .lit (.int .u64 1000000000000000000), .lit (.int .u64 10000000000000000000)]
def laid_strconv_ErrRange {H : Type} : DataW H := .iface "*errors.errorString" (.ptr (.agg [.lit (.string [118, 97, 108, 117, 101, 32, 111, 117, 116, 32, 111, 102, 32, 114, 97, 110, 103, 101])]))
def laid_strconv_ErrSyntax {H : Type} : DataW H := .iface "*errors.errorString" (.ptr (.agg [.lit (.string [105, 110, 118, 97, 108, 105, 100, 32, 115, 121, 110, 116, 97, 120])]))

/-- 'phalaropelaw12.ExpandTells': WHATEVER THE INPUT: true; the input reads as it did. -/
def expandTellsSpec : ChangeSpec := { name := "expandTells", fn := fun _ => fun
  | [d1, d2, d3] => { results := [.lit (.bool true)], args := [d1, d2, d3] }
  | _ => none }
def expandTellsRow : OpenClaim := { program := "ytlocbpaikdgmbaagreatdoor", sum := "6cb571f71f8cf9310d24ca3c2966c26a00b4132fec30c5953434ba79ba312768", func := "phalarope/phalaropelaw12.ExpandTells", spec := "expandTells", inPlace := ["internal/bytealg.IndexByteString", "internal/abi.NoEscape", "internal/bytealg.MakeNoZero"], unfollowed := true, recurses := true, named := ["strconv.ErrSyntax", "strconv.ErrRange", "internal/strconv.uint64pow10", "math/bits.deBruijn32tab", "math/bits.deBruijn64tab"], apart := false, laid := [("math/bits.deBruijn32tab", laid_math_bits_deBruijn32tab), ("math/bits.deBruijn64tab", laid_math_bits_deBruijn64tab), ("internal/strconv.uint64pow10", laid_internal_strconv_uint64pow10), ("strconv.ErrRange", laid_strconv_ErrRange), ("strconv.ErrSyntax", laid_strconv_ErrSyntax)] }
def ExpandTellsSaid : Prop := expandTellsRow.holds Tryz.pinned (OpenSpec.ofChange expandTellsSpec)

/-- ITS FALSE NEIGHBOUR: 'it returns false'. Refute it at one input. -/
def expandTellsWrong : ChangeSpec := { name := "expandTells", fn := fun _ => fun
  | [d1, d2, d3] => { results := [.lit (.bool false)], args := [d1, d2, d3] }
  | _ => none }
def ExpandTellsWrongFalsely : Prop := expandTellsRow.holds Tryz.pinned (OpenSpec.ofChange expandTellsWrong)

/-- 'phalaropelaw12.ExpandURI': WHATEVER THE INPUT: true; the input reads as it did. -/
def expandURISpec : ChangeSpec := { name := "expandURI", fn := fun _ => fun
  | [d1, d2] => { results := [.lit (.bool true)], args := [d1, d2] }
  | _ => none }
def expandURIRow : OpenClaim := { program := "ytlocbpaikdgmbaagreatdoor", sum := "6cb571f71f8cf9310d24ca3c2966c26a00b4132fec30c5953434ba79ba312768", func := "phalarope/phalaropelaw12.ExpandURI", spec := "expandURI", inPlace := ["internal/bytealg.IndexByteString", "internal/abi.NoEscape", "internal/bytealg.MakeNoZero"], unfollowed := true, recurses := true, named := ["strconv.ErrSyntax", "strconv.ErrRange", "internal/strconv.uint64pow10", "math/bits.deBruijn32tab", "math/bits.deBruijn64tab"], apart := false, laid := [("math/bits.deBruijn32tab", laid_math_bits_deBruijn32tab), ("math/bits.deBruijn64tab", laid_math_bits_deBruijn64tab), ("internal/strconv.uint64pow10", laid_internal_strconv_uint64pow10), ("strconv.ErrRange", laid_strconv_ErrRange), ("strconv.ErrSyntax", laid_strconv_ErrSyntax)] }
def ExpandURISaid : Prop := expandURIRow.holds Tryz.pinned (OpenSpec.ofChange expandURISpec)

/-- ITS FALSE NEIGHBOUR: 'it returns false'. Refute it at one input. -/
def expandURIWrong : ChangeSpec := { name := "expandURI", fn := fun _ => fun
  | [d1, d2] => { results := [.lit (.bool false)], args := [d1, d2] }
  | _ => none }
def ExpandURIWrongFalsely : Prop := expandURIRow.holds Tryz.pinned (OpenSpec.ofChange expandURIWrong)

/-- 'phalaropelaw12.ExpandOther': WHATEVER THE INPUT: true; the input reads as it did. -/
def expandOtherSpec : ChangeSpec := { name := "expandOther", fn := fun _ => fun
  | [d1, d2, d3] => { results := [.lit (.bool true)], args := [d1, d2, d3] }
  | _ => none }
def expandOtherRow : OpenClaim := { program := "ytlocbpaikdgmbaagreatdoor", sum := "6cb571f71f8cf9310d24ca3c2966c26a00b4132fec30c5953434ba79ba312768", func := "phalarope/phalaropelaw12.ExpandOther", spec := "expandOther", inPlace := ["internal/bytealg.IndexByteString", "internal/abi.NoEscape", "internal/bytealg.MakeNoZero"], unfollowed := true, recurses := true, named := ["strconv.ErrSyntax", "strconv.ErrRange", "internal/strconv.uint64pow10", "math/bits.deBruijn32tab", "math/bits.deBruijn64tab"], apart := false, laid := [("math/bits.deBruijn32tab", laid_math_bits_deBruijn32tab), ("math/bits.deBruijn64tab", laid_math_bits_deBruijn64tab), ("internal/strconv.uint64pow10", laid_internal_strconv_uint64pow10), ("strconv.ErrRange", laid_strconv_ErrRange), ("strconv.ErrSyntax", laid_strconv_ErrSyntax)] }
def ExpandOtherSaid : Prop := expandOtherRow.holds Tryz.pinned (OpenSpec.ofChange expandOtherSpec)

/-- ITS FALSE NEIGHBOUR: 'it returns false'. Refute it at one input. -/
def expandOtherWrong : ChangeSpec := { name := "expandOther", fn := fun _ => fun
  | [d1, d2, d3] => { results := [.lit (.bool false)], args := [d1, d2, d3] }
  | _ => none }
def ExpandOtherWrongFalsely : Prop := expandOtherRow.holds Tryz.pinned (OpenSpec.ofChange expandOtherWrong)

/-- 'phalaropelaw12.ExpandJoins': WHATEVER THE INPUT: true; the input reads as it did. -/
def expandJoinsSpec : ChangeSpec := { name := "expandJoins", fn := fun _ => fun
  | [d1, d2, d3] => { results := [.lit (.bool true)], args := [d1, d2, d3] }
  | _ => none }
def expandJoinsRow : OpenClaim := { program := "ytlocbpaikdgmbaagreatdoor", sum := "6cb571f71f8cf9310d24ca3c2966c26a00b4132fec30c5953434ba79ba312768", func := "phalarope/phalaropelaw12.ExpandJoins", spec := "expandJoins", inPlace := ["internal/bytealg.IndexByteString", "internal/abi.NoEscape", "internal/bytealg.MakeNoZero"], unfollowed := true, recurses := true, named := ["strconv.ErrSyntax", "strconv.ErrRange", "internal/strconv.uint64pow10", "math/bits.deBruijn32tab", "math/bits.deBruijn64tab"], apart := false, laid := [("math/bits.deBruijn32tab", laid_math_bits_deBruijn32tab), ("math/bits.deBruijn64tab", laid_math_bits_deBruijn64tab), ("internal/strconv.uint64pow10", laid_internal_strconv_uint64pow10), ("strconv.ErrRange", laid_strconv_ErrRange), ("strconv.ErrSyntax", laid_strconv_ErrSyntax)] }
def ExpandJoinsSaid : Prop := expandJoinsRow.holds Tryz.pinned (OpenSpec.ofChange expandJoinsSpec)

/-- ITS FALSE NEIGHBOUR: 'it returns false'. Refute it at one input. -/
def expandJoinsWrong : ChangeSpec := { name := "expandJoins", fn := fun _ => fun
  | [d1, d2, d3] => { results := [.lit (.bool false)], args := [d1, d2, d3] }
  | _ => none }
def ExpandJoinsWrongFalsely : Prop := expandJoinsRow.holds Tryz.pinned (OpenSpec.ofChange expandJoinsWrong)

/-- 'phalaropelaw12.ExpandLimit': WHATEVER THE INPUT: true; the input reads as it did. -/
def expandLimitSpec : ChangeSpec := { name := "expandLimit", fn := fun _ => fun
  | [d1, d2, d3] => { results := [.lit (.bool true)], args := [d1, d2, d3] }
  | _ => none }
def expandLimitRow : OpenClaim := { program := "ytlocbpaikdgmbaagreatdoor", sum := "6cb571f71f8cf9310d24ca3c2966c26a00b4132fec30c5953434ba79ba312768", func := "phalarope/phalaropelaw12.ExpandLimit", spec := "expandLimit", inPlace := ["internal/bytealg.IndexByteString", "internal/abi.NoEscape", "internal/bytealg.MakeNoZero"], unfollowed := true, recurses := true, named := ["strconv.ErrSyntax", "strconv.ErrRange", "internal/strconv.uint64pow10", "math/bits.deBruijn32tab", "math/bits.deBruijn64tab"], apart := false, laid := [("math/bits.deBruijn32tab", laid_math_bits_deBruijn32tab), ("math/bits.deBruijn64tab", laid_math_bits_deBruijn64tab), ("internal/strconv.uint64pow10", laid_internal_strconv_uint64pow10), ("strconv.ErrRange", laid_strconv_ErrRange), ("strconv.ErrSyntax", laid_strconv_ErrSyntax)] }
def ExpandLimitSaid : Prop := expandLimitRow.holds Tryz.pinned (OpenSpec.ofChange expandLimitSpec)

/-- ITS FALSE NEIGHBOUR: 'it returns false'. Refute it at one input. -/
def expandLimitWrong : ChangeSpec := { name := "expandLimit", fn := fun _ => fun
  | [d1, d2, d3] => { results := [.lit (.bool false)], args := [d1, d2, d3] }
  | _ => none }
def ExpandLimitWrongFalsely : Prop := expandLimitRow.holds Tryz.pinned (OpenSpec.ofChange expandLimitWrong)

/-- 'phalaropelaw12.ExpandNothing': WHATEVER THE INPUT: true; the input reads as it did. -/
def expandNothingSpec : ChangeSpec := { name := "expandNothing", fn := fun _ => fun
  | [d] => { results := [.lit (.bool true)], args := [d] }
  | _ => none }
def expandNothingRow : OpenClaim := { program := "ytlocbpaikdgmbaagreatdoor", sum := "6cb571f71f8cf9310d24ca3c2966c26a00b4132fec30c5953434ba79ba312768", func := "phalarope/phalaropelaw12.ExpandNothing", spec := "expandNothing", inPlace := ["internal/bytealg.IndexByteString", "internal/abi.NoEscape", "internal/bytealg.MakeNoZero"], unfollowed := true, recurses := true, named := ["strconv.ErrSyntax", "strconv.ErrRange", "internal/strconv.uint64pow10", "math/bits.deBruijn32tab", "math/bits.deBruijn64tab"], apart := false, laid := [("math/bits.deBruijn32tab", laid_math_bits_deBruijn32tab), ("math/bits.deBruijn64tab", laid_math_bits_deBruijn64tab), ("internal/strconv.uint64pow10", laid_internal_strconv_uint64pow10), ("strconv.ErrRange", laid_strconv_ErrRange), ("strconv.ErrSyntax", laid_strconv_ErrSyntax)] }
def ExpandNothingSaid : Prop := expandNothingRow.holds Tryz.pinned (OpenSpec.ofChange expandNothingSpec)

/-- ITS FALSE NEIGHBOUR: 'it returns false'. Refute it at one input. -/
def expandNothingWrong : ChangeSpec := { name := "expandNothing", fn := fun _ => fun
  | [d] => { results := [.lit (.bool false)], args := [d] }
  | _ => none }
def ExpandNothingWrongFalsely : Prop := expandNothingRow.holds Tryz.pinned (OpenSpec.ofChange expandNothingWrong)

/-- 'phalaropelaw12.ExpandSingle': WHATEVER THE INPUT: true; the input reads as it did. -/
def expandSingleSpec : ChangeSpec := { name := "expandSingle", fn := fun _ => fun
  | [d1, d2, d3] => { results := [.lit (.bool true)], args := [d1, d2, d3] }
  | _ => none }
def expandSingleRow : OpenClaim := { program := "ytlocbpaikdgmbaagreatdoor", sum := "6cb571f71f8cf9310d24ca3c2966c26a00b4132fec30c5953434ba79ba312768", func := "phalarope/phalaropelaw12.ExpandSingle", spec := "expandSingle", inPlace := ["internal/bytealg.IndexByteString", "internal/abi.NoEscape", "internal/bytealg.MakeNoZero"], unfollowed := true, recurses := true, named := ["strconv.ErrSyntax", "strconv.ErrRange", "internal/strconv.uint64pow10", "math/bits.deBruijn32tab", "math/bits.deBruijn64tab"], apart := false, laid := [("math/bits.deBruijn32tab", laid_math_bits_deBruijn32tab), ("math/bits.deBruijn64tab", laid_math_bits_deBruijn64tab), ("internal/strconv.uint64pow10", laid_internal_strconv_uint64pow10), ("strconv.ErrRange", laid_strconv_ErrRange), ("strconv.ErrSyntax", laid_strconv_ErrSyntax)] }
def ExpandSingleSaid : Prop := expandSingleRow.holds Tryz.pinned (OpenSpec.ofChange expandSingleSpec)

/-- ITS FALSE NEIGHBOUR: 'it returns false'. Refute it at one input. -/
def expandSingleWrong : ChangeSpec := { name := "expandSingle", fn := fun _ => fun
  | [d1, d2, d3] => { results := [.lit (.bool false)], args := [d1, d2, d3] }
  | _ => none }
def ExpandSingleWrongFalsely : Prop := expandSingleRow.holds Tryz.pinned (OpenSpec.ofChange expandSingleWrong)

/-- 'phalaropelaw13.ProgCompiles': WHATEVER THE INPUT: true; the input reads as it did. -/
def progCompilesSpec : ChangeSpec := { name := "progCompiles", fn := fun _ => fun
  | [d] => { results := [.lit (.bool true)], args := [d] }
  | _ => none }
def progCompilesRow : OpenClaim := { program := "ytlocbpaikdgmbaagreatdoor", sum := "6cb571f71f8cf9310d24ca3c2966c26a00b4132fec30c5953434ba79ba312768", func := "phalarope/phalaropelaw13.ProgCompiles", spec := "progCompiles", inPlace := ["internal/bytealg.IndexByteString", "internal/abi.NoEscape"], unfollowed := true, recurses := true, named := ["strconv.ErrSyntax", "strconv.ErrRange", "internal/strconv.uint64pow10", "math/bits.deBruijn32tab", "math/bits.deBruijn64tab"], apart := false, laid := [("math/bits.deBruijn32tab", laid_math_bits_deBruijn32tab), ("math/bits.deBruijn64tab", laid_math_bits_deBruijn64tab), ("internal/strconv.uint64pow10", laid_internal_strconv_uint64pow10), ("strconv.ErrRange", laid_strconv_ErrRange), ("strconv.ErrSyntax", laid_strconv_ErrSyntax)] }
def ProgCompilesSaid : Prop := progCompilesRow.holds Tryz.pinned (OpenSpec.ofChange progCompilesSpec)

/-- ITS FALSE NEIGHBOUR: 'it returns false'. Refute it at one input. -/
def progCompilesWrong : ChangeSpec := { name := "progCompiles", fn := fun _ => fun
  | [d] => { results := [.lit (.bool false)], args := [d] }
  | _ => none }
def ProgCompilesWrongFalsely : Prop := progCompilesRow.holds Tryz.pinned (OpenSpec.ofChange progCompilesWrong)

/-- 'phalaropelaw13.ProgRuns': WHATEVER THE INPUT: true; the input reads as it did. -/
def progRunsSpec : ChangeSpec := { name := "progRuns", fn := fun _ => fun
  | [d1, d2, d3] => { results := [.lit (.bool true)], args := [d1, d2, d3] }
  | _ => none }
def progRunsRow : OpenClaim := { program := "ytlocbpaikdgmbaagreatdoor", sum := "6cb571f71f8cf9310d24ca3c2966c26a00b4132fec30c5953434ba79ba312768", func := "phalarope/phalaropelaw13.ProgRuns", spec := "progRuns", inPlace := ["internal/bytealg.IndexByteString", "internal/abi.NoEscape"], unfollowed := true, recurses := true, named := ["strconv.ErrSyntax", "strconv.ErrRange", "internal/strconv.uint64pow10", "math/bits.deBruijn32tab", "math/bits.deBruijn64tab"], apart := false, laid := [("math/bits.deBruijn32tab", laid_math_bits_deBruijn32tab), ("math/bits.deBruijn64tab", laid_math_bits_deBruijn64tab), ("internal/strconv.uint64pow10", laid_internal_strconv_uint64pow10), ("strconv.ErrRange", laid_strconv_ErrRange), ("strconv.ErrSyntax", laid_strconv_ErrSyntax)] }
def ProgRunsSaid : Prop := progRunsRow.holds Tryz.pinned (OpenSpec.ofChange progRunsSpec)

/-- ITS FALSE NEIGHBOUR: 'it returns false'. Refute it at one input. -/
def progRunsWrong : ChangeSpec := { name := "progRuns", fn := fun _ => fun
  | [d1, d2, d3] => { results := [.lit (.bool false)], args := [d1, d2, d3] }
  | _ => none }
def ProgRunsWrongFalsely : Prop := progRunsRow.holds Tryz.pinned (OpenSpec.ofChange progRunsWrong)

/-- 'phalaropelaw13.ProgBack': WHATEVER THE INPUT: true; the input reads as it did. -/
def progBackSpec : ChangeSpec := { name := "progBack", fn := fun _ => fun
  | [d] => { results := [.lit (.bool true)], args := [d] }
  | _ => none }
def progBackRow : OpenClaim := { program := "ytlocbpaikdgmbaagreatdoor", sum := "6cb571f71f8cf9310d24ca3c2966c26a00b4132fec30c5953434ba79ba312768", func := "phalarope/phalaropelaw13.ProgBack", spec := "progBack", inPlace := ["internal/bytealg.IndexByteString", "internal/abi.NoEscape"], unfollowed := true, recurses := true, named := ["strconv.ErrSyntax", "strconv.ErrRange", "internal/strconv.uint64pow10", "math/bits.deBruijn32tab", "math/bits.deBruijn64tab"], apart := false, laid := [("math/bits.deBruijn32tab", laid_math_bits_deBruijn32tab), ("math/bits.deBruijn64tab", laid_math_bits_deBruijn64tab), ("internal/strconv.uint64pow10", laid_internal_strconv_uint64pow10), ("strconv.ErrRange", laid_strconv_ErrRange), ("strconv.ErrSyntax", laid_strconv_ErrSyntax)] }
def ProgBackSaid : Prop := progBackRow.holds Tryz.pinned (OpenSpec.ofChange progBackSpec)

/-- ITS FALSE NEIGHBOUR: 'it returns false'. Refute it at one input. -/
def progBackWrong : ChangeSpec := { name := "progBack", fn := fun _ => fun
  | [d] => { results := [.lit (.bool false)], args := [d] }
  | _ => none }
def ProgBackWrongFalsely : Prop := progBackRow.holds Tryz.pinned (OpenSpec.ofChange progBackWrong)

/-- 'phalaropelaw13.ProgJoins': WHATEVER THE INPUT: true; the input reads as it did. -/
def progJoinsSpec : ChangeSpec := { name := "progJoins", fn := fun _ => fun
  | [d1, d2, d3] => { results := [.lit (.bool true)], args := [d1, d2, d3] }
  | _ => none }
def progJoinsRow : OpenClaim := { program := "ytlocbpaikdgmbaagreatdoor", sum := "6cb571f71f8cf9310d24ca3c2966c26a00b4132fec30c5953434ba79ba312768", func := "phalarope/phalaropelaw13.ProgJoins", spec := "progJoins", inPlace := ["internal/bytealg.IndexByteString", "internal/abi.NoEscape"], unfollowed := true, recurses := true, named := ["strconv.ErrSyntax", "strconv.ErrRange", "internal/strconv.uint64pow10", "math/bits.deBruijn32tab", "math/bits.deBruijn64tab"], apart := false, laid := [("math/bits.deBruijn32tab", laid_math_bits_deBruijn32tab), ("math/bits.deBruijn64tab", laid_math_bits_deBruijn64tab), ("internal/strconv.uint64pow10", laid_internal_strconv_uint64pow10), ("strconv.ErrRange", laid_strconv_ErrRange), ("strconv.ErrSyntax", laid_strconv_ErrSyntax)] }
def ProgJoinsSaid : Prop := progJoinsRow.holds Tryz.pinned (OpenSpec.ofChange progJoinsSpec)

/-- ITS FALSE NEIGHBOUR: 'it returns false'. Refute it at one input. -/
def progJoinsWrong : ChangeSpec := { name := "progJoins", fn := fun _ => fun
  | [d1, d2, d3] => { results := [.lit (.bool false)], args := [d1, d2, d3] }
  | _ => none }
def ProgJoinsWrongFalsely : Prop := progJoinsRow.holds Tryz.pinned (OpenSpec.ofChange progJoinsWrong)

/-- 'phalaropelaw13.ProgLits': WHATEVER THE INPUT: true; the input reads as it did. -/
def progLitsSpec : ChangeSpec := { name := "progLits", fn := fun _ => fun
  | [d1, d2] => { results := [.lit (.bool true)], args := [d1, d2] }
  | _ => none }
def progLitsRow : OpenClaim := { program := "ytlocbpaikdgmbaagreatdoor", sum := "6cb571f71f8cf9310d24ca3c2966c26a00b4132fec30c5953434ba79ba312768", func := "phalarope/phalaropelaw13.ProgLits", spec := "progLits", inPlace := ["internal/bytealg.IndexByteString", "internal/abi.NoEscape"], unfollowed := true, recurses := true, named := ["strconv.ErrSyntax", "strconv.ErrRange", "internal/strconv.uint64pow10", "math/bits.deBruijn32tab", "math/bits.deBruijn64tab"], apart := false, laid := [("math/bits.deBruijn32tab", laid_math_bits_deBruijn32tab), ("math/bits.deBruijn64tab", laid_math_bits_deBruijn64tab), ("internal/strconv.uint64pow10", laid_internal_strconv_uint64pow10), ("strconv.ErrRange", laid_strconv_ErrRange), ("strconv.ErrSyntax", laid_strconv_ErrSyntax)] }
def ProgLitsSaid : Prop := progLitsRow.holds Tryz.pinned (OpenSpec.ofChange progLitsSpec)

/-- ITS FALSE NEIGHBOUR: 'it returns false'. Refute it at one input. -/
def progLitsWrong : ChangeSpec := { name := "progLits", fn := fun _ => fun
  | [d1, d2] => { results := [.lit (.bool false)], args := [d1, d2] }
  | _ => none }
def ProgLitsWrongFalsely : Prop := progLitsRow.holds Tryz.pinned (OpenSpec.ofChange progLitsWrong)

/-- 'phalaropelaw13.ProgSame': WHATEVER THE INPUT: true; the input reads as it did. -/
def progSameSpec : ChangeSpec := { name := "progSame", fn := fun _ => fun
  | [d1, d2, d3] => { results := [.lit (.bool true)], args := [d1, d2, d3] }
  | _ => none }
def progSameRow : OpenClaim := { program := "ytlocbpaikdgmbaagreatdoor", sum := "6cb571f71f8cf9310d24ca3c2966c26a00b4132fec30c5953434ba79ba312768", func := "phalarope/phalaropelaw13.ProgSame", spec := "progSame", inPlace := ["internal/bytealg.IndexByteString", "internal/abi.NoEscape", "internal/bytealg.MakeNoZero"], unfollowed := true, recurses := true, named := ["strconv.ErrSyntax", "strconv.ErrRange", "internal/strconv.uint64pow10", "math/bits.deBruijn32tab", "math/bits.deBruijn64tab"], apart := false, laid := [("math/bits.deBruijn32tab", laid_math_bits_deBruijn32tab), ("math/bits.deBruijn64tab", laid_math_bits_deBruijn64tab), ("internal/strconv.uint64pow10", laid_internal_strconv_uint64pow10), ("strconv.ErrRange", laid_strconv_ErrRange), ("strconv.ErrSyntax", laid_strconv_ErrSyntax)] }
def ProgSameSaid : Prop := progSameRow.holds Tryz.pinned (OpenSpec.ofChange progSameSpec)

/-- ITS FALSE NEIGHBOUR: 'it returns false'. Refute it at one input. -/
def progSameWrong : ChangeSpec := { name := "progSame", fn := fun _ => fun
  | [d1, d2, d3] => { results := [.lit (.bool false)], args := [d1, d2, d3] }
  | _ => none }
def ProgSameWrongFalsely : Prop := progSameRow.holds Tryz.pinned (OpenSpec.ofChange progSameWrong)

/- THE SECOND FORM. 'bulk': how many values and letters a reading holds, each counted each time it is reached (what is shared counts as often as it is met; a slice's spare places count too). A statement '..UptoSaid' is the law's where the arguments, and the package variables that the reading takes, are together of bulk at most 1048576: NARROWER than '..Said'. Prove '..Said' where nothing that the law and all that it calls make is longer than what came in: it says more and counts as full. Else prove '..UptoSaid'. A law counts once. -/
mutual
def uptoBulk {H : Type} : DataW H → Nat
  | .lit (.string bytes) => bytes.length + 1
  | .lit _ => 1
  | .nil => 1
  | .ptr d => uptoBulk d + 1
  | .slice elems spare => uptoBulkAll elems + uptoBulkAll spare + 1
  | .agg parts => uptoBulkAll parts + 1
  | .iface _ d => uptoBulk d + 1
  | .map entries => uptoBulkEntries entries + 1
  | .held _ => 1
def uptoBulkAll {H : Type} : List (DataW H) → Nat
  | [] => 0
  | d :: r => uptoBulk d + uptoBulkAll r
def uptoBulkEntries {H : Type} : List (Lit × DataW H) → Nat
  | [] => 0
  | x :: r => uptoBulkEntry x + uptoBulkEntries r
def uptoBulkEntry {H : Type} : Lit × DataW H → Nat
  | (.string bytes, d) => bytes.length + uptoBulk d + 1
  | (_, d) => uptoBulk d + 1
 end
def uptoSmall : (H : Type) → List (DataW H) → Bool := fun _ ds => decide (uptoBulkAll ds ≤ 1048576)
def OpenSpec.upto (s : _root_.Go.ChangeSpec) : _root_.Go.OpenSpec := { _root_.Go.OpenSpec.ofChange s with cond := some uptoSmall }

/-- 'phalaropelaw12.ExpandTells', WHERE WHAT IT READS IS OF BULK AT MOST 1048576: true; the input reads as it did. -/
def expandTellsUptoRow : OpenClaim := { program := "ytlocbpaikdgmbaagreatdoor", sum := "6cb571f71f8cf9310d24ca3c2966c26a00b4132fec30c5953434ba79ba312768", func := "phalarope/phalaropelaw12.ExpandTells", spec := "expandTells", inPlace := ["internal/bytealg.IndexByteString", "internal/abi.NoEscape", "internal/bytealg.MakeNoZero"], unfollowed := true, recurses := true, named := ["strconv.ErrSyntax", "strconv.ErrRange", "internal/strconv.uint64pow10", "math/bits.deBruijn32tab", "math/bits.deBruijn64tab"], apart := false, laid := [("math/bits.deBruijn32tab", laid_math_bits_deBruijn32tab), ("math/bits.deBruijn64tab", laid_math_bits_deBruijn64tab), ("internal/strconv.uint64pow10", laid_internal_strconv_uint64pow10), ("strconv.ErrRange", laid_strconv_ErrRange), ("strconv.ErrSyntax", laid_strconv_ErrSyntax)], narrowed := true }
def ExpandTellsUptoSaid : Prop := expandTellsUptoRow.holds Tryz.pinned (OpenSpec.upto expandTellsSpec)

/-- 'phalaropelaw12.ExpandURI', WHERE WHAT IT READS IS OF BULK AT MOST 1048576: true; the input reads as it did. -/
def expandURIUptoRow : OpenClaim := { program := "ytlocbpaikdgmbaagreatdoor", sum := "6cb571f71f8cf9310d24ca3c2966c26a00b4132fec30c5953434ba79ba312768", func := "phalarope/phalaropelaw12.ExpandURI", spec := "expandURI", inPlace := ["internal/bytealg.IndexByteString", "internal/abi.NoEscape", "internal/bytealg.MakeNoZero"], unfollowed := true, recurses := true, named := ["strconv.ErrSyntax", "strconv.ErrRange", "internal/strconv.uint64pow10", "math/bits.deBruijn32tab", "math/bits.deBruijn64tab"], apart := false, laid := [("math/bits.deBruijn32tab", laid_math_bits_deBruijn32tab), ("math/bits.deBruijn64tab", laid_math_bits_deBruijn64tab), ("internal/strconv.uint64pow10", laid_internal_strconv_uint64pow10), ("strconv.ErrRange", laid_strconv_ErrRange), ("strconv.ErrSyntax", laid_strconv_ErrSyntax)], narrowed := true }
def ExpandURIUptoSaid : Prop := expandURIUptoRow.holds Tryz.pinned (OpenSpec.upto expandURISpec)

/-- 'phalaropelaw12.ExpandOther', WHERE WHAT IT READS IS OF BULK AT MOST 1048576: true; the input reads as it did. -/
def expandOtherUptoRow : OpenClaim := { program := "ytlocbpaikdgmbaagreatdoor", sum := "6cb571f71f8cf9310d24ca3c2966c26a00b4132fec30c5953434ba79ba312768", func := "phalarope/phalaropelaw12.ExpandOther", spec := "expandOther", inPlace := ["internal/bytealg.IndexByteString", "internal/abi.NoEscape", "internal/bytealg.MakeNoZero"], unfollowed := true, recurses := true, named := ["strconv.ErrSyntax", "strconv.ErrRange", "internal/strconv.uint64pow10", "math/bits.deBruijn32tab", "math/bits.deBruijn64tab"], apart := false, laid := [("math/bits.deBruijn32tab", laid_math_bits_deBruijn32tab), ("math/bits.deBruijn64tab", laid_math_bits_deBruijn64tab), ("internal/strconv.uint64pow10", laid_internal_strconv_uint64pow10), ("strconv.ErrRange", laid_strconv_ErrRange), ("strconv.ErrSyntax", laid_strconv_ErrSyntax)], narrowed := true }
def ExpandOtherUptoSaid : Prop := expandOtherUptoRow.holds Tryz.pinned (OpenSpec.upto expandOtherSpec)

/-- 'phalaropelaw12.ExpandJoins', WHERE WHAT IT READS IS OF BULK AT MOST 1048576: true; the input reads as it did. -/
def expandJoinsUptoRow : OpenClaim := { program := "ytlocbpaikdgmbaagreatdoor", sum := "6cb571f71f8cf9310d24ca3c2966c26a00b4132fec30c5953434ba79ba312768", func := "phalarope/phalaropelaw12.ExpandJoins", spec := "expandJoins", inPlace := ["internal/bytealg.IndexByteString", "internal/abi.NoEscape", "internal/bytealg.MakeNoZero"], unfollowed := true, recurses := true, named := ["strconv.ErrSyntax", "strconv.ErrRange", "internal/strconv.uint64pow10", "math/bits.deBruijn32tab", "math/bits.deBruijn64tab"], apart := false, laid := [("math/bits.deBruijn32tab", laid_math_bits_deBruijn32tab), ("math/bits.deBruijn64tab", laid_math_bits_deBruijn64tab), ("internal/strconv.uint64pow10", laid_internal_strconv_uint64pow10), ("strconv.ErrRange", laid_strconv_ErrRange), ("strconv.ErrSyntax", laid_strconv_ErrSyntax)], narrowed := true }
def ExpandJoinsUptoSaid : Prop := expandJoinsUptoRow.holds Tryz.pinned (OpenSpec.upto expandJoinsSpec)

/-- 'phalaropelaw12.ExpandLimit', WHERE WHAT IT READS IS OF BULK AT MOST 1048576: true; the input reads as it did. -/
def expandLimitUptoRow : OpenClaim := { program := "ytlocbpaikdgmbaagreatdoor", sum := "6cb571f71f8cf9310d24ca3c2966c26a00b4132fec30c5953434ba79ba312768", func := "phalarope/phalaropelaw12.ExpandLimit", spec := "expandLimit", inPlace := ["internal/bytealg.IndexByteString", "internal/abi.NoEscape", "internal/bytealg.MakeNoZero"], unfollowed := true, recurses := true, named := ["strconv.ErrSyntax", "strconv.ErrRange", "internal/strconv.uint64pow10", "math/bits.deBruijn32tab", "math/bits.deBruijn64tab"], apart := false, laid := [("math/bits.deBruijn32tab", laid_math_bits_deBruijn32tab), ("math/bits.deBruijn64tab", laid_math_bits_deBruijn64tab), ("internal/strconv.uint64pow10", laid_internal_strconv_uint64pow10), ("strconv.ErrRange", laid_strconv_ErrRange), ("strconv.ErrSyntax", laid_strconv_ErrSyntax)], narrowed := true }
def ExpandLimitUptoSaid : Prop := expandLimitUptoRow.holds Tryz.pinned (OpenSpec.upto expandLimitSpec)

/-- 'phalaropelaw12.ExpandNothing', WHERE WHAT IT READS IS OF BULK AT MOST 1048576: true; the input reads as it did. -/
def expandNothingUptoRow : OpenClaim := { program := "ytlocbpaikdgmbaagreatdoor", sum := "6cb571f71f8cf9310d24ca3c2966c26a00b4132fec30c5953434ba79ba312768", func := "phalarope/phalaropelaw12.ExpandNothing", spec := "expandNothing", inPlace := ["internal/bytealg.IndexByteString", "internal/abi.NoEscape", "internal/bytealg.MakeNoZero"], unfollowed := true, recurses := true, named := ["strconv.ErrSyntax", "strconv.ErrRange", "internal/strconv.uint64pow10", "math/bits.deBruijn32tab", "math/bits.deBruijn64tab"], apart := false, laid := [("math/bits.deBruijn32tab", laid_math_bits_deBruijn32tab), ("math/bits.deBruijn64tab", laid_math_bits_deBruijn64tab), ("internal/strconv.uint64pow10", laid_internal_strconv_uint64pow10), ("strconv.ErrRange", laid_strconv_ErrRange), ("strconv.ErrSyntax", laid_strconv_ErrSyntax)], narrowed := true }
def ExpandNothingUptoSaid : Prop := expandNothingUptoRow.holds Tryz.pinned (OpenSpec.upto expandNothingSpec)

/-- 'phalaropelaw12.ExpandSingle', WHERE WHAT IT READS IS OF BULK AT MOST 1048576: true; the input reads as it did. -/
def expandSingleUptoRow : OpenClaim := { program := "ytlocbpaikdgmbaagreatdoor", sum := "6cb571f71f8cf9310d24ca3c2966c26a00b4132fec30c5953434ba79ba312768", func := "phalarope/phalaropelaw12.ExpandSingle", spec := "expandSingle", inPlace := ["internal/bytealg.IndexByteString", "internal/abi.NoEscape", "internal/bytealg.MakeNoZero"], unfollowed := true, recurses := true, named := ["strconv.ErrSyntax", "strconv.ErrRange", "internal/strconv.uint64pow10", "math/bits.deBruijn32tab", "math/bits.deBruijn64tab"], apart := false, laid := [("math/bits.deBruijn32tab", laid_math_bits_deBruijn32tab), ("math/bits.deBruijn64tab", laid_math_bits_deBruijn64tab), ("internal/strconv.uint64pow10", laid_internal_strconv_uint64pow10), ("strconv.ErrRange", laid_strconv_ErrRange), ("strconv.ErrSyntax", laid_strconv_ErrSyntax)], narrowed := true }
def ExpandSingleUptoSaid : Prop := expandSingleUptoRow.holds Tryz.pinned (OpenSpec.upto expandSingleSpec)

/-- 'phalaropelaw13.ProgCompiles', WHERE WHAT IT READS IS OF BULK AT MOST 1048576: true; the input reads as it did. -/
def progCompilesUptoRow : OpenClaim := { program := "ytlocbpaikdgmbaagreatdoor", sum := "6cb571f71f8cf9310d24ca3c2966c26a00b4132fec30c5953434ba79ba312768", func := "phalarope/phalaropelaw13.ProgCompiles", spec := "progCompiles", inPlace := ["internal/bytealg.IndexByteString", "internal/abi.NoEscape"], unfollowed := true, recurses := true, named := ["strconv.ErrSyntax", "strconv.ErrRange", "internal/strconv.uint64pow10", "math/bits.deBruijn32tab", "math/bits.deBruijn64tab"], apart := false, laid := [("math/bits.deBruijn32tab", laid_math_bits_deBruijn32tab), ("math/bits.deBruijn64tab", laid_math_bits_deBruijn64tab), ("internal/strconv.uint64pow10", laid_internal_strconv_uint64pow10), ("strconv.ErrRange", laid_strconv_ErrRange), ("strconv.ErrSyntax", laid_strconv_ErrSyntax)], narrowed := true }
def ProgCompilesUptoSaid : Prop := progCompilesUptoRow.holds Tryz.pinned (OpenSpec.upto progCompilesSpec)

/-- 'phalaropelaw13.ProgRuns', WHERE WHAT IT READS IS OF BULK AT MOST 1048576: true; the input reads as it did. -/
def progRunsUptoRow : OpenClaim := { program := "ytlocbpaikdgmbaagreatdoor", sum := "6cb571f71f8cf9310d24ca3c2966c26a00b4132fec30c5953434ba79ba312768", func := "phalarope/phalaropelaw13.ProgRuns", spec := "progRuns", inPlace := ["internal/bytealg.IndexByteString", "internal/abi.NoEscape"], unfollowed := true, recurses := true, named := ["strconv.ErrSyntax", "strconv.ErrRange", "internal/strconv.uint64pow10", "math/bits.deBruijn32tab", "math/bits.deBruijn64tab"], apart := false, laid := [("math/bits.deBruijn32tab", laid_math_bits_deBruijn32tab), ("math/bits.deBruijn64tab", laid_math_bits_deBruijn64tab), ("internal/strconv.uint64pow10", laid_internal_strconv_uint64pow10), ("strconv.ErrRange", laid_strconv_ErrRange), ("strconv.ErrSyntax", laid_strconv_ErrSyntax)], narrowed := true }
def ProgRunsUptoSaid : Prop := progRunsUptoRow.holds Tryz.pinned (OpenSpec.upto progRunsSpec)

/-- 'phalaropelaw13.ProgBack', WHERE WHAT IT READS IS OF BULK AT MOST 1048576: true; the input reads as it did. -/
def progBackUptoRow : OpenClaim := { program := "ytlocbpaikdgmbaagreatdoor", sum := "6cb571f71f8cf9310d24ca3c2966c26a00b4132fec30c5953434ba79ba312768", func := "phalarope/phalaropelaw13.ProgBack", spec := "progBack", inPlace := ["internal/bytealg.IndexByteString", "internal/abi.NoEscape"], unfollowed := true, recurses := true, named := ["strconv.ErrSyntax", "strconv.ErrRange", "internal/strconv.uint64pow10", "math/bits.deBruijn32tab", "math/bits.deBruijn64tab"], apart := false, laid := [("math/bits.deBruijn32tab", laid_math_bits_deBruijn32tab), ("math/bits.deBruijn64tab", laid_math_bits_deBruijn64tab), ("internal/strconv.uint64pow10", laid_internal_strconv_uint64pow10), ("strconv.ErrRange", laid_strconv_ErrRange), ("strconv.ErrSyntax", laid_strconv_ErrSyntax)], narrowed := true }
def ProgBackUptoSaid : Prop := progBackUptoRow.holds Tryz.pinned (OpenSpec.upto progBackSpec)

/-- 'phalaropelaw13.ProgJoins', WHERE WHAT IT READS IS OF BULK AT MOST 1048576: true; the input reads as it did. -/
def progJoinsUptoRow : OpenClaim := { program := "ytlocbpaikdgmbaagreatdoor", sum := "6cb571f71f8cf9310d24ca3c2966c26a00b4132fec30c5953434ba79ba312768", func := "phalarope/phalaropelaw13.ProgJoins", spec := "progJoins", inPlace := ["internal/bytealg.IndexByteString", "internal/abi.NoEscape"], unfollowed := true, recurses := true, named := ["strconv.ErrSyntax", "strconv.ErrRange", "internal/strconv.uint64pow10", "math/bits.deBruijn32tab", "math/bits.deBruijn64tab"], apart := false, laid := [("math/bits.deBruijn32tab", laid_math_bits_deBruijn32tab), ("math/bits.deBruijn64tab", laid_math_bits_deBruijn64tab), ("internal/strconv.uint64pow10", laid_internal_strconv_uint64pow10), ("strconv.ErrRange", laid_strconv_ErrRange), ("strconv.ErrSyntax", laid_strconv_ErrSyntax)], narrowed := true }
def ProgJoinsUptoSaid : Prop := progJoinsUptoRow.holds Tryz.pinned (OpenSpec.upto progJoinsSpec)

/-- 'phalaropelaw13.ProgLits', WHERE WHAT IT READS IS OF BULK AT MOST 1048576: true; the input reads as it did. -/
def progLitsUptoRow : OpenClaim := { program := "ytlocbpaikdgmbaagreatdoor", sum := "6cb571f71f8cf9310d24ca3c2966c26a00b4132fec30c5953434ba79ba312768", func := "phalarope/phalaropelaw13.ProgLits", spec := "progLits", inPlace := ["internal/bytealg.IndexByteString", "internal/abi.NoEscape"], unfollowed := true, recurses := true, named := ["strconv.ErrSyntax", "strconv.ErrRange", "internal/strconv.uint64pow10", "math/bits.deBruijn32tab", "math/bits.deBruijn64tab"], apart := false, laid := [("math/bits.deBruijn32tab", laid_math_bits_deBruijn32tab), ("math/bits.deBruijn64tab", laid_math_bits_deBruijn64tab), ("internal/strconv.uint64pow10", laid_internal_strconv_uint64pow10), ("strconv.ErrRange", laid_strconv_ErrRange), ("strconv.ErrSyntax", laid_strconv_ErrSyntax)], narrowed := true }
def ProgLitsUptoSaid : Prop := progLitsUptoRow.holds Tryz.pinned (OpenSpec.upto progLitsSpec)

/-- 'phalaropelaw13.ProgSame', WHERE WHAT IT READS IS OF BULK AT MOST 1048576: true; the input reads as it did. -/
def progSameUptoRow : OpenClaim := { program := "ytlocbpaikdgmbaagreatdoor", sum := "6cb571f71f8cf9310d24ca3c2966c26a00b4132fec30c5953434ba79ba312768", func := "phalarope/phalaropelaw13.ProgSame", spec := "progSame", inPlace := ["internal/bytealg.IndexByteString", "internal/abi.NoEscape", "internal/bytealg.MakeNoZero"], unfollowed := true, recurses := true, named := ["strconv.ErrSyntax", "strconv.ErrRange", "internal/strconv.uint64pow10", "math/bits.deBruijn32tab", "math/bits.deBruijn64tab"], apart := false, laid := [("math/bits.deBruijn32tab", laid_math_bits_deBruijn32tab), ("math/bits.deBruijn64tab", laid_math_bits_deBruijn64tab), ("internal/strconv.uint64pow10", laid_internal_strconv_uint64pow10), ("strconv.ErrRange", laid_strconv_ErrRange), ("strconv.ErrSyntax", laid_strconv_ErrSyntax)], narrowed := true }
def ProgSameUptoSaid : Prop := progSameUptoRow.holds Tryz.pinned (OpenSpec.upto progSameSpec)

end Rows
end Go.Proofs.YtlocbpaikdgmbaaGreatDoor
