/-
  NARROWER THAN 'FOR EVERY INPUT', by the rows' own cells (each row's printed sentence says how): DbTables: laid · DbEnds: laid · DbRanges: laid · DbFull: laid · DbWorks: laid · DbHostile: laid · DbAgain: laid · DbPins: laid · DbSettles: laid · DbCopies: laid · DbCrashes: laid · DbNil: laid.
  DERIVED. THE GIVEN ROWS OF THIS SEAT. 12 by the template 'for every input the law returns true; each argument reads behind the call as it read before'; 0 by the template 'total and deterministic' (their statements: YtagljlpbfeeicaaGreatDoorTotals.lean).
  GIVEN WITH THE SEED: the statements are not yours to turn. If you find one false, say at which input.
  Laid BY PROGRAM, IN A SANDBOX (cutbox-rows.mjs): the forced cells as the released guide's own fill.sh prints them over the translation 56d7000e96066046… (all of the seat's roots in one cut). By AI agents, Wed Nov 11 2026. No macro, syntax, notation, axiom, sorry.
-/
import Derived.Test.YtagljlpbfeeicaaGreatDoorChecked
import GoSem.Claim
import GoSem.ClaimJoined
import GoSem.ClaimMapViews
import Derived.JoinedTies
import Derived.KernelRfl
namespace Go.Proofs.YtagljlpbfeeicaaGreatDoor
/- THE CELL 'sum', in the pinned program and in every row, IS THE sha256 OF THE DUMP (.gsa) THAT YtagljlpbfeeicaaGreatDoorProg.lean LOADS. Nothing in Lean hashes anything: it is a label: what it is worth is what the hold of that sum in a sandbox is worth. -/
noncomputable def Tryz.pinned : Pinned := { name := "ytagljlpbfeeicaagreatdoor", sum := "56d7000e96066046ecef9a894cebb208f34cce8daa108c2ac483a055477b52d0", checked := Tryz.checked }
namespace Rows
def none {H : Type} : Left H := { results := [], args := [] }

/- WHAT THE LISTED PACKAGE-LEVEL VARIABLES READ AS WHEN THE CALL BEGINS. Each datum BY PROGRAM (the guide's laid-datum.mjs) off the statement by which the dump's own 'gosem.cut.vars' lays the variable. In a bare row this is a premise. The card (YtagljlpbfeeicaaGreatDoorCards.lean) ties it to the program's text. -/
def laid_math_bits_deBruijn32tab {H : Type} : DataW H := .agg [.lit (.int .u8 0), .lit (.int .u8 1), .lit (.int .u8 28), .lit (.int .u8 2), .lit (.int .u8 29), .lit (.int .u8 14), .lit (.int .u8 24), .lit (.int .u8 3), .lit (.int .u8 30), .lit (.int .u8 22), .lit (.int .u8 20), .lit (.int .u8 15), .lit (.int .u8 25), .lit (.int .u8 17), .lit (.int .u8 4), .lit (.int .u8 8), .lit (.int .u8 31), .lit (.int .u8 27), .lit (.int .u8 13), .lit (.int .u8 23), .lit (.int .u8 21), .lit (.int .u8 19), .lit (.int .u8 16), .lit (.int .u8 7), .lit (.int .u8 26), .lit (.int .u8 12), .lit (.int .u8 18), .lit (.int .u8 6), .lit (.int .u8 11), .lit (.int .u8 5), .lit (.int .u8 10), .lit (.int .u8 9)]
def laid_math_bits_deBruijn64tab {H : Type} : DataW H := .agg [.lit (.int .u8 0), .lit (.int .u8 1), .lit (.int .u8 56), .lit (.int .u8 2), .lit (.int .u8 57), .lit (.int .u8 49), .lit (.int .u8 28), .lit (.int .u8 3), .lit (.int .u8 61), .lit (.int .u8 58), .lit (.int .u8 42), .lit (.int .u8 50), .lit (.int .u8 38), .lit (.int .u8 29), .lit (.int .u8 17), .lit (.int .u8 4), .lit (.int .u8 62), .lit (.int .u8 47), .lit (.int .u8 59), .lit (.int .u8 36), .lit (.int .u8 45), .lit (.int .u8 43), .lit (.int .u8 51), .lit (.int .u8 22), .lit (.int .u8 53), .lit (.int .u8 39), .lit (.int .u8 33), .lit (.int .u8 30), .lit (.int .u8 24), .lit (.int .u8 18), .lit (.int .u8 12), .lit (.int .u8 5), .lit (.int .u8 63), .lit (.int .u8 55), .lit (.int .u8 48), .lit (.int .u8 27), .lit (.int .u8 60), .lit (.int .u8 41), .lit (.int .u8 37), .lit (.int .u8 16), .lit (.int .u8 46), .lit (.int .u8 35), .lit (.int .u8 44), .lit (.int .u8 21), .lit (.int .u8 52), .lit (.int .u8 32), .lit (.int .u8 23), .lit (.int .u8 11), .lit (.int .u8 54), .lit (.int .u8 26), .lit (.int .u8 40), .lit (.int .u8 15), .lit (.int .u8 34), .lit (.int .u8 20), .lit (.int .u8 31), .lit (.int .u8 10), .lit (.int .u8 25), .lit (.int .u8 14), .lit (.int .u8 19), .lit (.int .u8 9), .lit (.int .u8 13), .lit (.int .u8 8), .lit (.int .u8 7), .lit (.int .u8 6)]
def laid_internal_strconv_uint64pow10 {H : Type} : DataW H := .agg [.lit (.int .u64 1), .lit (.int .u64 10), .lit (.int .u64 100), .lit (.int .u64 1000), .lit (.int .u64 10000), .lit (.int .u64 100000), .lit (.int .u64 1000000), .lit (.int .u64 10000000), .lit (.int .u64 100000000), .lit (.int .u64 1000000000), .lit (.int .u64 10000000000), .lit (.int .u64 100000000000), .lit (.int .u64 1000000000000), .lit (.int .u64 10000000000000), .lit (.int .u64 100000000000000), .lit (.int .u64 1000000000000000), .lit (.int .u64 10000000000000000), .lit (.int .u64 100000000000000000), .lit (.int .u64 1000000000000000000), .lit (.int .u64 10000000000000000000)]
def laid_strconv_ErrRange {H : Type} : DataW H := .iface "*errors.errorString" (.ptr (.agg [.lit (.string [118, 97, 108, 117, 101, 32, 111, 117, 116, 32, 111, 102, 32, 114, 97, 110, 103, 101])]))
def laid_strconv_ErrSyntax {H : Type} : DataW H := .iface "*errors.errorString" (.ptr (.agg [.lit (.string [105, 110, 118, 97, 108, 105, 100, 32, 115, 121, 110, 116, 97, 120])]))

/-- 'halyardlaw19.DbTables': WHATEVER THE INPUT: true; the input reads as it did. -/
def dbTablesSpec : ChangeSpec := { name := "dbTables", fn := fun _ => fun
  | [d] => { results := [.lit (.bool true)], args := [d] }
  | _ => none }
def dbTablesRow : OpenClaim := { program := "ytagljlpbfeeicaagreatdoor", sum := "56d7000e96066046ecef9a894cebb208f34cce8daa108c2ac483a055477b52d0", func := "halyard/halyardlaw19.DbTables", spec := "dbTables", inPlace := ["internal/bytealg.IndexByteString", "maps.clone", "internal/bytealg.Compare", "internal/reflectlite.ValueOf", "internal/reflectlite.Swapper", "(internal/reflectlite.Value).Len"], unfollowed := true, recurses := true, named := ["strconv.ErrSyntax", "strconv.ErrRange", "internal/strconv.uint64pow10", "math/bits.deBruijn32tab", "math/bits.deBruijn64tab"], apart := false, laid := [("math/bits.deBruijn32tab", laid_math_bits_deBruijn32tab), ("math/bits.deBruijn64tab", laid_math_bits_deBruijn64tab), ("internal/strconv.uint64pow10", laid_internal_strconv_uint64pow10), ("strconv.ErrRange", laid_strconv_ErrRange), ("strconv.ErrSyntax", laid_strconv_ErrSyntax)] }
def DbTablesSaid : Prop := dbTablesRow.holds Tryz.pinned (OpenSpec.ofChange dbTablesSpec)

/-- ITS FALSE NEIGHBOUR: 'it returns false'. Refute it at one input. -/
def dbTablesWrong : ChangeSpec := { name := "dbTables", fn := fun _ => fun
  | [d] => { results := [.lit (.bool false)], args := [d] }
  | _ => none }
def DbTablesWrongFalsely : Prop := dbTablesRow.holds Tryz.pinned (OpenSpec.ofChange dbTablesWrong)

/-- 'halyardlaw19.DbEnds': WHATEVER THE INPUT: true; the input reads as it did. -/
def dbEndsSpec : ChangeSpec := { name := "dbEnds", fn := fun _ => fun
  | [d1, d2, d3] => { results := [.lit (.bool true)], args := [d1, d2, d3] }
  | _ => none }
def dbEndsRow : OpenClaim := { program := "ytagljlpbfeeicaagreatdoor", sum := "56d7000e96066046ecef9a894cebb208f34cce8daa108c2ac483a055477b52d0", func := "halyard/halyardlaw19.DbEnds", spec := "dbEnds", inPlace := ["internal/bytealg.IndexByteString", "maps.clone", "internal/bytealg.Compare", "internal/reflectlite.ValueOf", "internal/reflectlite.Swapper", "(internal/reflectlite.Value).Len"], unfollowed := true, recurses := true, named := ["strconv.ErrSyntax", "strconv.ErrRange", "internal/strconv.uint64pow10", "math/bits.deBruijn32tab", "math/bits.deBruijn64tab"], apart := false, laid := [("math/bits.deBruijn32tab", laid_math_bits_deBruijn32tab), ("math/bits.deBruijn64tab", laid_math_bits_deBruijn64tab), ("internal/strconv.uint64pow10", laid_internal_strconv_uint64pow10), ("strconv.ErrRange", laid_strconv_ErrRange), ("strconv.ErrSyntax", laid_strconv_ErrSyntax)] }
def DbEndsSaid : Prop := dbEndsRow.holds Tryz.pinned (OpenSpec.ofChange dbEndsSpec)

/-- ITS FALSE NEIGHBOUR: 'it returns false'. Refute it at one input. -/
def dbEndsWrong : ChangeSpec := { name := "dbEnds", fn := fun _ => fun
  | [d1, d2, d3] => { results := [.lit (.bool false)], args := [d1, d2, d3] }
  | _ => none }
def DbEndsWrongFalsely : Prop := dbEndsRow.holds Tryz.pinned (OpenSpec.ofChange dbEndsWrong)

/-- 'halyardlaw19.DbRanges': WHATEVER THE INPUT: true; the input reads as it did. -/
def dbRangesSpec : ChangeSpec := { name := "dbRanges", fn := fun _ => fun
  | [d1, d2] => { results := [.lit (.bool true)], args := [d1, d2] }
  | _ => none }
def dbRangesRow : OpenClaim := { program := "ytagljlpbfeeicaagreatdoor", sum := "56d7000e96066046ecef9a894cebb208f34cce8daa108c2ac483a055477b52d0", func := "halyard/halyardlaw19.DbRanges", spec := "dbRanges", inPlace := ["internal/bytealg.IndexByteString", "maps.clone", "internal/bytealg.Compare", "internal/reflectlite.ValueOf", "internal/reflectlite.Swapper", "(internal/reflectlite.Value).Len"], unfollowed := true, recurses := true, named := ["strconv.ErrSyntax", "strconv.ErrRange", "internal/strconv.uint64pow10", "math/bits.deBruijn32tab", "math/bits.deBruijn64tab"], apart := false, laid := [("math/bits.deBruijn32tab", laid_math_bits_deBruijn32tab), ("math/bits.deBruijn64tab", laid_math_bits_deBruijn64tab), ("internal/strconv.uint64pow10", laid_internal_strconv_uint64pow10), ("strconv.ErrRange", laid_strconv_ErrRange), ("strconv.ErrSyntax", laid_strconv_ErrSyntax)] }
def DbRangesSaid : Prop := dbRangesRow.holds Tryz.pinned (OpenSpec.ofChange dbRangesSpec)

/-- ITS FALSE NEIGHBOUR: 'it returns false'. Refute it at one input. -/
def dbRangesWrong : ChangeSpec := { name := "dbRanges", fn := fun _ => fun
  | [d1, d2] => { results := [.lit (.bool false)], args := [d1, d2] }
  | _ => none }
def DbRangesWrongFalsely : Prop := dbRangesRow.holds Tryz.pinned (OpenSpec.ofChange dbRangesWrong)

/-- 'halyardlaw19.DbFull': WHATEVER THE INPUT: true; the input reads as it did. -/
def dbFullSpec : ChangeSpec := { name := "dbFull", fn := fun _ => fun
  | [d1, d2] => { results := [.lit (.bool true)], args := [d1, d2] }
  | _ => none }
def dbFullRow : OpenClaim := { program := "ytagljlpbfeeicaagreatdoor", sum := "56d7000e96066046ecef9a894cebb208f34cce8daa108c2ac483a055477b52d0", func := "halyard/halyardlaw19.DbFull", spec := "dbFull", inPlace := ["internal/bytealg.IndexByteString", "maps.clone", "internal/bytealg.Compare", "internal/reflectlite.ValueOf", "internal/reflectlite.Swapper", "(internal/reflectlite.Value).Len"], unfollowed := true, recurses := true, named := ["strconv.ErrSyntax", "strconv.ErrRange", "internal/strconv.uint64pow10", "math/bits.deBruijn32tab", "math/bits.deBruijn64tab"], apart := false, laid := [("math/bits.deBruijn32tab", laid_math_bits_deBruijn32tab), ("math/bits.deBruijn64tab", laid_math_bits_deBruijn64tab), ("internal/strconv.uint64pow10", laid_internal_strconv_uint64pow10), ("strconv.ErrRange", laid_strconv_ErrRange), ("strconv.ErrSyntax", laid_strconv_ErrSyntax)] }
def DbFullSaid : Prop := dbFullRow.holds Tryz.pinned (OpenSpec.ofChange dbFullSpec)

/-- ITS FALSE NEIGHBOUR: 'it returns false'. Refute it at one input. -/
def dbFullWrong : ChangeSpec := { name := "dbFull", fn := fun _ => fun
  | [d1, d2] => { results := [.lit (.bool false)], args := [d1, d2] }
  | _ => none }
def DbFullWrongFalsely : Prop := dbFullRow.holds Tryz.pinned (OpenSpec.ofChange dbFullWrong)

/-- 'halyardlaw19.DbWorks': WHATEVER THE INPUT: true; the input reads as it did. -/
def dbWorksSpec : ChangeSpec := { name := "dbWorks", fn := fun _ => fun
  | [d1, d2, d3] => { results := [.lit (.bool true)], args := [d1, d2, d3] }
  | _ => none }
def dbWorksRow : OpenClaim := { program := "ytagljlpbfeeicaagreatdoor", sum := "56d7000e96066046ecef9a894cebb208f34cce8daa108c2ac483a055477b52d0", func := "halyard/halyardlaw19.DbWorks", spec := "dbWorks", inPlace := ["internal/bytealg.IndexByteString", "maps.clone", "internal/bytealg.Compare", "internal/reflectlite.ValueOf", "internal/reflectlite.Swapper", "(internal/reflectlite.Value).Len"], unfollowed := true, recurses := true, named := ["strconv.ErrSyntax", "strconv.ErrRange", "internal/strconv.uint64pow10", "math/bits.deBruijn32tab", "math/bits.deBruijn64tab"], apart := false, laid := [("math/bits.deBruijn32tab", laid_math_bits_deBruijn32tab), ("math/bits.deBruijn64tab", laid_math_bits_deBruijn64tab), ("internal/strconv.uint64pow10", laid_internal_strconv_uint64pow10), ("strconv.ErrRange", laid_strconv_ErrRange), ("strconv.ErrSyntax", laid_strconv_ErrSyntax)] }
def DbWorksSaid : Prop := dbWorksRow.holds Tryz.pinned (OpenSpec.ofChange dbWorksSpec)

/-- ITS FALSE NEIGHBOUR: 'it returns false'. Refute it at one input. -/
def dbWorksWrong : ChangeSpec := { name := "dbWorks", fn := fun _ => fun
  | [d1, d2, d3] => { results := [.lit (.bool false)], args := [d1, d2, d3] }
  | _ => none }
def DbWorksWrongFalsely : Prop := dbWorksRow.holds Tryz.pinned (OpenSpec.ofChange dbWorksWrong)

/-- 'halyardlaw19.DbHostile': WHATEVER THE INPUT: true; the input reads as it did. -/
def dbHostileSpec : ChangeSpec := { name := "dbHostile", fn := fun _ => fun
  | [d1, d2, d3, d4, d5] => { results := [.lit (.bool true)], args := [d1, d2, d3, d4, d5] }
  | _ => none }
def dbHostileRow : OpenClaim := { program := "ytagljlpbfeeicaagreatdoor", sum := "56d7000e96066046ecef9a894cebb208f34cce8daa108c2ac483a055477b52d0", func := "halyard/halyardlaw19.DbHostile", spec := "dbHostile", inPlace := ["internal/bytealg.IndexByteString", "maps.clone", "internal/bytealg.Compare", "internal/reflectlite.ValueOf", "internal/reflectlite.Swapper", "(internal/reflectlite.Value).Len"], unfollowed := true, recurses := true, named := ["strconv.ErrSyntax", "strconv.ErrRange", "internal/strconv.uint64pow10", "math/bits.deBruijn32tab", "math/bits.deBruijn64tab"], apart := false, laid := [("math/bits.deBruijn32tab", laid_math_bits_deBruijn32tab), ("math/bits.deBruijn64tab", laid_math_bits_deBruijn64tab), ("internal/strconv.uint64pow10", laid_internal_strconv_uint64pow10), ("strconv.ErrRange", laid_strconv_ErrRange), ("strconv.ErrSyntax", laid_strconv_ErrSyntax)] }
def DbHostileSaid : Prop := dbHostileRow.holds Tryz.pinned (OpenSpec.ofChange dbHostileSpec)

/-- ITS FALSE NEIGHBOUR: 'it returns false'. Refute it at one input. -/
def dbHostileWrong : ChangeSpec := { name := "dbHostile", fn := fun _ => fun
  | [d1, d2, d3, d4, d5] => { results := [.lit (.bool false)], args := [d1, d2, d3, d4, d5] }
  | _ => none }
def DbHostileWrongFalsely : Prop := dbHostileRow.holds Tryz.pinned (OpenSpec.ofChange dbHostileWrong)

/-- 'halyardlaw19.DbAgain': WHATEVER THE INPUT: true; the input reads as it did. -/
def dbAgainSpec : ChangeSpec := { name := "dbAgain", fn := fun _ => fun
  | [d1, d2] => { results := [.lit (.bool true)], args := [d1, d2] }
  | _ => none }
def dbAgainRow : OpenClaim := { program := "ytagljlpbfeeicaagreatdoor", sum := "56d7000e96066046ecef9a894cebb208f34cce8daa108c2ac483a055477b52d0", func := "halyard/halyardlaw19.DbAgain", spec := "dbAgain", inPlace := ["internal/bytealg.IndexByteString", "maps.clone", "internal/bytealg.Compare", "internal/reflectlite.ValueOf", "internal/reflectlite.Swapper", "(internal/reflectlite.Value).Len"], unfollowed := true, recurses := true, named := ["strconv.ErrSyntax", "strconv.ErrRange", "internal/strconv.uint64pow10", "math/bits.deBruijn32tab", "math/bits.deBruijn64tab"], apart := false, laid := [("math/bits.deBruijn32tab", laid_math_bits_deBruijn32tab), ("math/bits.deBruijn64tab", laid_math_bits_deBruijn64tab), ("internal/strconv.uint64pow10", laid_internal_strconv_uint64pow10), ("strconv.ErrRange", laid_strconv_ErrRange), ("strconv.ErrSyntax", laid_strconv_ErrSyntax)] }
def DbAgainSaid : Prop := dbAgainRow.holds Tryz.pinned (OpenSpec.ofChange dbAgainSpec)

/-- ITS FALSE NEIGHBOUR: 'it returns false'. Refute it at one input. -/
def dbAgainWrong : ChangeSpec := { name := "dbAgain", fn := fun _ => fun
  | [d1, d2] => { results := [.lit (.bool false)], args := [d1, d2] }
  | _ => none }
def DbAgainWrongFalsely : Prop := dbAgainRow.holds Tryz.pinned (OpenSpec.ofChange dbAgainWrong)

/-- 'halyardlaw19.DbPins': WHATEVER THE INPUT: true; the input reads as it did. -/
def dbPinsSpec : ChangeSpec := { name := "dbPins", fn := fun _ => fun
  | [d1, d2] => { results := [.lit (.bool true)], args := [d1, d2] }
  | _ => none }
def dbPinsRow : OpenClaim := { program := "ytagljlpbfeeicaagreatdoor", sum := "56d7000e96066046ecef9a894cebb208f34cce8daa108c2ac483a055477b52d0", func := "halyard/halyardlaw19.DbPins", spec := "dbPins", inPlace := ["internal/bytealg.IndexByteString", "maps.clone", "internal/bytealg.Compare", "internal/reflectlite.ValueOf", "internal/reflectlite.Swapper", "(internal/reflectlite.Value).Len"], unfollowed := true, recurses := true, named := ["strconv.ErrSyntax", "strconv.ErrRange", "internal/strconv.uint64pow10", "math/bits.deBruijn32tab", "math/bits.deBruijn64tab"], apart := false, laid := [("math/bits.deBruijn32tab", laid_math_bits_deBruijn32tab), ("math/bits.deBruijn64tab", laid_math_bits_deBruijn64tab), ("internal/strconv.uint64pow10", laid_internal_strconv_uint64pow10), ("strconv.ErrRange", laid_strconv_ErrRange), ("strconv.ErrSyntax", laid_strconv_ErrSyntax)] }
def DbPinsSaid : Prop := dbPinsRow.holds Tryz.pinned (OpenSpec.ofChange dbPinsSpec)

/-- ITS FALSE NEIGHBOUR: 'it returns false'. Refute it at one input. -/
def dbPinsWrong : ChangeSpec := { name := "dbPins", fn := fun _ => fun
  | [d1, d2] => { results := [.lit (.bool false)], args := [d1, d2] }
  | _ => none }
def DbPinsWrongFalsely : Prop := dbPinsRow.holds Tryz.pinned (OpenSpec.ofChange dbPinsWrong)

/-- 'halyardlaw19.DbSettles': WHATEVER THE INPUT: true; the input reads as it did. -/
def dbSettlesSpec : ChangeSpec := { name := "dbSettles", fn := fun _ => fun
  | [d1, d2] => { results := [.lit (.bool true)], args := [d1, d2] }
  | _ => none }
def dbSettlesRow : OpenClaim := { program := "ytagljlpbfeeicaagreatdoor", sum := "56d7000e96066046ecef9a894cebb208f34cce8daa108c2ac483a055477b52d0", func := "halyard/halyardlaw19.DbSettles", spec := "dbSettles", inPlace := ["internal/bytealg.IndexByteString", "maps.clone", "internal/bytealg.Compare", "internal/reflectlite.ValueOf", "internal/reflectlite.Swapper", "(internal/reflectlite.Value).Len"], unfollowed := true, recurses := true, named := ["strconv.ErrSyntax", "strconv.ErrRange", "internal/strconv.uint64pow10", "math/bits.deBruijn32tab", "math/bits.deBruijn64tab"], apart := false, laid := [("math/bits.deBruijn32tab", laid_math_bits_deBruijn32tab), ("math/bits.deBruijn64tab", laid_math_bits_deBruijn64tab), ("internal/strconv.uint64pow10", laid_internal_strconv_uint64pow10), ("strconv.ErrRange", laid_strconv_ErrRange), ("strconv.ErrSyntax", laid_strconv_ErrSyntax)] }
def DbSettlesSaid : Prop := dbSettlesRow.holds Tryz.pinned (OpenSpec.ofChange dbSettlesSpec)

/-- ITS FALSE NEIGHBOUR: 'it returns false'. Refute it at one input. -/
def dbSettlesWrong : ChangeSpec := { name := "dbSettles", fn := fun _ => fun
  | [d1, d2] => { results := [.lit (.bool false)], args := [d1, d2] }
  | _ => none }
def DbSettlesWrongFalsely : Prop := dbSettlesRow.holds Tryz.pinned (OpenSpec.ofChange dbSettlesWrong)

/-- 'halyardlaw19.DbCopies': WHATEVER THE INPUT: true; the input reads as it did. -/
def dbCopiesSpec : ChangeSpec := { name := "dbCopies", fn := fun _ => fun
  | [d1, d2, d3] => { results := [.lit (.bool true)], args := [d1, d2, d3] }
  | _ => none }
def dbCopiesRow : OpenClaim := { program := "ytagljlpbfeeicaagreatdoor", sum := "56d7000e96066046ecef9a894cebb208f34cce8daa108c2ac483a055477b52d0", func := "halyard/halyardlaw19.DbCopies", spec := "dbCopies", inPlace := ["internal/bytealg.IndexByteString", "maps.clone", "internal/bytealg.Compare", "internal/reflectlite.ValueOf", "internal/reflectlite.Swapper", "(internal/reflectlite.Value).Len"], unfollowed := true, recurses := true, named := ["strconv.ErrSyntax", "strconv.ErrRange", "internal/strconv.uint64pow10", "math/bits.deBruijn32tab", "math/bits.deBruijn64tab"], apart := false, laid := [("math/bits.deBruijn32tab", laid_math_bits_deBruijn32tab), ("math/bits.deBruijn64tab", laid_math_bits_deBruijn64tab), ("internal/strconv.uint64pow10", laid_internal_strconv_uint64pow10), ("strconv.ErrRange", laid_strconv_ErrRange), ("strconv.ErrSyntax", laid_strconv_ErrSyntax)] }
def DbCopiesSaid : Prop := dbCopiesRow.holds Tryz.pinned (OpenSpec.ofChange dbCopiesSpec)

/-- ITS FALSE NEIGHBOUR: 'it returns false'. Refute it at one input. -/
def dbCopiesWrong : ChangeSpec := { name := "dbCopies", fn := fun _ => fun
  | [d1, d2, d3] => { results := [.lit (.bool false)], args := [d1, d2, d3] }
  | _ => none }
def DbCopiesWrongFalsely : Prop := dbCopiesRow.holds Tryz.pinned (OpenSpec.ofChange dbCopiesWrong)

/-- 'halyardlaw19.DbCrashes': WHATEVER THE INPUT: true; the input reads as it did. -/
def dbCrashesSpec : ChangeSpec := { name := "dbCrashes", fn := fun _ => fun
  | [d1, d2, d3] => { results := [.lit (.bool true)], args := [d1, d2, d3] }
  | _ => none }
def dbCrashesRow : OpenClaim := { program := "ytagljlpbfeeicaagreatdoor", sum := "56d7000e96066046ecef9a894cebb208f34cce8daa108c2ac483a055477b52d0", func := "halyard/halyardlaw19.DbCrashes", spec := "dbCrashes", inPlace := ["maps.clone", "internal/bytealg.IndexByteString", "internal/bytealg.Compare", "internal/reflectlite.ValueOf", "internal/reflectlite.Swapper", "(internal/reflectlite.Value).Len"], unfollowed := true, recurses := true, named := ["strconv.ErrSyntax", "strconv.ErrRange", "internal/strconv.uint64pow10", "math/bits.deBruijn32tab", "math/bits.deBruijn64tab"], apart := false, laid := [("math/bits.deBruijn32tab", laid_math_bits_deBruijn32tab), ("math/bits.deBruijn64tab", laid_math_bits_deBruijn64tab), ("internal/strconv.uint64pow10", laid_internal_strconv_uint64pow10), ("strconv.ErrRange", laid_strconv_ErrRange), ("strconv.ErrSyntax", laid_strconv_ErrSyntax)] }
def DbCrashesSaid : Prop := dbCrashesRow.holds Tryz.pinned (OpenSpec.ofChange dbCrashesSpec)

/-- ITS FALSE NEIGHBOUR: 'it returns false'. Refute it at one input. -/
def dbCrashesWrong : ChangeSpec := { name := "dbCrashes", fn := fun _ => fun
  | [d1, d2, d3] => { results := [.lit (.bool false)], args := [d1, d2, d3] }
  | _ => none }
def DbCrashesWrongFalsely : Prop := dbCrashesRow.holds Tryz.pinned (OpenSpec.ofChange dbCrashesWrong)

/-- 'halyardlaw19.DbNil': WHATEVER THE INPUT: true; the input reads as it did. -/
def dbNilSpec : ChangeSpec := { name := "dbNil", fn := fun _ => fun
  | [d1, d2, d3] => { results := [.lit (.bool true)], args := [d1, d2, d3] }
  | _ => none }
def dbNilRow : OpenClaim := { program := "ytagljlpbfeeicaagreatdoor", sum := "56d7000e96066046ecef9a894cebb208f34cce8daa108c2ac483a055477b52d0", func := "halyard/halyardlaw19.DbNil", spec := "dbNil", inPlace := ["internal/bytealg.IndexByteString", "maps.clone", "internal/bytealg.Compare", "internal/reflectlite.ValueOf", "internal/reflectlite.Swapper", "(internal/reflectlite.Value).Len"], unfollowed := true, recurses := true, named := ["strconv.ErrSyntax", "strconv.ErrRange", "internal/strconv.uint64pow10", "math/bits.deBruijn32tab", "math/bits.deBruijn64tab"], apart := false, laid := [("math/bits.deBruijn32tab", laid_math_bits_deBruijn32tab), ("math/bits.deBruijn64tab", laid_math_bits_deBruijn64tab), ("internal/strconv.uint64pow10", laid_internal_strconv_uint64pow10), ("strconv.ErrRange", laid_strconv_ErrRange), ("strconv.ErrSyntax", laid_strconv_ErrSyntax)] }
def DbNilSaid : Prop := dbNilRow.holds Tryz.pinned (OpenSpec.ofChange dbNilSpec)

/-- ITS FALSE NEIGHBOUR: 'it returns false'. Refute it at one input. -/
def dbNilWrong : ChangeSpec := { name := "dbNil", fn := fun _ => fun
  | [d1, d2, d3] => { results := [.lit (.bool false)], args := [d1, d2, d3] }
  | _ => none }
def DbNilWrongFalsely : Prop := dbNilRow.holds Tryz.pinned (OpenSpec.ofChange dbNilWrong)

/- THE SECOND FORM. 'bulk': how many values and letters a reading holds, each counted each time it is reached (what is shared counts as often as it is met; a slice's spare places count too). A statement '..UptoSaid' is the law's where the arguments, and the package variables that the reading takes, are together of bulk at most 1048576: NARROWER than '..Said'. Prove '..Said' where nothing that the law and all that it calls make is longer than what came in: it says more and counts as full. Else prove '..UptoSaid'. A law counts once. -/
mutual
def uptoBulk {H : Type} : DataW H → Nat
  | .lit (.string bytes) => bytes.length + 1
  | .lit _ => 1
  | .nil => 1
  | .ptr d => uptoBulk d + 1
  | .slice elems spare => uptoBulkAll elems + uptoBulkAll spare + 1
  | .agg parts => uptoBulkAll parts + 1
  | .iface _ d => uptoBulk d + 1
  | .map entries => uptoBulkEntries entries + 1
  | .held _ => 1
def uptoBulkAll {H : Type} : List (DataW H) → Nat
  | [] => 0
  | d :: r => uptoBulk d + uptoBulkAll r
def uptoBulkEntries {H : Type} : List (Lit × DataW H) → Nat
  | [] => 0
  | x :: r => uptoBulkEntry x + uptoBulkEntries r
def uptoBulkEntry {H : Type} : Lit × DataW H → Nat
  | (.string bytes, d) => bytes.length + uptoBulk d + 1
  | (_, d) => uptoBulk d + 1
 end
def uptoSmall : (H : Type) → List (DataW H) → Bool := fun _ ds => decide (uptoBulkAll ds ≤ 1048576)
def OpenSpec.upto (s : _root_.Go.ChangeSpec) : _root_.Go.OpenSpec := { _root_.Go.OpenSpec.ofChange s with cond := some uptoSmall }

/-- 'halyardlaw19.DbTables', WHERE WHAT IT READS IS OF BULK AT MOST 1048576: true; the input reads as it did. -/
def dbTablesUptoRow : OpenClaim := { program := "ytagljlpbfeeicaagreatdoor", sum := "56d7000e96066046ecef9a894cebb208f34cce8daa108c2ac483a055477b52d0", func := "halyard/halyardlaw19.DbTables", spec := "dbTables", inPlace := ["internal/bytealg.IndexByteString", "maps.clone", "internal/bytealg.Compare", "internal/reflectlite.ValueOf", "internal/reflectlite.Swapper", "(internal/reflectlite.Value).Len"], unfollowed := true, recurses := true, named := ["strconv.ErrSyntax", "strconv.ErrRange", "internal/strconv.uint64pow10", "math/bits.deBruijn32tab", "math/bits.deBruijn64tab"], apart := false, laid := [("math/bits.deBruijn32tab", laid_math_bits_deBruijn32tab), ("math/bits.deBruijn64tab", laid_math_bits_deBruijn64tab), ("internal/strconv.uint64pow10", laid_internal_strconv_uint64pow10), ("strconv.ErrRange", laid_strconv_ErrRange), ("strconv.ErrSyntax", laid_strconv_ErrSyntax)], narrowed := true }
def DbTablesUptoSaid : Prop := dbTablesUptoRow.holds Tryz.pinned (OpenSpec.upto dbTablesSpec)

/-- 'halyardlaw19.DbEnds', WHERE WHAT IT READS IS OF BULK AT MOST 1048576: true; the input reads as it did. -/
def dbEndsUptoRow : OpenClaim := { program := "ytagljlpbfeeicaagreatdoor", sum := "56d7000e96066046ecef9a894cebb208f34cce8daa108c2ac483a055477b52d0", func := "halyard/halyardlaw19.DbEnds", spec := "dbEnds", inPlace := ["internal/bytealg.IndexByteString", "maps.clone", "internal/bytealg.Compare", "internal/reflectlite.ValueOf", "internal/reflectlite.Swapper", "(internal/reflectlite.Value).Len"], unfollowed := true, recurses := true, named := ["strconv.ErrSyntax", "strconv.ErrRange", "internal/strconv.uint64pow10", "math/bits.deBruijn32tab", "math/bits.deBruijn64tab"], apart := false, laid := [("math/bits.deBruijn32tab", laid_math_bits_deBruijn32tab), ("math/bits.deBruijn64tab", laid_math_bits_deBruijn64tab), ("internal/strconv.uint64pow10", laid_internal_strconv_uint64pow10), ("strconv.ErrRange", laid_strconv_ErrRange), ("strconv.ErrSyntax", laid_strconv_ErrSyntax)], narrowed := true }
def DbEndsUptoSaid : Prop := dbEndsUptoRow.holds Tryz.pinned (OpenSpec.upto dbEndsSpec)

/-- 'halyardlaw19.DbRanges', WHERE WHAT IT READS IS OF BULK AT MOST 1048576: true; the input reads as it did. -/
def dbRangesUptoRow : OpenClaim := { program := "ytagljlpbfeeicaagreatdoor", sum := "56d7000e96066046ecef9a894cebb208f34cce8daa108c2ac483a055477b52d0", func := "halyard/halyardlaw19.DbRanges", spec := "dbRanges", inPlace := ["internal/bytealg.IndexByteString", "maps.clone", "internal/bytealg.Compare", "internal/reflectlite.ValueOf", "internal/reflectlite.Swapper", "(internal/reflectlite.Value).Len"], unfollowed := true, recurses := true, named := ["strconv.ErrSyntax", "strconv.ErrRange", "internal/strconv.uint64pow10", "math/bits.deBruijn32tab", "math/bits.deBruijn64tab"], apart := false, laid := [("math/bits.deBruijn32tab", laid_math_bits_deBruijn32tab), ("math/bits.deBruijn64tab", laid_math_bits_deBruijn64tab), ("internal/strconv.uint64pow10", laid_internal_strconv_uint64pow10), ("strconv.ErrRange", laid_strconv_ErrRange), ("strconv.ErrSyntax", laid_strconv_ErrSyntax)], narrowed := true }
def DbRangesUptoSaid : Prop := dbRangesUptoRow.holds Tryz.pinned (OpenSpec.upto dbRangesSpec)

/-- 'halyardlaw19.DbFull', WHERE WHAT IT READS IS OF BULK AT MOST 1048576: true; the input reads as it did. -/
def dbFullUptoRow : OpenClaim := { program := "ytagljlpbfeeicaagreatdoor", sum := "56d7000e96066046ecef9a894cebb208f34cce8daa108c2ac483a055477b52d0", func := "halyard/halyardlaw19.DbFull", spec := "dbFull", inPlace := ["internal/bytealg.IndexByteString", "maps.clone", "internal/bytealg.Compare", "internal/reflectlite.ValueOf", "internal/reflectlite.Swapper", "(internal/reflectlite.Value).Len"], unfollowed := true, recurses := true, named := ["strconv.ErrSyntax", "strconv.ErrRange", "internal/strconv.uint64pow10", "math/bits.deBruijn32tab", "math/bits.deBruijn64tab"], apart := false, laid := [("math/bits.deBruijn32tab", laid_math_bits_deBruijn32tab), ("math/bits.deBruijn64tab", laid_math_bits_deBruijn64tab), ("internal/strconv.uint64pow10", laid_internal_strconv_uint64pow10), ("strconv.ErrRange", laid_strconv_ErrRange), ("strconv.ErrSyntax", laid_strconv_ErrSyntax)], narrowed := true }
def DbFullUptoSaid : Prop := dbFullUptoRow.holds Tryz.pinned (OpenSpec.upto dbFullSpec)

/-- 'halyardlaw19.DbWorks', WHERE WHAT IT READS IS OF BULK AT MOST 1048576: true; the input reads as it did. -/
def dbWorksUptoRow : OpenClaim := { program := "ytagljlpbfeeicaagreatdoor", sum := "56d7000e96066046ecef9a894cebb208f34cce8daa108c2ac483a055477b52d0", func := "halyard/halyardlaw19.DbWorks", spec := "dbWorks", inPlace := ["internal/bytealg.IndexByteString", "maps.clone", "internal/bytealg.Compare", "internal/reflectlite.ValueOf", "internal/reflectlite.Swapper", "(internal/reflectlite.Value).Len"], unfollowed := true, recurses := true, named := ["strconv.ErrSyntax", "strconv.ErrRange", "internal/strconv.uint64pow10", "math/bits.deBruijn32tab", "math/bits.deBruijn64tab"], apart := false, laid := [("math/bits.deBruijn32tab", laid_math_bits_deBruijn32tab), ("math/bits.deBruijn64tab", laid_math_bits_deBruijn64tab), ("internal/strconv.uint64pow10", laid_internal_strconv_uint64pow10), ("strconv.ErrRange", laid_strconv_ErrRange), ("strconv.ErrSyntax", laid_strconv_ErrSyntax)], narrowed := true }
def DbWorksUptoSaid : Prop := dbWorksUptoRow.holds Tryz.pinned (OpenSpec.upto dbWorksSpec)

/-- 'halyardlaw19.DbHostile', WHERE WHAT IT READS IS OF BULK AT MOST 1048576: true; the input reads as it did. -/
def dbHostileUptoRow : OpenClaim := { program := "ytagljlpbfeeicaagreatdoor", sum := "56d7000e96066046ecef9a894cebb208f34cce8daa108c2ac483a055477b52d0", func := "halyard/halyardlaw19.DbHostile", spec := "dbHostile", inPlace := ["internal/bytealg.IndexByteString", "maps.clone", "internal/bytealg.Compare", "internal/reflectlite.ValueOf", "internal/reflectlite.Swapper", "(internal/reflectlite.Value).Len"], unfollowed := true, recurses := true, named := ["strconv.ErrSyntax", "strconv.ErrRange", "internal/strconv.uint64pow10", "math/bits.deBruijn32tab", "math/bits.deBruijn64tab"], apart := false, laid := [("math/bits.deBruijn32tab", laid_math_bits_deBruijn32tab), ("math/bits.deBruijn64tab", laid_math_bits_deBruijn64tab), ("internal/strconv.uint64pow10", laid_internal_strconv_uint64pow10), ("strconv.ErrRange", laid_strconv_ErrRange), ("strconv.ErrSyntax", laid_strconv_ErrSyntax)], narrowed := true }
def DbHostileUptoSaid : Prop := dbHostileUptoRow.holds Tryz.pinned (OpenSpec.upto dbHostileSpec)

/-- 'halyardlaw19.DbAgain', WHERE WHAT IT READS IS OF BULK AT MOST 1048576: true; the input reads as it did. -/
def dbAgainUptoRow : OpenClaim := { program := "ytagljlpbfeeicaagreatdoor", sum := "56d7000e96066046ecef9a894cebb208f34cce8daa108c2ac483a055477b52d0", func := "halyard/halyardlaw19.DbAgain", spec := "dbAgain", inPlace := ["internal/bytealg.IndexByteString", "maps.clone", "internal/bytealg.Compare", "internal/reflectlite.ValueOf", "internal/reflectlite.Swapper", "(internal/reflectlite.Value).Len"], unfollowed := true, recurses := true, named := ["strconv.ErrSyntax", "strconv.ErrRange", "internal/strconv.uint64pow10", "math/bits.deBruijn32tab", "math/bits.deBruijn64tab"], apart := false, laid := [("math/bits.deBruijn32tab", laid_math_bits_deBruijn32tab), ("math/bits.deBruijn64tab", laid_math_bits_deBruijn64tab), ("internal/strconv.uint64pow10", laid_internal_strconv_uint64pow10), ("strconv.ErrRange", laid_strconv_ErrRange), ("strconv.ErrSyntax", laid_strconv_ErrSyntax)], narrowed := true }
def DbAgainUptoSaid : Prop := dbAgainUptoRow.holds Tryz.pinned (OpenSpec.upto dbAgainSpec)

/-- 'halyardlaw19.DbPins', WHERE WHAT IT READS IS OF BULK AT MOST 1048576: true; the input reads as it did. -/
def dbPinsUptoRow : OpenClaim := { program := "ytagljlpbfeeicaagreatdoor", sum := "56d7000e96066046ecef9a894cebb208f34cce8daa108c2ac483a055477b52d0", func := "halyard/halyardlaw19.DbPins", spec := "dbPins", inPlace := ["internal/bytealg.IndexByteString", "maps.clone", "internal/bytealg.Compare", "internal/reflectlite.ValueOf", "internal/reflectlite.Swapper", "(internal/reflectlite.Value).Len"], unfollowed := true, recurses := true, named := ["strconv.ErrSyntax", "strconv.ErrRange", "internal/strconv.uint64pow10", "math/bits.deBruijn32tab", "math/bits.deBruijn64tab"], apart := false, laid := [("math/bits.deBruijn32tab", laid_math_bits_deBruijn32tab), ("math/bits.deBruijn64tab", laid_math_bits_deBruijn64tab), ("internal/strconv.uint64pow10", laid_internal_strconv_uint64pow10), ("strconv.ErrRange", laid_strconv_ErrRange), ("strconv.ErrSyntax", laid_strconv_ErrSyntax)], narrowed := true }
def DbPinsUptoSaid : Prop := dbPinsUptoRow.holds Tryz.pinned (OpenSpec.upto dbPinsSpec)

/-- 'halyardlaw19.DbSettles', WHERE WHAT IT READS IS OF BULK AT MOST 1048576: true; the input reads as it did. -/
def dbSettlesUptoRow : OpenClaim := { program := "ytagljlpbfeeicaagreatdoor", sum := "56d7000e96066046ecef9a894cebb208f34cce8daa108c2ac483a055477b52d0", func := "halyard/halyardlaw19.DbSettles", spec := "dbSettles", inPlace := ["internal/bytealg.IndexByteString", "maps.clone", "internal/bytealg.Compare", "internal/reflectlite.ValueOf", "internal/reflectlite.Swapper", "(internal/reflectlite.Value).Len"], unfollowed := true, recurses := true, named := ["strconv.ErrSyntax", "strconv.ErrRange", "internal/strconv.uint64pow10", "math/bits.deBruijn32tab", "math/bits.deBruijn64tab"], apart := false, laid := [("math/bits.deBruijn32tab", laid_math_bits_deBruijn32tab), ("math/bits.deBruijn64tab", laid_math_bits_deBruijn64tab), ("internal/strconv.uint64pow10", laid_internal_strconv_uint64pow10), ("strconv.ErrRange", laid_strconv_ErrRange), ("strconv.ErrSyntax", laid_strconv_ErrSyntax)], narrowed := true }
def DbSettlesUptoSaid : Prop := dbSettlesUptoRow.holds Tryz.pinned (OpenSpec.upto dbSettlesSpec)

/-- 'halyardlaw19.DbCopies', WHERE WHAT IT READS IS OF BULK AT MOST 1048576: true; the input reads as it did. -/
def dbCopiesUptoRow : OpenClaim := { program := "ytagljlpbfeeicaagreatdoor", sum := "56d7000e96066046ecef9a894cebb208f34cce8daa108c2ac483a055477b52d0", func := "halyard/halyardlaw19.DbCopies", spec := "dbCopies", inPlace := ["internal/bytealg.IndexByteString", "maps.clone", "internal/bytealg.Compare", "internal/reflectlite.ValueOf", "internal/reflectlite.Swapper", "(internal/reflectlite.Value).Len"], unfollowed := true, recurses := true, named := ["strconv.ErrSyntax", "strconv.ErrRange", "internal/strconv.uint64pow10", "math/bits.deBruijn32tab", "math/bits.deBruijn64tab"], apart := false, laid := [("math/bits.deBruijn32tab", laid_math_bits_deBruijn32tab), ("math/bits.deBruijn64tab", laid_math_bits_deBruijn64tab), ("internal/strconv.uint64pow10", laid_internal_strconv_uint64pow10), ("strconv.ErrRange", laid_strconv_ErrRange), ("strconv.ErrSyntax", laid_strconv_ErrSyntax)], narrowed := true }
def DbCopiesUptoSaid : Prop := dbCopiesUptoRow.holds Tryz.pinned (OpenSpec.upto dbCopiesSpec)

/-- 'halyardlaw19.DbCrashes', WHERE WHAT IT READS IS OF BULK AT MOST 1048576: true; the input reads as it did. -/
def dbCrashesUptoRow : OpenClaim := { program := "ytagljlpbfeeicaagreatdoor", sum := "56d7000e96066046ecef9a894cebb208f34cce8daa108c2ac483a055477b52d0", func := "halyard/halyardlaw19.DbCrashes", spec := "dbCrashes", inPlace := ["maps.clone", "internal/bytealg.IndexByteString", "internal/bytealg.Compare", "internal/reflectlite.ValueOf", "internal/reflectlite.Swapper", "(internal/reflectlite.Value).Len"], unfollowed := true, recurses := true, named := ["strconv.ErrSyntax", "strconv.ErrRange", "internal/strconv.uint64pow10", "math/bits.deBruijn32tab", "math/bits.deBruijn64tab"], apart := false, laid := [("math/bits.deBruijn32tab", laid_math_bits_deBruijn32tab), ("math/bits.deBruijn64tab", laid_math_bits_deBruijn64tab), ("internal/strconv.uint64pow10", laid_internal_strconv_uint64pow10), ("strconv.ErrRange", laid_strconv_ErrRange), ("strconv.ErrSyntax", laid_strconv_ErrSyntax)], narrowed := true }
def DbCrashesUptoSaid : Prop := dbCrashesUptoRow.holds Tryz.pinned (OpenSpec.upto dbCrashesSpec)

/-- 'halyardlaw19.DbNil', WHERE WHAT IT READS IS OF BULK AT MOST 1048576: true; the input reads as it did. -/
def dbNilUptoRow : OpenClaim := { program := "ytagljlpbfeeicaagreatdoor", sum := "56d7000e96066046ecef9a894cebb208f34cce8daa108c2ac483a055477b52d0", func := "halyard/halyardlaw19.DbNil", spec := "dbNil", inPlace := ["internal/bytealg.IndexByteString", "maps.clone", "internal/bytealg.Compare", "internal/reflectlite.ValueOf", "internal/reflectlite.Swapper", "(internal/reflectlite.Value).Len"], unfollowed := true, recurses := true, named := ["strconv.ErrSyntax", "strconv.ErrRange", "internal/strconv.uint64pow10", "math/bits.deBruijn32tab", "math/bits.deBruijn64tab"], apart := false, laid := [("math/bits.deBruijn32tab", laid_math_bits_deBruijn32tab), ("math/bits.deBruijn64tab", laid_math_bits_deBruijn64tab), ("internal/strconv.uint64pow10", laid_internal_strconv_uint64pow10), ("strconv.ErrRange", laid_strconv_ErrRange), ("strconv.ErrSyntax", laid_strconv_ErrSyntax)], narrowed := true }
def DbNilUptoSaid : Prop := dbNilUptoRow.holds Tryz.pinned (OpenSpec.upto dbNilSpec)

end Rows
end Go.Proofs.YtagljlpbfeeicaaGreatDoor
