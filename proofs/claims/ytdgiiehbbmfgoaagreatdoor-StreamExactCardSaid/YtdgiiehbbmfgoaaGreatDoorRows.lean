/-
  NARROWER THAN 'FOR EVERY INPUT', by the rows' own cells (each row's printed sentence says how): CosineOne: laid · HalfWhole: laid · GridExact: laid · RingWhole: laid · StreamExact: laid.
  DERIVED. THE GIVEN ROWS OF THIS SEAT. 5 by the template 'for every input the law returns true; each argument reads behind the call as it read before'; 0 by the template 'total and deterministic' (their statements: YtdgiiehbbmfgoaaGreatDoorTotals.lean).
  GIVEN WITH THE SEED: the statements are not yours to turn. If you find one false, say at which input.
  Laid BY PROGRAM, IN A SANDBOX (cutbox-rows.mjs): the forced cells as the released guide's own fill.sh prints them over the translation 37dc09ea371b3b5a… (all of the seat's roots in one cut). By AI agents, Wed Nov 11 2026. No macro, syntax, notation, axiom, sorry.
-/
import Derived.Test.YtdgiiehbbmfgoaaGreatDoorChecked
import GoSem.Claim
import GoSem.ClaimJoined
import GoSem.ClaimMapViews
import Derived.JoinedTies
import Derived.KernelRfl
namespace Go.Proofs.YtdgiiehbbmfgoaaGreatDoor
/- THE CELL 'sum', in the pinned program and in every row, IS THE sha256 OF THE DUMP (.gsa) THAT YtdgiiehbbmfgoaaGreatDoorProg.lean LOADS. Nothing in Lean hashes anything: it is a label: what it is worth is what the hold of that sum in a sandbox is worth. -/
noncomputable def Tryz.pinned : Pinned := { name := "ytdgiiehbbmfgoaagreatdoor", sum := "37dc09ea371b3b5a9a495056732b9ac26cafa301bbcce77221230363ad1025da", checked := Tryz.checked }
namespace Rows
def none {H : Type} : Left H := { results := [], args := [] }

/- WHAT THE LISTED PACKAGE-LEVEL VARIABLES READ AS WHEN THE CALL BEGINS. Each datum BY PROGRAM (the guide's laid-datum.mjs) off the statement by which the dump's own 'gosem.cut.vars' lays the variable. In a bare row this is a premise. The card (YtdgiiehbbmfgoaaGreatDoorCards.lean) ties it to the program's text. -/
def laid_math_bits_deBruijn32tab {H : Type} : DataW H := .agg [.lit (.int .u8 0), .lit (.int .u8 1), .lit (.int .u8 28), .lit (.int .u8 2), .lit (.int .u8 29), .lit (.int .u8 14), .lit (.int .u8 24), .lit (.int .u8 3), .lit (.int .u8 30), .lit (.int .u8 22), .lit (.int .u8 20), .lit (.int .u8 15), .lit (.int .u8 25), .lit (.int .u8 17), .lit (.int .u8 4), .lit (.int .u8 8), .lit (.int .u8 31), .lit (.int .u8 27), .lit (.int .u8 13), .lit (.int .u8 23), .lit (.int .u8 21), .lit (.int .u8 19), .lit (.int .u8 16), .lit (.int .u8 7), .lit (.int .u8 26), .lit (.int .u8 12), .lit (.int .u8 18), .lit (.int .u8 6), .lit (.int .u8 11), .lit (.int .u8 5), .lit (.int .u8 10), .lit (.int .u8 9)]
def laid_math_bits_deBruijn64tab {H : Type} : DataW H := .agg [.lit (.int .u8 0), .lit (.int .u8 1), .lit (.int .u8 56), .lit (.int .u8 2), .lit (.int .u8 57), .lit (.int .u8 49), .lit (.int .u8 28), .lit (.int .u8 3), .lit (.int .u8 61), .lit (.int .u8 58), .lit (.int .u8 42), .lit (.int .u8 50), .lit (.int .u8 38), .lit (.int .u8 29), .lit (.int .u8 17), .lit (.int .u8 4), .lit (.int .u8 62), .lit (.int .u8 47), .lit (.int .u8 59), .lit (.int .u8 36), .lit (.int .u8 45), .lit (.int .u8 43), .lit (.int .u8 51), .lit (.int .u8 22), .lit (.int .u8 53), .lit (.int .u8 39), .lit (.int .u8 33), .lit (.int .u8 30), .lit (.int .u8 24), .lit (.int .u8 18), .lit (.int .u8 12), .lit (.int .u8 5), .lit (.int .u8 63), .lit (.int .u8 55), .lit (.int .u8 48), .lit (.int .u8 27), .lit (.int .u8 60), .lit (.int .u8 41), .lit (.int .u8 37), .lit (.int .u8 16), .lit (.int .u8 46), .lit (.int .u8 35), .lit (.int .u8 44), .lit (.int .u8 21), .lit (.int .u8 52), .lit (.int .u8 32), .lit (.int .u8 23), .lit (.int .u8 11), .lit (.int .u8 54), .lit (.int .u8 26), .lit (.int .u8 40), .lit (.int .u8 15), .lit (.int .u8 34), .lit (.int .u8 20), .lit (.int .u8 31), .lit (.int .u8 10), .lit (.int .u8 25), .lit (.int .u8 14), .lit (.int .u8 19), .lit (.int .u8 9), .lit (.int .u8 13), .lit (.int .u8 8), .lit (.int .u8 7), .lit (.int .u8 6)]
def laid_internal_strconv_uint64pow10 {H : Type} : DataW H := .agg [.lit (.int .u64 1), .lit (.int .u64 10), .lit (.int .u64 100), .lit (.int .u64 1000), .lit (.int .u64 10000), .lit (.int .u64 100000), .lit (.int .u64 1000000), .lit (.int .u64 10000000), .lit (.int .u64 100000000), .lit (.int .u64 1000000000), .lit (.int .u64 10000000000), .lit (.int .u64 100000000000), .lit (.int .u64 1000000000000), .lit (.int .u64 10000000000000), .lit (.int .u64 100000000000000), .lit (.int .u64 1000000000000000), .lit (.int .u64 10000000000000000), .lit (.int .u64 100000000000000000), .lit (.int .u64 1000000000000000000), .lit (.int .u64 10000000000000000000)]
def laid_timbre_api_ErrRange {H : Type} : DataW H := .iface "*errors.errorString" (.ptr (.agg [.lit (.string [116, 105, 109, 98, 114, 101, 58, 32, 114, 97, 110, 103, 101])]))
def laid_timbre_api_ErrLength {H : Type} : DataW H := .iface "*errors.errorString" (.ptr (.agg [.lit (.string [116, 105, 109, 98, 114, 101, 58, 32, 108, 101, 110, 103, 116, 104])]))
def laid_timbre_api_ErrOrder {H : Type} : DataW H := .iface "*errors.errorString" (.ptr (.agg [.lit (.string [116, 105, 109, 98, 114, 101, 58, 32, 111, 114, 100, 101, 114])]))
def laid_timbre_api_ErrProgram {H : Type} : DataW H := .iface "*errors.errorString" (.ptr (.agg [.lit (.string [116, 105, 109, 98, 114, 101, 58, 32, 112, 114, 111, 103, 114, 97, 109])]))
def laid_timbre_api_ErrState {H : Type} : DataW H := .iface "*errors.errorString" (.ptr (.agg [.lit (.string [116, 105, 109, 98, 114, 101, 58, 32, 115, 116, 97, 116, 101])]))
def laid_timbre_api_ErrDone {H : Type} : DataW H := .iface "*errors.errorString" (.ptr (.agg [.lit (.string [116, 105, 109, 98, 114, 101, 58, 32, 100, 111, 110, 101])]))
def laid_timbre_api_ErrMode {H : Type} : DataW H := .iface "*errors.errorString" (.ptr (.agg [.lit (.string [116, 105, 109, 98, 114, 101, 58, 32, 109, 111, 100, 101])]))
def laid_timbre_steps_table {H : Type} : DataW H := .agg [.agg [.lit (.string []), .lit (.bool false), .lit (.bool false), .lit (.int .i64 0), .lit (.bool false)], .agg [.lit (.string [103, 97, 116, 104, 101, 114]), .lit (.bool true), .lit (.bool true), .lit (.int .i64 0), .lit (.bool false)], .agg [.lit (.string [115, 99, 97, 116, 116, 101, 114]), .lit (.bool true), .lit (.bool true), .lit (.int .i64 0), .lit (.bool false)], .agg [.lit (.string [122, 101, 114, 111]), .lit (.bool false), .lit (.bool false), .lit (.int .i64 0), .lit (.bool false)], .agg [.lit (.string [116, 119, 105, 115, 116]), .lit (.bool false), .lit (.bool false), .lit (.int .i64 16384), .lit (.bool true)], .agg [.lit (.string [102, 108, 121]), .lit (.bool false), .lit (.bool true), .lit (.int .i64 5), .lit (.bool false)], .agg [.lit (.string [100, 105, 114, 101, 99, 116]), .lit (.bool true), .lit (.bool true), .lit (.int .i64 64), .lit (.bool false)], .agg [.lit (.string [99, 104, 105, 114, 112]), .lit (.bool false), .lit (.bool false), .lit (.int .i64 16384), .lit (.bool false)], .agg [.lit (.string [102, 105, 108, 108]), .lit (.bool false), .lit (.bool false), .lit (.int .i64 16384), .lit (.bool false)], .agg [.lit (.string [116, 105, 109, 101, 115]), .lit (.bool true), .lit (.bool false), .lit (.int .i64 0), .lit (.bool false)], .agg [.lit (.string [99, 111, 110, 106]), .lit (.bool false), .lit (.bool false), .lit (.int .i64 0), .lit (.bool false)], .agg [.lit (.string [111, 118, 101, 114]), .lit (.bool false), .lit (.bool false), .lit (.int .i64 16384), .lit (.bool false)]]

/-- 'timbrelaw23.CosineOne': WHATEVER THE INPUT: true; the input reads as it did. -/
def cosineOneSpec : ChangeSpec := { name := "cosineOne", fn := fun _ => fun
  | [d1, d2] => { results := [.lit (.bool true)], args := [d1, d2] }
  | _ => none }
def cosineOneRow : OpenClaim := { program := "ytdgiiehbbmfgoaagreatdoor", sum := "37dc09ea371b3b5a9a495056732b9ac26cafa301bbcce77221230363ad1025da", func := "timbre/timbrelaw23.CosineOne", spec := "cosineOne", inPlace := ["math.Float64frombits", "math.Float64bits"], unfollowed := true, recurses := true, named := ["timbre/api.ErrLength", "timbre/api.ErrMode", "timbre/api.ErrRange", "timbre/api.ErrOrder", "internal/strconv.uint64pow10", "math/bits.deBruijn32tab", "math/bits.deBruijn64tab", "timbre/api.ErrProgram", "timbre/steps.table", "timbre/api.ErrDone", "timbre/api.ErrState"], apart := false, laid := [("math/bits.deBruijn32tab", laid_math_bits_deBruijn32tab), ("math/bits.deBruijn64tab", laid_math_bits_deBruijn64tab), ("internal/strconv.uint64pow10", laid_internal_strconv_uint64pow10), ("timbre/api.ErrRange", laid_timbre_api_ErrRange), ("timbre/api.ErrLength", laid_timbre_api_ErrLength), ("timbre/api.ErrOrder", laid_timbre_api_ErrOrder), ("timbre/api.ErrProgram", laid_timbre_api_ErrProgram), ("timbre/api.ErrState", laid_timbre_api_ErrState), ("timbre/api.ErrDone", laid_timbre_api_ErrDone), ("timbre/api.ErrMode", laid_timbre_api_ErrMode), ("timbre/steps.table", laid_timbre_steps_table)] }
def CosineOneSaid : Prop := cosineOneRow.holds Tryz.pinned (OpenSpec.ofChange cosineOneSpec)

/-- ITS FALSE NEIGHBOUR: 'it returns false'. Refute it at one input. -/
def cosineOneWrong : ChangeSpec := { name := "cosineOne", fn := fun _ => fun
  | [d1, d2] => { results := [.lit (.bool false)], args := [d1, d2] }
  | _ => none }
def CosineOneWrongFalsely : Prop := cosineOneRow.holds Tryz.pinned (OpenSpec.ofChange cosineOneWrong)

/-- 'timbrelaw22.HalfWhole': WHATEVER THE INPUT: true; the input reads as it did. -/
def halfWholeSpec : ChangeSpec := { name := "halfWhole", fn := fun _ => fun
  | [d1, d2] => { results := [.lit (.bool true)], args := [d1, d2] }
  | _ => none }
def halfWholeRow : OpenClaim := { program := "ytdgiiehbbmfgoaagreatdoor", sum := "37dc09ea371b3b5a9a495056732b9ac26cafa301bbcce77221230363ad1025da", func := "timbre/timbrelaw22.HalfWhole", spec := "halfWhole", inPlace := ["math.Float64frombits"], unfollowed := true, recurses := true, named := ["timbre/api.ErrLength", "timbre/api.ErrMode", "timbre/api.ErrRange", "timbre/api.ErrOrder", "internal/strconv.uint64pow10", "math/bits.deBruijn32tab", "math/bits.deBruijn64tab", "timbre/api.ErrProgram", "timbre/steps.table", "timbre/api.ErrDone", "timbre/api.ErrState"], apart := false, laid := [("math/bits.deBruijn32tab", laid_math_bits_deBruijn32tab), ("math/bits.deBruijn64tab", laid_math_bits_deBruijn64tab), ("internal/strconv.uint64pow10", laid_internal_strconv_uint64pow10), ("timbre/api.ErrRange", laid_timbre_api_ErrRange), ("timbre/api.ErrLength", laid_timbre_api_ErrLength), ("timbre/api.ErrOrder", laid_timbre_api_ErrOrder), ("timbre/api.ErrProgram", laid_timbre_api_ErrProgram), ("timbre/api.ErrState", laid_timbre_api_ErrState), ("timbre/api.ErrDone", laid_timbre_api_ErrDone), ("timbre/api.ErrMode", laid_timbre_api_ErrMode), ("timbre/steps.table", laid_timbre_steps_table)] }
def HalfWholeSaid : Prop := halfWholeRow.holds Tryz.pinned (OpenSpec.ofChange halfWholeSpec)

/-- ITS FALSE NEIGHBOUR: 'it returns false'. Refute it at one input. -/
def halfWholeWrong : ChangeSpec := { name := "halfWhole", fn := fun _ => fun
  | [d1, d2] => { results := [.lit (.bool false)], args := [d1, d2] }
  | _ => none }
def HalfWholeWrongFalsely : Prop := halfWholeRow.holds Tryz.pinned (OpenSpec.ofChange halfWholeWrong)

/-- 'timbrelaw24.GridExact': WHATEVER THE INPUT: true; the input reads as it did. -/
def gridExactSpec : ChangeSpec := { name := "gridExact", fn := fun _ => fun
  | [d1, d2, d3, d4] => { results := [.lit (.bool true)], args := [d1, d2, d3, d4] }
  | _ => none }
def gridExactRow : OpenClaim := { program := "ytdgiiehbbmfgoaagreatdoor", sum := "37dc09ea371b3b5a9a495056732b9ac26cafa301bbcce77221230363ad1025da", func := "timbre/timbrelaw24.GridExact", spec := "gridExact", inPlace := ["math.Float64frombits", "math.Float64bits"], unfollowed := true, recurses := true, named := ["timbre/api.ErrLength", "timbre/api.ErrMode", "timbre/api.ErrRange", "timbre/api.ErrOrder", "internal/strconv.uint64pow10", "math/bits.deBruijn32tab", "math/bits.deBruijn64tab", "timbre/api.ErrProgram", "timbre/steps.table", "timbre/api.ErrDone", "timbre/api.ErrState"], apart := false, laid := [("math/bits.deBruijn32tab", laid_math_bits_deBruijn32tab), ("math/bits.deBruijn64tab", laid_math_bits_deBruijn64tab), ("internal/strconv.uint64pow10", laid_internal_strconv_uint64pow10), ("timbre/api.ErrRange", laid_timbre_api_ErrRange), ("timbre/api.ErrLength", laid_timbre_api_ErrLength), ("timbre/api.ErrOrder", laid_timbre_api_ErrOrder), ("timbre/api.ErrProgram", laid_timbre_api_ErrProgram), ("timbre/api.ErrState", laid_timbre_api_ErrState), ("timbre/api.ErrDone", laid_timbre_api_ErrDone), ("timbre/api.ErrMode", laid_timbre_api_ErrMode), ("timbre/steps.table", laid_timbre_steps_table)] }
def GridExactSaid : Prop := gridExactRow.holds Tryz.pinned (OpenSpec.ofChange gridExactSpec)

/-- ITS FALSE NEIGHBOUR: 'it returns false'. Refute it at one input. -/
def gridExactWrong : ChangeSpec := { name := "gridExact", fn := fun _ => fun
  | [d1, d2, d3, d4] => { results := [.lit (.bool false)], args := [d1, d2, d3, d4] }
  | _ => none }
def GridExactWrongFalsely : Prop := gridExactRow.holds Tryz.pinned (OpenSpec.ofChange gridExactWrong)

/-- 'timbrelaw25.RingWhole': WHATEVER THE INPUT: true; the input reads as it did. -/
def ringWholeSpec : ChangeSpec := { name := "ringWhole", fn := fun _ => fun
  | [d1, d2] => { results := [.lit (.bool true)], args := [d1, d2] }
  | _ => none }
def ringWholeRow : OpenClaim := { program := "ytdgiiehbbmfgoaagreatdoor", sum := "37dc09ea371b3b5a9a495056732b9ac26cafa301bbcce77221230363ad1025da", func := "timbre/timbrelaw25.RingWhole", spec := "ringWhole", inPlace := ["math.Float64frombits"], unfollowed := true, recurses := true, named := ["timbre/api.ErrLength", "timbre/api.ErrMode", "timbre/api.ErrRange", "timbre/api.ErrOrder", "internal/strconv.uint64pow10", "math/bits.deBruijn32tab", "math/bits.deBruijn64tab", "timbre/api.ErrProgram", "timbre/steps.table", "timbre/api.ErrDone", "timbre/api.ErrState"], apart := false, laid := [("math/bits.deBruijn32tab", laid_math_bits_deBruijn32tab), ("math/bits.deBruijn64tab", laid_math_bits_deBruijn64tab), ("internal/strconv.uint64pow10", laid_internal_strconv_uint64pow10), ("timbre/api.ErrRange", laid_timbre_api_ErrRange), ("timbre/api.ErrLength", laid_timbre_api_ErrLength), ("timbre/api.ErrOrder", laid_timbre_api_ErrOrder), ("timbre/api.ErrProgram", laid_timbre_api_ErrProgram), ("timbre/api.ErrState", laid_timbre_api_ErrState), ("timbre/api.ErrDone", laid_timbre_api_ErrDone), ("timbre/api.ErrMode", laid_timbre_api_ErrMode), ("timbre/steps.table", laid_timbre_steps_table)] }
def RingWholeSaid : Prop := ringWholeRow.holds Tryz.pinned (OpenSpec.ofChange ringWholeSpec)

/-- ITS FALSE NEIGHBOUR: 'it returns false'. Refute it at one input. -/
def ringWholeWrong : ChangeSpec := { name := "ringWhole", fn := fun _ => fun
  | [d1, d2] => { results := [.lit (.bool false)], args := [d1, d2] }
  | _ => none }
def RingWholeWrongFalsely : Prop := ringWholeRow.holds Tryz.pinned (OpenSpec.ofChange ringWholeWrong)

/-- 'timbrelaw28.StreamExact': WHATEVER THE INPUT: true; the input reads as it did. -/
def streamExactSpec : ChangeSpec := { name := "streamExact", fn := fun _ => fun
  | [d1, d2, d3] => { results := [.lit (.bool true)], args := [d1, d2, d3] }
  | _ => none }
def streamExactRow : OpenClaim := { program := "ytdgiiehbbmfgoaagreatdoor", sum := "37dc09ea371b3b5a9a495056732b9ac26cafa301bbcce77221230363ad1025da", func := "timbre/timbrelaw28.StreamExact", spec := "streamExact", inPlace := ["math.Float64frombits"], unfollowed := true, recurses := true, named := ["timbre/api.ErrLength", "timbre/api.ErrMode", "timbre/api.ErrRange", "timbre/api.ErrOrder", "internal/strconv.uint64pow10", "math/bits.deBruijn32tab", "math/bits.deBruijn64tab", "timbre/api.ErrProgram", "timbre/steps.table", "timbre/api.ErrDone", "timbre/api.ErrState"], apart := false, laid := [("math/bits.deBruijn32tab", laid_math_bits_deBruijn32tab), ("math/bits.deBruijn64tab", laid_math_bits_deBruijn64tab), ("internal/strconv.uint64pow10", laid_internal_strconv_uint64pow10), ("timbre/api.ErrRange", laid_timbre_api_ErrRange), ("timbre/api.ErrLength", laid_timbre_api_ErrLength), ("timbre/api.ErrOrder", laid_timbre_api_ErrOrder), ("timbre/api.ErrProgram", laid_timbre_api_ErrProgram), ("timbre/api.ErrState", laid_timbre_api_ErrState), ("timbre/api.ErrDone", laid_timbre_api_ErrDone), ("timbre/api.ErrMode", laid_timbre_api_ErrMode), ("timbre/steps.table", laid_timbre_steps_table)] }
def StreamExactSaid : Prop := streamExactRow.holds Tryz.pinned (OpenSpec.ofChange streamExactSpec)

/-- ITS FALSE NEIGHBOUR: 'it returns false'. Refute it at one input. -/
def streamExactWrong : ChangeSpec := { name := "streamExact", fn := fun _ => fun
  | [d1, d2, d3] => { results := [.lit (.bool false)], args := [d1, d2, d3] }
  | _ => none }
def StreamExactWrongFalsely : Prop := streamExactRow.holds Tryz.pinned (OpenSpec.ofChange streamExactWrong)

/- THE SECOND FORM. 'bulk': how many values and letters a reading holds, each counted each time it is reached (what is shared counts as often as it is met; a slice's spare places count too). A statement '..UptoSaid' is the law's where the arguments, and the package variables that the reading takes, are together of bulk at most 1048576: NARROWER than '..Said'. Prove '..Said' where nothing that the law and all that it calls make is longer than what came in: it says more and counts as full. Else prove '..UptoSaid'. A law counts once. -/
mutual
def uptoBulk {H : Type} : DataW H → Nat
  | .lit (.string bytes) => bytes.length + 1
  | .lit _ => 1
  | .nil => 1
  | .ptr d => uptoBulk d + 1
  | .slice elems spare => uptoBulkAll elems + uptoBulkAll spare + 1
  | .agg parts => uptoBulkAll parts + 1
  | .iface _ d => uptoBulk d + 1
  | .map entries => uptoBulkEntries entries + 1
  | .held _ => 1
def uptoBulkAll {H : Type} : List (DataW H) → Nat
  | [] => 0
  | d :: r => uptoBulk d + uptoBulkAll r
def uptoBulkEntries {H : Type} : List (Lit × DataW H) → Nat
  | [] => 0
  | x :: r => uptoBulkEntry x + uptoBulkEntries r
def uptoBulkEntry {H : Type} : Lit × DataW H → Nat
  | (.string bytes, d) => bytes.length + uptoBulk d + 1
  | (_, d) => uptoBulk d + 1
 end
def uptoSmall : (H : Type) → List (DataW H) → Bool := fun _ ds => decide (uptoBulkAll ds ≤ 1048576)
def OpenSpec.upto (s : _root_.Go.ChangeSpec) : _root_.Go.OpenSpec := { _root_.Go.OpenSpec.ofChange s with cond := some uptoSmall }

/-- 'timbrelaw23.CosineOne', WHERE WHAT IT READS IS OF BULK AT MOST 1048576: true; the input reads as it did. -/
def cosineOneUptoRow : OpenClaim := { program := "ytdgiiehbbmfgoaagreatdoor", sum := "37dc09ea371b3b5a9a495056732b9ac26cafa301bbcce77221230363ad1025da", func := "timbre/timbrelaw23.CosineOne", spec := "cosineOne", inPlace := ["math.Float64frombits", "math.Float64bits"], unfollowed := true, recurses := true, named := ["timbre/api.ErrLength", "timbre/api.ErrMode", "timbre/api.ErrRange", "timbre/api.ErrOrder", "internal/strconv.uint64pow10", "math/bits.deBruijn32tab", "math/bits.deBruijn64tab", "timbre/api.ErrProgram", "timbre/steps.table", "timbre/api.ErrDone", "timbre/api.ErrState"], apart := false, laid := [("math/bits.deBruijn32tab", laid_math_bits_deBruijn32tab), ("math/bits.deBruijn64tab", laid_math_bits_deBruijn64tab), ("internal/strconv.uint64pow10", laid_internal_strconv_uint64pow10), ("timbre/api.ErrRange", laid_timbre_api_ErrRange), ("timbre/api.ErrLength", laid_timbre_api_ErrLength), ("timbre/api.ErrOrder", laid_timbre_api_ErrOrder), ("timbre/api.ErrProgram", laid_timbre_api_ErrProgram), ("timbre/api.ErrState", laid_timbre_api_ErrState), ("timbre/api.ErrDone", laid_timbre_api_ErrDone), ("timbre/api.ErrMode", laid_timbre_api_ErrMode), ("timbre/steps.table", laid_timbre_steps_table)], narrowed := true }
def CosineOneUptoSaid : Prop := cosineOneUptoRow.holds Tryz.pinned (OpenSpec.upto cosineOneSpec)

/-- 'timbrelaw22.HalfWhole', WHERE WHAT IT READS IS OF BULK AT MOST 1048576: true; the input reads as it did. -/
def halfWholeUptoRow : OpenClaim := { program := "ytdgiiehbbmfgoaagreatdoor", sum := "37dc09ea371b3b5a9a495056732b9ac26cafa301bbcce77221230363ad1025da", func := "timbre/timbrelaw22.HalfWhole", spec := "halfWhole", inPlace := ["math.Float64frombits"], unfollowed := true, recurses := true, named := ["timbre/api.ErrLength", "timbre/api.ErrMode", "timbre/api.ErrRange", "timbre/api.ErrOrder", "internal/strconv.uint64pow10", "math/bits.deBruijn32tab", "math/bits.deBruijn64tab", "timbre/api.ErrProgram", "timbre/steps.table", "timbre/api.ErrDone", "timbre/api.ErrState"], apart := false, laid := [("math/bits.deBruijn32tab", laid_math_bits_deBruijn32tab), ("math/bits.deBruijn64tab", laid_math_bits_deBruijn64tab), ("internal/strconv.uint64pow10", laid_internal_strconv_uint64pow10), ("timbre/api.ErrRange", laid_timbre_api_ErrRange), ("timbre/api.ErrLength", laid_timbre_api_ErrLength), ("timbre/api.ErrOrder", laid_timbre_api_ErrOrder), ("timbre/api.ErrProgram", laid_timbre_api_ErrProgram), ("timbre/api.ErrState", laid_timbre_api_ErrState), ("timbre/api.ErrDone", laid_timbre_api_ErrDone), ("timbre/api.ErrMode", laid_timbre_api_ErrMode), ("timbre/steps.table", laid_timbre_steps_table)], narrowed := true }
def HalfWholeUptoSaid : Prop := halfWholeUptoRow.holds Tryz.pinned (OpenSpec.upto halfWholeSpec)

/-- 'timbrelaw24.GridExact', WHERE WHAT IT READS IS OF BULK AT MOST 1048576: true; the input reads as it did. -/
def gridExactUptoRow : OpenClaim := { program := "ytdgiiehbbmfgoaagreatdoor", sum := "37dc09ea371b3b5a9a495056732b9ac26cafa301bbcce77221230363ad1025da", func := "timbre/timbrelaw24.GridExact", spec := "gridExact", inPlace := ["math.Float64frombits", "math.Float64bits"], unfollowed := true, recurses := true, named := ["timbre/api.ErrLength", "timbre/api.ErrMode", "timbre/api.ErrRange", "timbre/api.ErrOrder", "internal/strconv.uint64pow10", "math/bits.deBruijn32tab", "math/bits.deBruijn64tab", "timbre/api.ErrProgram", "timbre/steps.table", "timbre/api.ErrDone", "timbre/api.ErrState"], apart := false, laid := [("math/bits.deBruijn32tab", laid_math_bits_deBruijn32tab), ("math/bits.deBruijn64tab", laid_math_bits_deBruijn64tab), ("internal/strconv.uint64pow10", laid_internal_strconv_uint64pow10), ("timbre/api.ErrRange", laid_timbre_api_ErrRange), ("timbre/api.ErrLength", laid_timbre_api_ErrLength), ("timbre/api.ErrOrder", laid_timbre_api_ErrOrder), ("timbre/api.ErrProgram", laid_timbre_api_ErrProgram), ("timbre/api.ErrState", laid_timbre_api_ErrState), ("timbre/api.ErrDone", laid_timbre_api_ErrDone), ("timbre/api.ErrMode", laid_timbre_api_ErrMode), ("timbre/steps.table", laid_timbre_steps_table)], narrowed := true }
def GridExactUptoSaid : Prop := gridExactUptoRow.holds Tryz.pinned (OpenSpec.upto gridExactSpec)

/-- 'timbrelaw25.RingWhole', WHERE WHAT IT READS IS OF BULK AT MOST 1048576: true; the input reads as it did. -/
def ringWholeUptoRow : OpenClaim := { program := "ytdgiiehbbmfgoaagreatdoor", sum := "37dc09ea371b3b5a9a495056732b9ac26cafa301bbcce77221230363ad1025da", func := "timbre/timbrelaw25.RingWhole", spec := "ringWhole", inPlace := ["math.Float64frombits"], unfollowed := true, recurses := true, named := ["timbre/api.ErrLength", "timbre/api.ErrMode", "timbre/api.ErrRange", "timbre/api.ErrOrder", "internal/strconv.uint64pow10", "math/bits.deBruijn32tab", "math/bits.deBruijn64tab", "timbre/api.ErrProgram", "timbre/steps.table", "timbre/api.ErrDone", "timbre/api.ErrState"], apart := false, laid := [("math/bits.deBruijn32tab", laid_math_bits_deBruijn32tab), ("math/bits.deBruijn64tab", laid_math_bits_deBruijn64tab), ("internal/strconv.uint64pow10", laid_internal_strconv_uint64pow10), ("timbre/api.ErrRange", laid_timbre_api_ErrRange), ("timbre/api.ErrLength", laid_timbre_api_ErrLength), ("timbre/api.ErrOrder", laid_timbre_api_ErrOrder), ("timbre/api.ErrProgram", laid_timbre_api_ErrProgram), ("timbre/api.ErrState", laid_timbre_api_ErrState), ("timbre/api.ErrDone", laid_timbre_api_ErrDone), ("timbre/api.ErrMode", laid_timbre_api_ErrMode), ("timbre/steps.table", laid_timbre_steps_table)], narrowed := true }
def RingWholeUptoSaid : Prop := ringWholeUptoRow.holds Tryz.pinned (OpenSpec.upto ringWholeSpec)

/-- 'timbrelaw28.StreamExact', WHERE WHAT IT READS IS OF BULK AT MOST 1048576: true; the input reads as it did. -/
def streamExactUptoRow : OpenClaim := { program := "ytdgiiehbbmfgoaagreatdoor", sum := "37dc09ea371b3b5a9a495056732b9ac26cafa301bbcce77221230363ad1025da", func := "timbre/timbrelaw28.StreamExact", spec := "streamExact", inPlace := ["math.Float64frombits"], unfollowed := true, recurses := true, named := ["timbre/api.ErrLength", "timbre/api.ErrMode", "timbre/api.ErrRange", "timbre/api.ErrOrder", "internal/strconv.uint64pow10", "math/bits.deBruijn32tab", "math/bits.deBruijn64tab", "timbre/api.ErrProgram", "timbre/steps.table", "timbre/api.ErrDone", "timbre/api.ErrState"], apart := false, laid := [("math/bits.deBruijn32tab", laid_math_bits_deBruijn32tab), ("math/bits.deBruijn64tab", laid_math_bits_deBruijn64tab), ("internal/strconv.uint64pow10", laid_internal_strconv_uint64pow10), ("timbre/api.ErrRange", laid_timbre_api_ErrRange), ("timbre/api.ErrLength", laid_timbre_api_ErrLength), ("timbre/api.ErrOrder", laid_timbre_api_ErrOrder), ("timbre/api.ErrProgram", laid_timbre_api_ErrProgram), ("timbre/api.ErrState", laid_timbre_api_ErrState), ("timbre/api.ErrDone", laid_timbre_api_ErrDone), ("timbre/api.ErrMode", laid_timbre_api_ErrMode), ("timbre/steps.table", laid_timbre_steps_table)], narrowed := true }
def StreamExactUptoSaid : Prop := streamExactUptoRow.holds Tryz.pinned (OpenSpec.upto streamExactSpec)

end Rows
end Go.Proofs.YtdgiiehbbmfgoaaGreatDoor
