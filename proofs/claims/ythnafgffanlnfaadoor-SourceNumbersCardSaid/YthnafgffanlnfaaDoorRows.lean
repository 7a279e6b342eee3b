/-
  NARROWER THAN 'FOR EVERY INPUT', by the rows' own cells (each row's printed sentence says how): AsmObjects: laid · SourceNumbers: laid · SourceChecks: laid · SourceBack: laid · SourceRoom: laid · SourceSizes: laid · ScriptAll: laid.
  DERIVED. THE GIVEN ROWS OF THIS SEAT. 7 by the template 'for every input the law returns true; each argument reads behind the call as it read before'; 0 by the template 'total and deterministic' (their statements: YthnafgffanlnfaaDoorTotals.lean).
  GIVEN WITH THE SEED: the statements are not yours to turn. If you find one false, say at which input.
  Laid BY PROGRAM, IN A SANDBOX (cutbox-rows.mjs): the forced cells as the released guide's own fill.sh prints them over the translation ad30c7eacbfe18f6… (all of the seat's roots in one cut). By AI agents, Wed Nov 11 2026. No macro, syntax, notation, axiom, sorry.
-/
import Derived.Test.YthnafgffanlnfaaDoorChecked
import GoSem.PinnedTables
import GoSem.Claim
import GoSem.ClaimJoined
import GoSem.ClaimMapViews
import Derived.JoinedTies
import Derived.KernelRfl
namespace Go.Proofs.YthnafgffanlnfaaDoor
/- THE CELL 'sum', in the pinned program and in every row, IS THE sha256 OF THE DUMP (.gsa) THAT YthnafgffanlnfaaDoorProg.lean LOADS. Nothing in Lean hashes anything: it is a label: what it is worth is what the hold of that sum in a sandbox is worth. -/
noncomputable def Tryd.pinned : Pinned := { name := "ythnafgffanlnfaadoor", sum := "ad30c7eacbfe18f6ae9f06204814b851dfddf9964e4df16a5277e0263f62f7aa", checked := Tryd.checked }
namespace Rows
def none {H : Type} : Left H := { results := [], args := [] }

/- WHAT THE LISTED PACKAGE-LEVEL VARIABLES READ AS WHEN THE CALL BEGINS. Each datum BY PROGRAM (the guide's laid-datum.mjs) off the statement by which the dump's own 'gosem.cut.vars' lays the variable. In a bare row this is a premise. The card (YthnafgffanlnfaaDoorCards.lean) ties it to the program's text. -/
def laid_unicode_utf8_acceptRanges {H : Type} : DataW H := .agg [.agg [.lit (.int .u8 128), .lit (.int .u8 191)], .agg [.lit (.int .u8 160), .lit (.int .u8 191)], .agg [.lit (.int .u8 128), .lit (.int .u8 159)], .agg [.lit (.int .u8 144), .lit (.int .u8 191)], .agg [.lit (.int .u8 128), .lit (.int .u8 143)], .agg [.lit (.int .u8 0), .lit (.int .u8 0)], .agg [.lit (.int .u8 0), .lit (.int .u8 0)], .agg [.lit (.int .u8 0), .lit (.int .u8 0)], .agg [.lit (.int .u8 0), .lit (.int .u8 0)], .agg [.lit (.int .u8 0), .lit (.int .u8 0)], .agg [.lit (.int .u8 0), .lit (.int .u8 0)], .agg [.lit (.int .u8 0), .lit (.int .u8 0)], .agg [.lit (.int .u8 0), .lit (.int .u8 0)], .agg [.lit (.int .u8 0), .lit (.int .u8 0)], .agg [.lit (.int .u8 0), .lit (.int .u8 0)], .agg [.lit (.int .u8 0), .lit (.int .u8 0)]]
def laid_vesper_code_rows {H : Type} : DataW H := .agg [.lit (.string []), .lit (.string [73, 78, 67]), .lit (.string [68, 69, 67]), .lit (.string []), .lit (.string [76, 68, 65]), .lit (.string [83, 84, 82]), .lit (.string []), .lit (.string []), .lit (.string [71, 76, 79]), .lit (.string [71, 72, 73]), .lit (.string [80, 76, 79]), .lit (.string [80, 72, 73]), .lit (.string []), .lit (.string [83, 69, 80]), .lit (.string [83, 69, 88]), .lit (.string [])]
def laid_vesper_code_threes {H : Type} : DataW H := .agg [.lit (.string [66, 82]), .lit (.string [66, 81]), .lit (.string [66, 90]), .lit (.string [66, 68, 70]), .lit (.string [66, 49]), .lit (.string [66, 50]), .lit (.string [66, 51]), .lit (.string [66, 52]), .lit (.string [83, 75, 80]), .lit (.string [66, 78, 81]), .lit (.string [66, 78, 90]), .lit (.string [66, 78, 70]), .lit (.string [66, 78, 49]), .lit (.string [66, 78, 50]), .lit (.string [66, 78, 51]), .lit (.string [66, 78, 52])]
def laid_vesper_code_sevens {H : Type} : DataW H := .agg [.lit (.string [82, 69, 84]), .lit (.string [68, 73, 83]), .lit (.string [76, 68, 88, 65]), .lit (.string [83, 84, 88, 68]), .lit (.string [65, 68, 67]), .lit (.string [83, 68, 66]), .lit (.string [83, 72, 82, 67]), .lit (.string [83, 77, 66]), .lit (.string [83, 65, 86]), .lit (.string [77, 65, 82, 75]), .lit (.string [82, 69, 81]), .lit (.string [83, 69, 81]), .lit (.string [65, 68, 67, 73]), .lit (.string [83, 68, 66, 73]), .lit (.string [83, 72, 76, 67]), .lit (.string [83, 77, 66, 73])]
def laid_vesper_code_twelves {H : Type} : DataW H := .agg [.lit (.string [76, 66, 82]), .lit (.string [76, 66, 81]), .lit (.string [76, 66, 90]), .lit (.string [76, 66, 68, 70]), .lit (.string [78, 79, 80]), .lit (.string [76, 83, 78, 81]), .lit (.string [76, 83, 78, 90]), .lit (.string [76, 83, 78, 70]), .lit (.string [76, 83, 75, 80]), .lit (.string [76, 66, 78, 81]), .lit (.string [76, 66, 78, 90]), .lit (.string [76, 66, 78, 70]), .lit (.string [76, 83, 73, 69]), .lit (.string [76, 83, 81]), .lit (.string [76, 83, 90]), .lit (.string [76, 83, 68, 70])]
def laid_vesper_code_fifteens {H : Type} : DataW H := .agg [.lit (.string [76, 68, 88]), .lit (.string [79, 82]), .lit (.string [65, 78, 68]), .lit (.string [88, 79, 82]), .lit (.string [65, 68, 68]), .lit (.string [83, 68]), .lit (.string [83, 72, 82]), .lit (.string [83, 77]), .lit (.string [76, 68, 73]), .lit (.string [79, 82, 73]), .lit (.string [65, 78, 73]), .lit (.string [88, 82, 73]), .lit (.string [65, 68, 73]), .lit (.string [83, 68, 73]), .lit (.string [83, 72, 76]), .lit (.string [83, 77, 73])]
def laid_vesper_code_lengths {H : Type} : DataW H := .agg [.lit (.int .i64 0), .lit (.int .i64 1), .lit (.int .i64 1), .lit (.int .i64 1), .lit (.int .i64 2), .lit (.int .i64 2), .lit (.int .i64 3)]
/-- One of Go's own tables, pinned by name: the form's constant. -/
def laid_unicode_utf8_first : DataW Unit := Go.Pinned.utf8First
def laid_vesper_code_digits {H : Type} : DataW H := .agg [.lit (.int .i64 0), .lit (.int .i64 0), .lit (.int .i64 1), .lit (.int .i64 1), .lit (.int .i64 2), .lit (.int .i64 2), .lit (.int .i64 4)]
def laid_math_bits_deBruijn32tab {H : Type} : DataW H := .agg [.lit (.int .u8 0), .lit (.int .u8 1), .lit (.int .u8 28), .lit (.int .u8 2), .lit (.int .u8 29), .lit (.int .u8 14), .lit (.int .u8 24), .lit (.int .u8 3), .lit (.int .u8 30), .lit (.int .u8 22), .lit (.int .u8 20), .lit (.int .u8 15), .lit (.int .u8 25), .lit (.int .u8 17), .lit (.int .u8 4), .lit (.int .u8 8), .lit (.int .u8 31), .lit (.int .u8 27), .lit (.int .u8 13), .lit (.int .u8 23), .lit (.int .u8 21), .lit (.int .u8 19), .lit (.int .u8 16), .lit (.int .u8 7), .lit (.int .u8 26), .lit (.int .u8 12), .lit (.int .u8 18), .lit (.int .u8 6), .lit (.int .u8 11), .lit (.int .u8 5), .lit (.int .u8 10), .lit (.int .u8 9)]
def laid_math_bits_deBruijn64tab {H : Type} : DataW H := .agg [.lit (.int .u8 0), .lit (.int .u8 1), .lit (.int .u8 56), .lit (.int .u8 2), .lit (.int .u8 57), .lit (.int .u8 49), .lit (.int .u8 28), .lit (.int .u8 3), .lit (.int .u8 61), .lit (.int .u8 58), .lit (.int .u8 42), .lit (.int .u8 50), .lit (.int .u8 38), .lit (.int .u8 29), .lit (.int .u8 17), .lit (.int .u8 4), .lit (.int .u8 62), .lit (.int .u8 47), .lit (.int .u8 59), .lit (.int .u8 36), .lit (.int .u8 45), .lit (.int .u8 43), .lit (.int .u8 51), .lit (.int .u8 22), .lit (.int .u8 53), .lit (.int .u8 39), .lit (.int .u8 33), .lit (.int .u8 30), .lit (.int .u8 24), .lit (.int .u8 18), .lit (.int .u8 12), .lit (.int .u8 5), .lit (.int .u8 63), .lit (.int .u8 55), .lit (.int .u8 48), .lit (.int .u8 27), .lit (.int .u8 60), .lit (.int .u8 41), .lit (.int .u8 37), .lit (.int .u8 16), .lit (.int .u8 46), .lit (.int .u8 35), .lit (.int .u8 44), .lit (.int .u8 21), .lit (.int .u8 52), .lit (.int .u8 32), .lit (.int .u8 23), .lit (.int .u8 11), .lit (.int .u8 54), .lit (.int .u8 26), .lit (.int .u8 40), .lit (.int .u8 15), .lit (.int .u8 34), .lit (.int .u8 20), .lit (.int .u8 31), .lit (.int .u8 10), .lit (.int .u8 25), .lit (.int .u8 14), .lit (.int .u8 19), .lit (.int .u8 9), .lit (.int .u8 13), .lit (.int .u8 8), .lit (.int .u8 7), .lit (.int .u8 6)]
def laid_internal_strconv_uint64pow10 {H : Type} : DataW H := .agg [.lit (.int .u64 1), .lit (.int .u64 10), .lit (.int .u64 100), .lit (.int .u64 1000), .lit (.int .u64 10000), .lit (.int .u64 100000), .lit (.int .u64 1000000), .lit (.int .u64 10000000), .lit (.int .u64 100000000), .lit (.int .u64 1000000000), .lit (.int .u64 10000000000), .lit (.int .u64 100000000000), .lit (.int .u64 1000000000000), .lit (.int .u64 10000000000000), .lit (.int .u64 100000000000000), .lit (.int .u64 1000000000000000), .lit (.int .u64 10000000000000000), .lit (.int .u64 100000000000000000), .lit (.int .u64 1000000000000000000), .lit (.int .u64 10000000000000000000)]
def laid_strconv_ErrRange {H : Type} : DataW H := .iface "*errors.errorString" (.ptr (.agg [.lit (.string [118, 97, 108, 117, 101, 32, 111, 117, 116, 32, 111, 102, 32, 114, 97, 110, 103, 101])]))
def laid_strconv_ErrSyntax {H : Type} : DataW H := .iface "*errors.errorString" (.ptr (.agg [.lit (.string [105, 110, 118, 97, 108, 105, 100, 32, 115, 121, 110, 116, 97, 120])]))

/-- 'vesperlaw14.AsmObjects': WHATEVER THE INPUT: true; the input reads as it did. -/
def asmObjectsSpec : ChangeSpec := { name := "asmObjects", fn := fun _ => fun
  | [d1, d2] => { results := [.lit (.bool true)], args := [d1, d2] }
  | _ => none }
def asmObjectsRow : OpenClaim := { program := "ythnafgffanlnfaadoor", sum := "ad30c7eacbfe18f6ae9f06204814b851dfddf9964e4df16a5277e0263f62f7aa", func := "vesper/vesperlaw14.AsmObjects", spec := "asmObjects", inPlace := ["internal/bytealg.IndexByteString", "internal/bytealg.IndexString", "internal/bytealg.abigen_runtime_cmpstring"], named := ["vesper/code.lengths", "vesper/code.threes", "vesper/code.sevens", "vesper/code.twelves", "vesper/code.fifteens", "vesper/code.rows", "internal/bytealg.MaxLen", "unicode/utf8.first", "unicode/utf8.acceptRanges"], apart := false, laid := [("unicode/utf8.acceptRanges", laid_unicode_utf8_acceptRanges), ("vesper/code.rows", laid_vesper_code_rows), ("vesper/code.threes", laid_vesper_code_threes), ("vesper/code.sevens", laid_vesper_code_sevens), ("vesper/code.twelves", laid_vesper_code_twelves), ("vesper/code.fifteens", laid_vesper_code_fifteens), ("vesper/code.lengths", laid_vesper_code_lengths), ("unicode/utf8.first", laid_unicode_utf8_first)] }
def AsmObjectsSaid : Prop := asmObjectsRow.holds Tryd.pinned (OpenSpec.ofChange asmObjectsSpec)

/-- ITS FALSE NEIGHBOUR: 'it returns false'. Refute it at one input. -/
def asmObjectsWrong : ChangeSpec := { name := "asmObjects", fn := fun _ => fun
  | [d1, d2] => { results := [.lit (.bool false)], args := [d1, d2] }
  | _ => none }
def AsmObjectsWrongFalsely : Prop := asmObjectsRow.holds Tryd.pinned (OpenSpec.ofChange asmObjectsWrong)

/-- 'vesperlaw13.SourceNumbers': WHATEVER THE INPUT: true; the input reads as it did. -/
def sourceNumbersSpec : ChangeSpec := { name := "sourceNumbers", fn := fun _ => fun
  | [] => { results := [.lit (.bool true)], args := [] }
  | _ => none }
def sourceNumbersRow : OpenClaim := { program := "ythnafgffanlnfaadoor", sum := "ad30c7eacbfe18f6ae9f06204814b851dfddf9964e4df16a5277e0263f62f7aa", func := "vesper/vesperlaw13.SourceNumbers", spec := "sourceNumbers", inPlace := ["internal/bytealg.IndexByteString", "internal/bytealg.IndexString", "internal/abi.NoEscape", "internal/bytealg.MakeNoZero"], unfollowed := true, recurses := true, named := ["vesper/code.threes", "vesper/code.sevens", "vesper/code.twelves", "vesper/code.fifteens", "vesper/code.rows", "vesper/code.lengths", "internal/bytealg.MaxLen", "unicode/utf8.first", "unicode/utf8.acceptRanges", "vesper/code.digits"], apart := false, laid := [("unicode/utf8.acceptRanges", laid_unicode_utf8_acceptRanges), ("vesper/code.rows", laid_vesper_code_rows), ("vesper/code.threes", laid_vesper_code_threes), ("vesper/code.sevens", laid_vesper_code_sevens), ("vesper/code.twelves", laid_vesper_code_twelves), ("vesper/code.fifteens", laid_vesper_code_fifteens), ("vesper/code.lengths", laid_vesper_code_lengths), ("vesper/code.digits", laid_vesper_code_digits), ("unicode/utf8.first", laid_unicode_utf8_first)] }
def SourceNumbersSaid : Prop := sourceNumbersRow.holds Tryd.pinned (OpenSpec.ofChange sourceNumbersSpec)

/-- ITS FALSE NEIGHBOUR: 'it returns false'. Refute it at one input. -/
def sourceNumbersWrong : ChangeSpec := { name := "sourceNumbers", fn := fun _ => fun
  | [] => { results := [.lit (.bool false)], args := [] }
  | _ => none }
def SourceNumbersWrongFalsely : Prop := sourceNumbersRow.holds Tryd.pinned (OpenSpec.ofChange sourceNumbersWrong)

/-- 'vesperlaw13.SourceChecks': WHATEVER THE INPUT: true; the input reads as it did. -/
def sourceChecksSpec : ChangeSpec := { name := "sourceChecks", fn := fun _ => fun
  | [d] => { results := [.lit (.bool true)], args := [d] }
  | _ => none }
def sourceChecksRow : OpenClaim := { program := "ythnafgffanlnfaadoor", sum := "ad30c7eacbfe18f6ae9f06204814b851dfddf9964e4df16a5277e0263f62f7aa", func := "vesper/vesperlaw13.SourceChecks", spec := "sourceChecks", inPlace := ["internal/bytealg.IndexByteString", "internal/bytealg.IndexString", "internal/abi.NoEscape", "internal/bytealg.MakeNoZero"], unfollowed := true, recurses := true, named := ["vesper/code.threes", "vesper/code.sevens", "vesper/code.twelves", "vesper/code.fifteens", "vesper/code.rows", "vesper/code.lengths", "internal/bytealg.MaxLen", "unicode/utf8.first", "unicode/utf8.acceptRanges", "vesper/code.digits"], apart := false, laid := [("unicode/utf8.acceptRanges", laid_unicode_utf8_acceptRanges), ("vesper/code.rows", laid_vesper_code_rows), ("vesper/code.threes", laid_vesper_code_threes), ("vesper/code.sevens", laid_vesper_code_sevens), ("vesper/code.twelves", laid_vesper_code_twelves), ("vesper/code.fifteens", laid_vesper_code_fifteens), ("vesper/code.lengths", laid_vesper_code_lengths), ("vesper/code.digits", laid_vesper_code_digits), ("unicode/utf8.first", laid_unicode_utf8_first)] }
def SourceChecksSaid : Prop := sourceChecksRow.holds Tryd.pinned (OpenSpec.ofChange sourceChecksSpec)

/-- ITS FALSE NEIGHBOUR: 'it returns false'. Refute it at one input. -/
def sourceChecksWrong : ChangeSpec := { name := "sourceChecks", fn := fun _ => fun
  | [d] => { results := [.lit (.bool false)], args := [d] }
  | _ => none }
def SourceChecksWrongFalsely : Prop := sourceChecksRow.holds Tryd.pinned (OpenSpec.ofChange sourceChecksWrong)

/-- 'vesperlaw13.SourceBack': WHATEVER THE INPUT: true; the input reads as it did. -/
def sourceBackSpec : ChangeSpec := { name := "sourceBack", fn := fun _ => fun
  | [d1, d2] => { results := [.lit (.bool true)], args := [d1, d2] }
  | _ => none }
def sourceBackRow : OpenClaim := { program := "ythnafgffanlnfaadoor", sum := "ad30c7eacbfe18f6ae9f06204814b851dfddf9964e4df16a5277e0263f62f7aa", func := "vesper/vesperlaw13.SourceBack", spec := "sourceBack", inPlace := ["internal/bytealg.IndexByteString", "internal/bytealg.IndexString", "internal/abi.NoEscape", "internal/bytealg.MakeNoZero"], unfollowed := true, recurses := true, named := ["vesper/code.threes", "vesper/code.sevens", "vesper/code.twelves", "vesper/code.fifteens", "vesper/code.rows", "vesper/code.lengths", "internal/bytealg.MaxLen", "unicode/utf8.first", "unicode/utf8.acceptRanges", "vesper/code.digits"], apart := false, laid := [("unicode/utf8.acceptRanges", laid_unicode_utf8_acceptRanges), ("vesper/code.rows", laid_vesper_code_rows), ("vesper/code.threes", laid_vesper_code_threes), ("vesper/code.sevens", laid_vesper_code_sevens), ("vesper/code.twelves", laid_vesper_code_twelves), ("vesper/code.fifteens", laid_vesper_code_fifteens), ("vesper/code.lengths", laid_vesper_code_lengths), ("vesper/code.digits", laid_vesper_code_digits), ("unicode/utf8.first", laid_unicode_utf8_first)] }
def SourceBackSaid : Prop := sourceBackRow.holds Tryd.pinned (OpenSpec.ofChange sourceBackSpec)

/-- ITS FALSE NEIGHBOUR: 'it returns false'. Refute it at one input. -/
def sourceBackWrong : ChangeSpec := { name := "sourceBack", fn := fun _ => fun
  | [d1, d2] => { results := [.lit (.bool false)], args := [d1, d2] }
  | _ => none }
def SourceBackWrongFalsely : Prop := sourceBackRow.holds Tryd.pinned (OpenSpec.ofChange sourceBackWrong)

/-- 'vesperlaw13.SourceRoom': WHATEVER THE INPUT: true; the input reads as it did. -/
def sourceRoomSpec : ChangeSpec := { name := "sourceRoom", fn := fun _ => fun
  | [d1, d2] => { results := [.lit (.bool true)], args := [d1, d2] }
  | _ => none }
def sourceRoomRow : OpenClaim := { program := "ythnafgffanlnfaadoor", sum := "ad30c7eacbfe18f6ae9f06204814b851dfddf9964e4df16a5277e0263f62f7aa", func := "vesper/vesperlaw13.SourceRoom", spec := "sourceRoom", inPlace := ["internal/bytealg.IndexByteString", "internal/bytealg.IndexString", "internal/abi.NoEscape", "internal/bytealg.MakeNoZero"], unfollowed := true, recurses := true, named := ["vesper/code.threes", "vesper/code.sevens", "vesper/code.twelves", "vesper/code.fifteens", "vesper/code.rows", "vesper/code.lengths", "internal/bytealg.MaxLen", "unicode/utf8.first", "unicode/utf8.acceptRanges", "vesper/code.digits"], apart := false, laid := [("unicode/utf8.acceptRanges", laid_unicode_utf8_acceptRanges), ("vesper/code.rows", laid_vesper_code_rows), ("vesper/code.threes", laid_vesper_code_threes), ("vesper/code.sevens", laid_vesper_code_sevens), ("vesper/code.twelves", laid_vesper_code_twelves), ("vesper/code.fifteens", laid_vesper_code_fifteens), ("vesper/code.lengths", laid_vesper_code_lengths), ("vesper/code.digits", laid_vesper_code_digits), ("unicode/utf8.first", laid_unicode_utf8_first)] }
def SourceRoomSaid : Prop := sourceRoomRow.holds Tryd.pinned (OpenSpec.ofChange sourceRoomSpec)

/-- ITS FALSE NEIGHBOUR: 'it returns false'. Refute it at one input. -/
def sourceRoomWrong : ChangeSpec := { name := "sourceRoom", fn := fun _ => fun
  | [d1, d2] => { results := [.lit (.bool false)], args := [d1, d2] }
  | _ => none }
def SourceRoomWrongFalsely : Prop := sourceRoomRow.holds Tryd.pinned (OpenSpec.ofChange sourceRoomWrong)

/-- 'vesperlaw13.SourceSizes': WHATEVER THE INPUT: true; the input reads as it did. -/
def sourceSizesSpec : ChangeSpec := { name := "sourceSizes", fn := fun _ => fun
  | [d] => { results := [.lit (.bool true)], args := [d] }
  | _ => none }
def sourceSizesRow : OpenClaim := { program := "ythnafgffanlnfaadoor", sum := "ad30c7eacbfe18f6ae9f06204814b851dfddf9964e4df16a5277e0263f62f7aa", func := "vesper/vesperlaw13.SourceSizes", spec := "sourceSizes", inPlace := ["internal/bytealg.IndexByteString", "internal/bytealg.IndexString", "internal/abi.NoEscape", "internal/bytealg.MakeNoZero"], unfollowed := true, recurses := true, named := ["vesper/code.threes", "vesper/code.sevens", "vesper/code.twelves", "vesper/code.fifteens", "vesper/code.rows", "vesper/code.lengths", "internal/bytealg.MaxLen", "unicode/utf8.first", "unicode/utf8.acceptRanges", "vesper/code.digits"], apart := false, laid := [("unicode/utf8.acceptRanges", laid_unicode_utf8_acceptRanges), ("vesper/code.rows", laid_vesper_code_rows), ("vesper/code.threes", laid_vesper_code_threes), ("vesper/code.sevens", laid_vesper_code_sevens), ("vesper/code.twelves", laid_vesper_code_twelves), ("vesper/code.fifteens", laid_vesper_code_fifteens), ("vesper/code.lengths", laid_vesper_code_lengths), ("vesper/code.digits", laid_vesper_code_digits), ("unicode/utf8.first", laid_unicode_utf8_first)] }
def SourceSizesSaid : Prop := sourceSizesRow.holds Tryd.pinned (OpenSpec.ofChange sourceSizesSpec)

/-- ITS FALSE NEIGHBOUR: 'it returns false'. Refute it at one input. -/
def sourceSizesWrong : ChangeSpec := { name := "sourceSizes", fn := fun _ => fun
  | [d] => { results := [.lit (.bool false)], args := [d] }
  | _ => none }
def SourceSizesWrongFalsely : Prop := sourceSizesRow.holds Tryd.pinned (OpenSpec.ofChange sourceSizesWrong)

/-- 'vesperlaw07.ScriptAll': WHATEVER THE INPUT: true; the input reads as it did. -/
def scriptAllSpec : ChangeSpec := { name := "scriptAll", fn := fun _ => fun
  | [d1, d2, d3] => { results := [.lit (.bool true)], args := [d1, d2, d3] }
  | _ => none }
def scriptAllRow : OpenClaim := { program := "ythnafgffanlnfaadoor", sum := "ad30c7eacbfe18f6ae9f06204814b851dfddf9964e4df16a5277e0263f62f7aa", func := "vesper/vesperlaw07.ScriptAll", spec := "scriptAll", inPlace := ["internal/abi.NoEscape", "internal/bytealg.CountString", "internal/bytealg.IndexByteString", "internal/bytealg.IndexString"], unfollowed := true, recurses := true, named := ["internal/strconv.uint64pow10", "math/bits.deBruijn32tab", "math/bits.deBruijn64tab", "internal/bytealg.MaxLen", "unicode/utf8.first", "unicode/utf8.acceptRanges", "strconv.ErrSyntax", "strconv.ErrRange"], apart := false, laid := [("math/bits.deBruijn32tab", laid_math_bits_deBruijn32tab), ("math/bits.deBruijn64tab", laid_math_bits_deBruijn64tab), ("internal/strconv.uint64pow10", laid_internal_strconv_uint64pow10), ("unicode/utf8.acceptRanges", laid_unicode_utf8_acceptRanges), ("strconv.ErrRange", laid_strconv_ErrRange), ("strconv.ErrSyntax", laid_strconv_ErrSyntax), ("unicode/utf8.first", laid_unicode_utf8_first)] }
def ScriptAllSaid : Prop := scriptAllRow.holds Tryd.pinned (OpenSpec.ofChange scriptAllSpec)

/-- ITS FALSE NEIGHBOUR: 'it returns false'. Refute it at one input. -/
def scriptAllWrong : ChangeSpec := { name := "scriptAll", fn := fun _ => fun
  | [d1, d2, d3] => { results := [.lit (.bool false)], args := [d1, d2, d3] }
  | _ => none }
def ScriptAllWrongFalsely : Prop := scriptAllRow.holds Tryd.pinned (OpenSpec.ofChange scriptAllWrong)

/- THE SECOND FORM. 'bulk': how many values and letters a reading holds, each counted each time it is reached (what is shared counts as often as it is met; a slice's spare places count too). A statement '..UptoSaid' is the law's where the arguments, and the package variables that the reading takes, are together of bulk at most 1048576: NARROWER than '..Said'. Prove '..Said' where nothing that the law and all that it calls make is longer than what came in: it says more and counts as full. Else prove '..UptoSaid'. A law counts once. -/
mutual
def uptoBulk {H : Type} : DataW H → Nat
  | .lit (.string bytes) => bytes.length + 1
  | .lit _ => 1
  | .nil => 1
  | .ptr d => uptoBulk d + 1
  | .slice elems spare => uptoBulkAll elems + uptoBulkAll spare + 1
  | .agg parts => uptoBulkAll parts + 1
  | .iface _ d => uptoBulk d + 1
  | .map entries => uptoBulkEntries entries + 1
  | .held _ => 1
def uptoBulkAll {H : Type} : List (DataW H) → Nat
  | [] => 0
  | d :: r => uptoBulk d + uptoBulkAll r
def uptoBulkEntries {H : Type} : List (Lit × DataW H) → Nat
  | [] => 0
  | x :: r => uptoBulkEntry x + uptoBulkEntries r
def uptoBulkEntry {H : Type} : Lit × DataW H → Nat
  | (.string bytes, d) => bytes.length + uptoBulk d + 1
  | (_, d) => uptoBulk d + 1
 end
def uptoSmall : (H : Type) → List (DataW H) → Bool := fun _ ds => decide (uptoBulkAll ds ≤ 1048576)
def OpenSpec.upto (s : _root_.Go.ChangeSpec) : _root_.Go.OpenSpec := { _root_.Go.OpenSpec.ofChange s with cond := some uptoSmall }

/-- 'vesperlaw14.AsmObjects', WHERE WHAT IT READS IS OF BULK AT MOST 1048576: true; the input reads as it did. -/
def asmObjectsUptoRow : OpenClaim := { program := "ythnafgffanlnfaadoor", sum := "ad30c7eacbfe18f6ae9f06204814b851dfddf9964e4df16a5277e0263f62f7aa", func := "vesper/vesperlaw14.AsmObjects", spec := "asmObjects", inPlace := ["internal/bytealg.IndexByteString", "internal/bytealg.IndexString", "internal/bytealg.abigen_runtime_cmpstring"], named := ["vesper/code.lengths", "vesper/code.threes", "vesper/code.sevens", "vesper/code.twelves", "vesper/code.fifteens", "vesper/code.rows", "internal/bytealg.MaxLen", "unicode/utf8.first", "unicode/utf8.acceptRanges"], apart := false, laid := [("unicode/utf8.acceptRanges", laid_unicode_utf8_acceptRanges), ("vesper/code.rows", laid_vesper_code_rows), ("vesper/code.threes", laid_vesper_code_threes), ("vesper/code.sevens", laid_vesper_code_sevens), ("vesper/code.twelves", laid_vesper_code_twelves), ("vesper/code.fifteens", laid_vesper_code_fifteens), ("vesper/code.lengths", laid_vesper_code_lengths), ("unicode/utf8.first", laid_unicode_utf8_first)], narrowed := true }
def AsmObjectsUptoSaid : Prop := asmObjectsUptoRow.holds Tryd.pinned (OpenSpec.upto asmObjectsSpec)

/-- 'vesperlaw13.SourceNumbers', WHERE WHAT IT READS IS OF BULK AT MOST 1048576: true; the input reads as it did. -/
def sourceNumbersUptoRow : OpenClaim := { program := "ythnafgffanlnfaadoor", sum := "ad30c7eacbfe18f6ae9f06204814b851dfddf9964e4df16a5277e0263f62f7aa", func := "vesper/vesperlaw13.SourceNumbers", spec := "sourceNumbers", inPlace := ["internal/bytealg.IndexByteString", "internal/bytealg.IndexString", "internal/abi.NoEscape", "internal/bytealg.MakeNoZero"], unfollowed := true, recurses := true, named := ["vesper/code.threes", "vesper/code.sevens", "vesper/code.twelves", "vesper/code.fifteens", "vesper/code.rows", "vesper/code.lengths", "internal/bytealg.MaxLen", "unicode/utf8.first", "unicode/utf8.acceptRanges", "vesper/code.digits"], apart := false, laid := [("unicode/utf8.acceptRanges", laid_unicode_utf8_acceptRanges), ("vesper/code.rows", laid_vesper_code_rows), ("vesper/code.threes", laid_vesper_code_threes), ("vesper/code.sevens", laid_vesper_code_sevens), ("vesper/code.twelves", laid_vesper_code_twelves), ("vesper/code.fifteens", laid_vesper_code_fifteens), ("vesper/code.lengths", laid_vesper_code_lengths), ("vesper/code.digits", laid_vesper_code_digits), ("unicode/utf8.first", laid_unicode_utf8_first)], narrowed := true }
def SourceNumbersUptoSaid : Prop := sourceNumbersUptoRow.holds Tryd.pinned (OpenSpec.upto sourceNumbersSpec)

/-- 'vesperlaw13.SourceChecks', WHERE WHAT IT READS IS OF BULK AT MOST 1048576: true; the input reads as it did. -/
def sourceChecksUptoRow : OpenClaim := { program := "ythnafgffanlnfaadoor", sum := "ad30c7eacbfe18f6ae9f06204814b851dfddf9964e4df16a5277e0263f62f7aa", func := "vesper/vesperlaw13.SourceChecks", spec := "sourceChecks", inPlace := ["internal/bytealg.IndexByteString", "internal/bytealg.IndexString", "internal/abi.NoEscape", "internal/bytealg.MakeNoZero"], unfollowed := true, recurses := true, named := ["vesper/code.threes", "vesper/code.sevens", "vesper/code.twelves", "vesper/code.fifteens", "vesper/code.rows", "vesper/code.lengths", "internal/bytealg.MaxLen", "unicode/utf8.first", "unicode/utf8.acceptRanges", "vesper/code.digits"], apart := false, laid := [("unicode/utf8.acceptRanges", laid_unicode_utf8_acceptRanges), ("vesper/code.rows", laid_vesper_code_rows), ("vesper/code.threes", laid_vesper_code_threes), ("vesper/code.sevens", laid_vesper_code_sevens), ("vesper/code.twelves", laid_vesper_code_twelves), ("vesper/code.fifteens", laid_vesper_code_fifteens), ("vesper/code.lengths", laid_vesper_code_lengths), ("vesper/code.digits", laid_vesper_code_digits), ("unicode/utf8.first", laid_unicode_utf8_first)], narrowed := true }
def SourceChecksUptoSaid : Prop := sourceChecksUptoRow.holds Tryd.pinned (OpenSpec.upto sourceChecksSpec)

/-- 'vesperlaw13.SourceBack', WHERE WHAT IT READS IS OF BULK AT MOST 1048576: true; the input reads as it did. -/
def sourceBackUptoRow : OpenClaim := { program := "ythnafgffanlnfaadoor", sum := "ad30c7eacbfe18f6ae9f06204814b851dfddf9964e4df16a5277e0263f62f7aa", func := "vesper/vesperlaw13.SourceBack", spec := "sourceBack", inPlace := ["internal/bytealg.IndexByteString", "internal/bytealg.IndexString", "internal/abi.NoEscape", "internal/bytealg.MakeNoZero"], unfollowed := true, recurses := true, named := ["vesper/code.threes", "vesper/code.sevens", "vesper/code.twelves", "vesper/code.fifteens", "vesper/code.rows", "vesper/code.lengths", "internal/bytealg.MaxLen", "unicode/utf8.first", "unicode/utf8.acceptRanges", "vesper/code.digits"], apart := false, laid := [("unicode/utf8.acceptRanges", laid_unicode_utf8_acceptRanges), ("vesper/code.rows", laid_vesper_code_rows), ("vesper/code.threes", laid_vesper_code_threes), ("vesper/code.sevens", laid_vesper_code_sevens), ("vesper/code.twelves", laid_vesper_code_twelves), ("vesper/code.fifteens", laid_vesper_code_fifteens), ("vesper/code.lengths", laid_vesper_code_lengths), ("vesper/code.digits", laid_vesper_code_digits), ("unicode/utf8.first", laid_unicode_utf8_first)], narrowed := true }
def SourceBackUptoSaid : Prop := sourceBackUptoRow.holds Tryd.pinned (OpenSpec.upto sourceBackSpec)

/-- 'vesperlaw13.SourceRoom', WHERE WHAT IT READS IS OF BULK AT MOST 1048576: true; the input reads as it did. -/
def sourceRoomUptoRow : OpenClaim := { program := "ythnafgffanlnfaadoor", sum := "ad30c7eacbfe18f6ae9f06204814b851dfddf9964e4df16a5277e0263f62f7aa", func := "vesper/vesperlaw13.SourceRoom", spec := "sourceRoom", inPlace := ["internal/bytealg.IndexByteString", "internal/bytealg.IndexString", "internal/abi.NoEscape", "internal/bytealg.MakeNoZero"], unfollowed := true, recurses := true, named := ["vesper/code.threes", "vesper/code.sevens", "vesper/code.twelves", "vesper/code.fifteens", "vesper/code.rows", "vesper/code.lengths", "internal/bytealg.MaxLen", "unicode/utf8.first", "unicode/utf8.acceptRanges", "vesper/code.digits"], apart := false, laid := [("unicode/utf8.acceptRanges", laid_unicode_utf8_acceptRanges), ("vesper/code.rows", laid_vesper_code_rows), ("vesper/code.threes", laid_vesper_code_threes), ("vesper/code.sevens", laid_vesper_code_sevens), ("vesper/code.twelves", laid_vesper_code_twelves), ("vesper/code.fifteens", laid_vesper_code_fifteens), ("vesper/code.lengths", laid_vesper_code_lengths), ("vesper/code.digits", laid_vesper_code_digits), ("unicode/utf8.first", laid_unicode_utf8_first)], narrowed := true }
def SourceRoomUptoSaid : Prop := sourceRoomUptoRow.holds Tryd.pinned (OpenSpec.upto sourceRoomSpec)

/-- 'vesperlaw13.SourceSizes', WHERE WHAT IT READS IS OF BULK AT MOST 1048576: true; the input reads as it did. -/
def sourceSizesUptoRow : OpenClaim := { program := "ythnafgffanlnfaadoor", sum := "ad30c7eacbfe18f6ae9f06204814b851dfddf9964e4df16a5277e0263f62f7aa", func := "vesper/vesperlaw13.SourceSizes", spec := "sourceSizes", inPlace := ["internal/bytealg.IndexByteString", "internal/bytealg.IndexString", "internal/abi.NoEscape", "internal/bytealg.MakeNoZero"], unfollowed := true, recurses := true, named := ["vesper/code.threes", "vesper/code.sevens", "vesper/code.twelves", "vesper/code.fifteens", "vesper/code.rows", "vesper/code.lengths", "internal/bytealg.MaxLen", "unicode/utf8.first", "unicode/utf8.acceptRanges", "vesper/code.digits"], apart := false, laid := [("unicode/utf8.acceptRanges", laid_unicode_utf8_acceptRanges), ("vesper/code.rows", laid_vesper_code_rows), ("vesper/code.threes", laid_vesper_code_threes), ("vesper/code.sevens", laid_vesper_code_sevens), ("vesper/code.twelves", laid_vesper_code_twelves), ("vesper/code.fifteens", laid_vesper_code_fifteens), ("vesper/code.lengths", laid_vesper_code_lengths), ("vesper/code.digits", laid_vesper_code_digits), ("unicode/utf8.first", laid_unicode_utf8_first)], narrowed := true }
def SourceSizesUptoSaid : Prop := sourceSizesUptoRow.holds Tryd.pinned (OpenSpec.upto sourceSizesSpec)

/-- 'vesperlaw07.ScriptAll', WHERE WHAT IT READS IS OF BULK AT MOST 1048576: true; the input reads as it did. -/
def scriptAllUptoRow : OpenClaim := { program := "ythnafgffanlnfaadoor", sum := "ad30c7eacbfe18f6ae9f06204814b851dfddf9964e4df16a5277e0263f62f7aa", func := "vesper/vesperlaw07.ScriptAll", spec := "scriptAll", inPlace := ["internal/abi.NoEscape", "internal/bytealg.CountString", "internal/bytealg.IndexByteString", "internal/bytealg.IndexString"], unfollowed := true, recurses := true, named := ["internal/strconv.uint64pow10", "math/bits.deBruijn32tab", "math/bits.deBruijn64tab", "internal/bytealg.MaxLen", "unicode/utf8.first", "unicode/utf8.acceptRanges", "strconv.ErrSyntax", "strconv.ErrRange"], apart := false, laid := [("math/bits.deBruijn32tab", laid_math_bits_deBruijn32tab), ("math/bits.deBruijn64tab", laid_math_bits_deBruijn64tab), ("internal/strconv.uint64pow10", laid_internal_strconv_uint64pow10), ("unicode/utf8.acceptRanges", laid_unicode_utf8_acceptRanges), ("strconv.ErrRange", laid_strconv_ErrRange), ("strconv.ErrSyntax", laid_strconv_ErrSyntax), ("unicode/utf8.first", laid_unicode_utf8_first)], narrowed := true }
def ScriptAllUptoSaid : Prop := scriptAllUptoRow.holds Tryd.pinned (OpenSpec.upto scriptAllSpec)

end Rows
end Go.Proofs.YthnafgffanlnfaaDoor
