/-
  NARROWER THAN 'FOR EVERY INPUT', by the rows' own cells (each row's printed sentence says how): DigitValues: laid · DigitParses: laid · DigitShows: laid · DigitBack: laid · DigitLiterals: laid · DigitRights: laid.
  DERIVED. THE GIVEN ROWS OF THIS SEAT. 6 by the template 'for every input the law returns true; each argument reads behind the call as it read before'; 0 by the template 'total and deterministic' (their statements: YthlpdjnfcjpbpaaDoorTotals.lean).
  GIVEN WITH THE SEED: the statements are not yours to turn. If you find one false, say at which input.
  Laid BY PROGRAM, IN A SANDBOX (cutbox-rows.mjs): the forced cells as the released guide's own fill.sh prints them over the translation 9b541f1809d68cd3… (all of the seat's roots in one cut). By AI agents, Wed Nov 11 2026. No macro, syntax, notation, axiom, sorry.
-/
import Derived.Test.YthlpdjnfcjpbpaaDoorChecked
import GoSem.Claim
import GoSem.ClaimJoined
import GoSem.ClaimMapViews
import Derived.JoinedTies
import Derived.KernelRfl
namespace Go.Proofs.YthlpdjnfcjpbpaaDoor
/- THE CELL 'sum', in the pinned program and in every row, IS THE sha256 OF THE DUMP (.gsa) THAT YthlpdjnfcjpbpaaDoorProg.lean LOADS. Nothing in Lean hashes anything: it is a label: what it is worth is what the hold of that sum in a sandbox is worth. -/
noncomputable def Tryd.pinned : Pinned := { name := "ythlpdjnfcjpbpaadoor", sum := "9b541f1809d68cd3217470583dd37bdc1a073327c76f633de1aebdfabd3fdbe0", checked := Tryd.checked }
namespace Rows
def none {H : Type} : Left H := { results := [], args := [] }

/- WHAT THE LISTED PACKAGE-LEVEL VARIABLES READ AS WHEN THE CALL BEGINS. Each datum BY PROGRAM (the guide's laid-datum.mjs) off the statement by which the dump's own 'gosem.cut.vars' lays the variable. In a bare row this is a premise. The card (YthlpdjnfcjpbpaaDoorCards.lean) ties it to the program's text. -/
def laid_math_bits_deBruijn32tab {H : Type} : DataW H := .agg [.lit (.int .u8 0), .lit (.int .u8 1), .lit (.int .u8 28), .lit (.int .u8 2), .lit (.int .u8 29), .lit (.int .u8 14), .lit (.int .u8 24), .lit (.int .u8 3), .lit (.int .u8 30), .lit (.int .u8 22), .lit (.int .u8 20), .lit (.int .u8 15), .lit (.int .u8 25), .lit (.int .u8 17), .lit (.int .u8 4), .lit (.int .u8 8), .lit (.int .u8 31), .lit (.int .u8 27), .lit (.int .u8 13), .lit (.int .u8 23), .lit (.int .u8 21), .lit (.int .u8 19), .lit (.int .u8 16), .lit (.int .u8 7), .lit (.int .u8 26), .lit (.int .u8 12), .lit (.int .u8 18), .lit (.int .u8 6), .lit (.int .u8 11), .lit (.int .u8 5), .lit (.int .u8 10), .lit (.int .u8 9)]
def laid_math_bits_deBruijn64tab {H : Type} : DataW H := .agg [.lit (.int .u8 0), .lit (.int .u8 1), .lit (.int .u8 56), .lit (.int .u8 2), .lit (.int .u8 57), .lit (.int .u8 49), .lit (.int .u8 28), .lit (.int .u8 3), .lit (.int .u8 61), .lit (.int .u8 58), .lit (.int .u8 42), .lit (.int .u8 50), .lit (.int .u8 38), .lit (.int .u8 29), .lit (.int .u8 17), .lit (.int .u8 4), .lit (.int .u8 62), .lit (.int .u8 47), .lit (.int .u8 59), .lit (.int .u8 36), .lit (.int .u8 45), .lit (.int .u8 43), .lit (.int .u8 51), .lit (.int .u8 22), .lit (.int .u8 53), .lit (.int .u8 39), .lit (.int .u8 33), .lit (.int .u8 30), .lit (.int .u8 24), .lit (.int .u8 18), .lit (.int .u8 12), .lit (.int .u8 5), .lit (.int .u8 63), .lit (.int .u8 55), .lit (.int .u8 48), .lit (.int .u8 27), .lit (.int .u8 60), .lit (.int .u8 41), .lit (.int .u8 37), .lit (.int .u8 16), .lit (.int .u8 46), .lit (.int .u8 35), .lit (.int .u8 44), .lit (.int .u8 21), .lit (.int .u8 52), .lit (.int .u8 32), .lit (.int .u8 23), .lit (.int .u8 11), .lit (.int .u8 54), .lit (.int .u8 26), .lit (.int .u8 40), .lit (.int .u8 15), .lit (.int .u8 34), .lit (.int .u8 20), .lit (.int .u8 31), .lit (.int .u8 10), .lit (.int .u8 25), .lit (.int .u8 14), .lit (.int .u8 19), .lit (.int .u8 9), .lit (.int .u8 13), .lit (.int .u8 8), .lit (.int .u8 7), .lit (.int .u8 6)]
def laid_internal_strconv_uint64pow10 {H : Type} : DataW H := .agg [.lit (.int .u64 1), .lit (.int .u64 10), .lit (.int .u64 100), .lit (.int .u64 1000), .lit (.int .u64 10000), .lit (.int .u64 100000), .lit (.int .u64 1000000), .lit (.int .u64 10000000), .lit (.int .u64 100000000), .lit (.int .u64 1000000000), .lit (.int .u64 10000000000), .lit (.int .u64 100000000000), .lit (.int .u64 1000000000000), .lit (.int .u64 10000000000000), .lit (.int .u64 100000000000000), .lit (.int .u64 1000000000000000), .lit (.int .u64 10000000000000000), .lit (.int .u64 100000000000000000), .lit (.int .u64 1000000000000000000), .lit (.int .u64 10000000000000000000)]

/-- 'tinderlaw02.DigitValues': WHATEVER THE INPUT: true; the input reads as it did. -/
def digitValuesSpec : ChangeSpec := { name := "digitValues", fn := fun _ => fun
  | [d1, d2] => { results := [.lit (.bool true)], args := [d1, d2] }
  | _ => none }
def digitValuesRow : OpenClaim := { program := "ythlpdjnfcjpbpaadoor", sum := "9b541f1809d68cd3217470583dd37bdc1a073327c76f633de1aebdfabd3fdbe0", func := "tinder/tinderlaw02.DigitValues", spec := "digitValues", named := ["internal/strconv.uint64pow10", "math/bits.deBruijn32tab", "math/bits.deBruijn64tab"], apart := false, laid := [("math/bits.deBruijn32tab", laid_math_bits_deBruijn32tab), ("math/bits.deBruijn64tab", laid_math_bits_deBruijn64tab), ("internal/strconv.uint64pow10", laid_internal_strconv_uint64pow10)] }
def DigitValuesSaid : Prop := digitValuesRow.holds Tryd.pinned (OpenSpec.ofChange digitValuesSpec)

/-- ITS FALSE NEIGHBOUR: 'it returns false'. Refute it at one input. -/
def digitValuesWrong : ChangeSpec := { name := "digitValues", fn := fun _ => fun
  | [d1, d2] => { results := [.lit (.bool false)], args := [d1, d2] }
  | _ => none }
def DigitValuesWrongFalsely : Prop := digitValuesRow.holds Tryd.pinned (OpenSpec.ofChange digitValuesWrong)

/-- 'tinderlaw02.DigitParses': WHATEVER THE INPUT: true; the input reads as it did. -/
def digitParsesSpec : ChangeSpec := { name := "digitParses", fn := fun _ => fun
  | [d1, d2] => { results := [.lit (.bool true)], args := [d1, d2] }
  | _ => none }
def digitParsesRow : OpenClaim := { program := "ythlpdjnfcjpbpaadoor", sum := "9b541f1809d68cd3217470583dd37bdc1a073327c76f633de1aebdfabd3fdbe0", func := "tinder/tinderlaw02.DigitParses", spec := "digitParses", named := ["internal/strconv.uint64pow10", "math/bits.deBruijn32tab", "math/bits.deBruijn64tab"], apart := false, laid := [("math/bits.deBruijn32tab", laid_math_bits_deBruijn32tab), ("math/bits.deBruijn64tab", laid_math_bits_deBruijn64tab), ("internal/strconv.uint64pow10", laid_internal_strconv_uint64pow10)] }
def DigitParsesSaid : Prop := digitParsesRow.holds Tryd.pinned (OpenSpec.ofChange digitParsesSpec)

/-- ITS FALSE NEIGHBOUR: 'it returns false'. Refute it at one input. -/
def digitParsesWrong : ChangeSpec := { name := "digitParses", fn := fun _ => fun
  | [d1, d2] => { results := [.lit (.bool false)], args := [d1, d2] }
  | _ => none }
def DigitParsesWrongFalsely : Prop := digitParsesRow.holds Tryd.pinned (OpenSpec.ofChange digitParsesWrong)

/-- 'tinderlaw02.DigitShows': WHATEVER THE INPUT: true; the input reads as it did. -/
def digitShowsSpec : ChangeSpec := { name := "digitShows", fn := fun _ => fun
  | [d1, d2] => { results := [.lit (.bool true)], args := [d1, d2] }
  | _ => none }
def digitShowsRow : OpenClaim := { program := "ythlpdjnfcjpbpaadoor", sum := "9b541f1809d68cd3217470583dd37bdc1a073327c76f633de1aebdfabd3fdbe0", func := "tinder/tinderlaw02.DigitShows", spec := "digitShows", named := ["internal/strconv.uint64pow10", "math/bits.deBruijn32tab", "math/bits.deBruijn64tab"], apart := false, laid := [("math/bits.deBruijn32tab", laid_math_bits_deBruijn32tab), ("math/bits.deBruijn64tab", laid_math_bits_deBruijn64tab), ("internal/strconv.uint64pow10", laid_internal_strconv_uint64pow10)] }
def DigitShowsSaid : Prop := digitShowsRow.holds Tryd.pinned (OpenSpec.ofChange digitShowsSpec)

/-- ITS FALSE NEIGHBOUR: 'it returns false'. Refute it at one input. -/
def digitShowsWrong : ChangeSpec := { name := "digitShows", fn := fun _ => fun
  | [d1, d2] => { results := [.lit (.bool false)], args := [d1, d2] }
  | _ => none }
def DigitShowsWrongFalsely : Prop := digitShowsRow.holds Tryd.pinned (OpenSpec.ofChange digitShowsWrong)

/-- 'tinderlaw02.DigitBack': WHATEVER THE INPUT: true; the input reads as it did. -/
def digitBackSpec : ChangeSpec := { name := "digitBack", fn := fun _ => fun
  | [d1, d2, d3] => { results := [.lit (.bool true)], args := [d1, d2, d3] }
  | _ => none }
def digitBackRow : OpenClaim := { program := "ythlpdjnfcjpbpaadoor", sum := "9b541f1809d68cd3217470583dd37bdc1a073327c76f633de1aebdfabd3fdbe0", func := "tinder/tinderlaw02.DigitBack", spec := "digitBack", named := ["internal/strconv.uint64pow10", "math/bits.deBruijn32tab", "math/bits.deBruijn64tab"], apart := false, laid := [("math/bits.deBruijn32tab", laid_math_bits_deBruijn32tab), ("math/bits.deBruijn64tab", laid_math_bits_deBruijn64tab), ("internal/strconv.uint64pow10", laid_internal_strconv_uint64pow10)] }
def DigitBackSaid : Prop := digitBackRow.holds Tryd.pinned (OpenSpec.ofChange digitBackSpec)

/-- ITS FALSE NEIGHBOUR: 'it returns false'. Refute it at one input. -/
def digitBackWrong : ChangeSpec := { name := "digitBack", fn := fun _ => fun
  | [d1, d2, d3] => { results := [.lit (.bool false)], args := [d1, d2, d3] }
  | _ => none }
def DigitBackWrongFalsely : Prop := digitBackRow.holds Tryd.pinned (OpenSpec.ofChange digitBackWrong)

/-- 'tinderlaw02.DigitLiterals': WHATEVER THE INPUT: true; the input reads as it did. -/
def digitLiteralsSpec : ChangeSpec := { name := "digitLiterals", fn := fun _ => fun
  | [d] => { results := [.lit (.bool true)], args := [d] }
  | _ => none }
def digitLiteralsRow : OpenClaim := { program := "ythlpdjnfcjpbpaadoor", sum := "9b541f1809d68cd3217470583dd37bdc1a073327c76f633de1aebdfabd3fdbe0", func := "tinder/tinderlaw02.DigitLiterals", spec := "digitLiterals", named := ["internal/strconv.uint64pow10", "math/bits.deBruijn32tab", "math/bits.deBruijn64tab"], apart := false, laid := [("math/bits.deBruijn32tab", laid_math_bits_deBruijn32tab), ("math/bits.deBruijn64tab", laid_math_bits_deBruijn64tab), ("internal/strconv.uint64pow10", laid_internal_strconv_uint64pow10)] }
def DigitLiteralsSaid : Prop := digitLiteralsRow.holds Tryd.pinned (OpenSpec.ofChange digitLiteralsSpec)

/-- ITS FALSE NEIGHBOUR: 'it returns false'. Refute it at one input. -/
def digitLiteralsWrong : ChangeSpec := { name := "digitLiterals", fn := fun _ => fun
  | [d] => { results := [.lit (.bool false)], args := [d] }
  | _ => none }
def DigitLiteralsWrongFalsely : Prop := digitLiteralsRow.holds Tryd.pinned (OpenSpec.ofChange digitLiteralsWrong)

/-- 'tinderlaw02.DigitRights': WHATEVER THE INPUT: true; the input reads as it did. -/
def digitRightsSpec : ChangeSpec := { name := "digitRights", fn := fun _ => fun
  | [d1, d2] => { results := [.lit (.bool true)], args := [d1, d2] }
  | _ => none }
def digitRightsRow : OpenClaim := { program := "ythlpdjnfcjpbpaadoor", sum := "9b541f1809d68cd3217470583dd37bdc1a073327c76f633de1aebdfabd3fdbe0", func := "tinder/tinderlaw02.DigitRights", spec := "digitRights", inPlace := ["internal/abi.NoEscape", "internal/bytealg.MakeNoZero"], named := ["internal/strconv.uint64pow10", "math/bits.deBruijn32tab", "math/bits.deBruijn64tab"], apart := false, laid := [("math/bits.deBruijn32tab", laid_math_bits_deBruijn32tab), ("math/bits.deBruijn64tab", laid_math_bits_deBruijn64tab), ("internal/strconv.uint64pow10", laid_internal_strconv_uint64pow10)] }
def DigitRightsSaid : Prop := digitRightsRow.holds Tryd.pinned (OpenSpec.ofChange digitRightsSpec)

/-- ITS FALSE NEIGHBOUR: 'it returns false'. Refute it at one input. -/
def digitRightsWrong : ChangeSpec := { name := "digitRights", fn := fun _ => fun
  | [d1, d2] => { results := [.lit (.bool false)], args := [d1, d2] }
  | _ => none }
def DigitRightsWrongFalsely : Prop := digitRightsRow.holds Tryd.pinned (OpenSpec.ofChange digitRightsWrong)

/- THE SECOND FORM. 'bulk': how many values and letters a reading holds, each counted each time it is reached (what is shared counts as often as it is met; a slice's spare places count too). A statement '..UptoSaid' is the law's where the arguments, and the package variables that the reading takes, are together of bulk at most 1048576: NARROWER than '..Said'. Prove '..Said' where nothing that the law and all that it calls make is longer than what came in: it says more and counts as full. Else prove '..UptoSaid'. A law counts once. -/
mutual
def uptoBulk {H : Type} : DataW H → Nat
  | .lit (.string bytes) => bytes.length + 1
  | .lit _ => 1
  | .nil => 1
  | .ptr d => uptoBulk d + 1
  | .slice elems spare => uptoBulkAll elems + uptoBulkAll spare + 1
  | .agg parts => uptoBulkAll parts + 1
  | .iface _ d => uptoBulk d + 1
  | .map entries => uptoBulkEntries entries + 1
  | .held _ => 1
def uptoBulkAll {H : Type} : List (DataW H) → Nat
  | [] => 0
  | d :: r => uptoBulk d + uptoBulkAll r
def uptoBulkEntries {H : Type} : List (Lit × DataW H) → Nat
  | [] => 0
  | x :: r => uptoBulkEntry x + uptoBulkEntries r
def uptoBulkEntry {H : Type} : Lit × DataW H → Nat
  | (.string bytes, d) => bytes.length + uptoBulk d + 1
  | (_, d) => uptoBulk d + 1
 end
def uptoSmall : (H : Type) → List (DataW H) → Bool := fun _ ds => decide (uptoBulkAll ds ≤ 1048576)
def OpenSpec.upto (s : _root_.Go.ChangeSpec) : _root_.Go.OpenSpec := { _root_.Go.OpenSpec.ofChange s with cond := some uptoSmall }

/-- 'tinderlaw02.DigitValues', WHERE WHAT IT READS IS OF BULK AT MOST 1048576: true; the input reads as it did. -/
def digitValuesUptoRow : OpenClaim := { program := "ythlpdjnfcjpbpaadoor", sum := "9b541f1809d68cd3217470583dd37bdc1a073327c76f633de1aebdfabd3fdbe0", func := "tinder/tinderlaw02.DigitValues", spec := "digitValues", named := ["internal/strconv.uint64pow10", "math/bits.deBruijn32tab", "math/bits.deBruijn64tab"], apart := false, laid := [("math/bits.deBruijn32tab", laid_math_bits_deBruijn32tab), ("math/bits.deBruijn64tab", laid_math_bits_deBruijn64tab), ("internal/strconv.uint64pow10", laid_internal_strconv_uint64pow10)], narrowed := true }
def DigitValuesUptoSaid : Prop := digitValuesUptoRow.holds Tryd.pinned (OpenSpec.upto digitValuesSpec)

/-- 'tinderlaw02.DigitParses', WHERE WHAT IT READS IS OF BULK AT MOST 1048576: true; the input reads as it did. -/
def digitParsesUptoRow : OpenClaim := { program := "ythlpdjnfcjpbpaadoor", sum := "9b541f1809d68cd3217470583dd37bdc1a073327c76f633de1aebdfabd3fdbe0", func := "tinder/tinderlaw02.DigitParses", spec := "digitParses", named := ["internal/strconv.uint64pow10", "math/bits.deBruijn32tab", "math/bits.deBruijn64tab"], apart := false, laid := [("math/bits.deBruijn32tab", laid_math_bits_deBruijn32tab), ("math/bits.deBruijn64tab", laid_math_bits_deBruijn64tab), ("internal/strconv.uint64pow10", laid_internal_strconv_uint64pow10)], narrowed := true }
def DigitParsesUptoSaid : Prop := digitParsesUptoRow.holds Tryd.pinned (OpenSpec.upto digitParsesSpec)

/-- 'tinderlaw02.DigitShows', WHERE WHAT IT READS IS OF BULK AT MOST 1048576: true; the input reads as it did. -/
def digitShowsUptoRow : OpenClaim := { program := "ythlpdjnfcjpbpaadoor", sum := "9b541f1809d68cd3217470583dd37bdc1a073327c76f633de1aebdfabd3fdbe0", func := "tinder/tinderlaw02.DigitShows", spec := "digitShows", named := ["internal/strconv.uint64pow10", "math/bits.deBruijn32tab", "math/bits.deBruijn64tab"], apart := false, laid := [("math/bits.deBruijn32tab", laid_math_bits_deBruijn32tab), ("math/bits.deBruijn64tab", laid_math_bits_deBruijn64tab), ("internal/strconv.uint64pow10", laid_internal_strconv_uint64pow10)], narrowed := true }
def DigitShowsUptoSaid : Prop := digitShowsUptoRow.holds Tryd.pinned (OpenSpec.upto digitShowsSpec)

/-- 'tinderlaw02.DigitBack', WHERE WHAT IT READS IS OF BULK AT MOST 1048576: true; the input reads as it did. -/
def digitBackUptoRow : OpenClaim := { program := "ythlpdjnfcjpbpaadoor", sum := "9b541f1809d68cd3217470583dd37bdc1a073327c76f633de1aebdfabd3fdbe0", func := "tinder/tinderlaw02.DigitBack", spec := "digitBack", named := ["internal/strconv.uint64pow10", "math/bits.deBruijn32tab", "math/bits.deBruijn64tab"], apart := false, laid := [("math/bits.deBruijn32tab", laid_math_bits_deBruijn32tab), ("math/bits.deBruijn64tab", laid_math_bits_deBruijn64tab), ("internal/strconv.uint64pow10", laid_internal_strconv_uint64pow10)], narrowed := true }
def DigitBackUptoSaid : Prop := digitBackUptoRow.holds Tryd.pinned (OpenSpec.upto digitBackSpec)

/-- 'tinderlaw02.DigitLiterals', WHERE WHAT IT READS IS OF BULK AT MOST 1048576: true; the input reads as it did. -/
def digitLiteralsUptoRow : OpenClaim := { program := "ythlpdjnfcjpbpaadoor", sum := "9b541f1809d68cd3217470583dd37bdc1a073327c76f633de1aebdfabd3fdbe0", func := "tinder/tinderlaw02.DigitLiterals", spec := "digitLiterals", named := ["internal/strconv.uint64pow10", "math/bits.deBruijn32tab", "math/bits.deBruijn64tab"], apart := false, laid := [("math/bits.deBruijn32tab", laid_math_bits_deBruijn32tab), ("math/bits.deBruijn64tab", laid_math_bits_deBruijn64tab), ("internal/strconv.uint64pow10", laid_internal_strconv_uint64pow10)], narrowed := true }
def DigitLiteralsUptoSaid : Prop := digitLiteralsUptoRow.holds Tryd.pinned (OpenSpec.upto digitLiteralsSpec)

/-- 'tinderlaw02.DigitRights', WHERE WHAT IT READS IS OF BULK AT MOST 1048576: true; the input reads as it did. -/
def digitRightsUptoRow : OpenClaim := { program := "ythlpdjnfcjpbpaadoor", sum := "9b541f1809d68cd3217470583dd37bdc1a073327c76f633de1aebdfabd3fdbe0", func := "tinder/tinderlaw02.DigitRights", spec := "digitRights", inPlace := ["internal/abi.NoEscape", "internal/bytealg.MakeNoZero"], named := ["internal/strconv.uint64pow10", "math/bits.deBruijn32tab", "math/bits.deBruijn64tab"], apart := false, laid := [("math/bits.deBruijn32tab", laid_math_bits_deBruijn32tab), ("math/bits.deBruijn64tab", laid_math_bits_deBruijn64tab), ("internal/strconv.uint64pow10", laid_internal_strconv_uint64pow10)], narrowed := true }
def DigitRightsUptoSaid : Prop := digitRightsUptoRow.holds Tryd.pinned (OpenSpec.upto digitRightsSpec)

end Rows
end Go.Proofs.YthlpdjnfcjpbpaaDoor
