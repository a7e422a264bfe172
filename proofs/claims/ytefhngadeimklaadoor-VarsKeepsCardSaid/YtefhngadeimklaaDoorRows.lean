/-
  NARROWER THAN 'FOR EVERY INPUT', by the rows' own cells (each row's printed sentence says how): VarsSets: laid · VarsForms: laid · VarsGets: laid · VarsKeeps: laid · VarsBytes: laid · VarsBack: laid · VarsLoads: laid · VarsCut: laid.
  DERIVED. THE GIVEN ROWS OF THIS SEAT. 8 by the template 'for every input the law returns true; each argument reads behind the call as it read before'; 0 by the template 'total and deterministic' (their statements: YtefhngadeimklaaDoorTotals.lean).
  GIVEN WITH THE SEED: the statements are not yours to turn. If you find one false, say at which input.
  Laid BY PROGRAM, IN A SANDBOX (cutbox-rows.mjs): the forced cells as the released guide's own fill.sh prints them over the translation d7478cb4230a4b72… (all of the seat's roots in one cut). By AI agents, Wed Nov 11 2026. No macro, syntax, notation, axiom, sorry.
-/
import Derived.Test.YtefhngadeimklaaDoorChecked
import GoSem.Claim
import GoSem.ClaimJoined
import GoSem.ClaimMapViews
import Derived.JoinedTies
import Derived.KernelRfl
namespace Go.Proofs.YtefhngadeimklaaDoor
/- THE CELL 'sum', in the pinned program and in every row, IS THE sha256 OF THE DUMP (.gsa) THAT YtefhngadeimklaaDoorProg.lean LOADS. Nothing in Lean hashes anything: it is a label: what it is worth is what the hold of that sum in a sandbox is worth. -/
noncomputable def Tryd.pinned : Pinned := { name := "ytefhngadeimklaadoor", sum := "d7478cb4230a4b72151323aca236da69c663e38bdb7dc238186e2e7f826554e0", checked := Tryd.checked }
namespace Rows
def none {H : Type} : Left H := { results := [], args := [] }

/- WHAT THE LISTED PACKAGE-LEVEL VARIABLES READ AS WHEN THE CALL BEGINS. Each datum BY PROGRAM (the guide's laid-datum.mjs) off the statement by which the dump's own 'gosem.cut.vars' lays the variable. In a bare row this is a premise. The card (YtefhngadeimklaaDoorCards.lean) ties it to the program's text. -/
def laid_math_bits_deBruijn32tab {H : Type} : DataW H := .agg [.lit (.int .u8 0), .lit (.int .u8 1), .lit (.int .u8 28), .lit (.int .u8 2), .lit (.int .u8 29), .lit (.int .u8 14), .lit (.int .u8 24), .lit (.int .u8 3), .lit (.int .u8 30), .lit (.int .u8 22), .lit (.int .u8 20), .lit (.int .u8 15), .lit (.int .u8 25), .lit (.int .u8 17), .lit (.int .u8 4), .lit (.int .u8 8), .lit (.int .u8 31), .lit (.int .u8 27), .lit (.int .u8 13), .lit (.int .u8 23), .lit (.int .u8 21), .lit (.int .u8 19), .lit (.int .u8 16), .lit (.int .u8 7), .lit (.int .u8 26), .lit (.int .u8 12), .lit (.int .u8 18), .lit (.int .u8 6), .lit (.int .u8 11), .lit (.int .u8 5), .lit (.int .u8 10), .lit (.int .u8 9)]
def laid_math_bits_deBruijn64tab {H : Type} : DataW H := .agg [.lit (.int .u8 0), .lit (.int .u8 1), .lit (.int .u8 56), .lit (.int .u8 2), .lit (.int .u8 57), .lit (.int .u8 49), .lit (.int .u8 28), .lit (.int .u8 3), .lit (.int .u8 61), .lit (.int .u8 58), .lit (.int .u8 42), .lit (.int .u8 50), .lit (.int .u8 38), .lit (.int .u8 29), .lit (.int .u8 17), .lit (.int .u8 4), .lit (.int .u8 62), .lit (.int .u8 47), .lit (.int .u8 59), .lit (.int .u8 36), .lit (.int .u8 45), .lit (.int .u8 43), .lit (.int .u8 51), .lit (.int .u8 22), .lit (.int .u8 53), .lit (.int .u8 39), .lit (.int .u8 33), .lit (.int .u8 30), .lit (.int .u8 24), .lit (.int .u8 18), .lit (.int .u8 12), .lit (.int .u8 5), .lit (.int .u8 63), .lit (.int .u8 55), .lit (.int .u8 48), .lit (.int .u8 27), .lit (.int .u8 60), .lit (.int .u8 41), .lit (.int .u8 37), .lit (.int .u8 16), .lit (.int .u8 46), .lit (.int .u8 35), .lit (.int .u8 44), .lit (.int .u8 21), .lit (.int .u8 52), .lit (.int .u8 32), .lit (.int .u8 23), .lit (.int .u8 11), .lit (.int .u8 54), .lit (.int .u8 26), .lit (.int .u8 40), .lit (.int .u8 15), .lit (.int .u8 34), .lit (.int .u8 20), .lit (.int .u8 31), .lit (.int .u8 10), .lit (.int .u8 25), .lit (.int .u8 14), .lit (.int .u8 19), .lit (.int .u8 9), .lit (.int .u8 13), .lit (.int .u8 8), .lit (.int .u8 7), .lit (.int .u8 6)]
def laid_internal_strconv_uint64pow10 {H : Type} : DataW H := .agg [.lit (.int .u64 1), .lit (.int .u64 10), .lit (.int .u64 100), .lit (.int .u64 1000), .lit (.int .u64 10000), .lit (.int .u64 100000), .lit (.int .u64 1000000), .lit (.int .u64 10000000), .lit (.int .u64 100000000), .lit (.int .u64 1000000000), .lit (.int .u64 10000000000), .lit (.int .u64 100000000000), .lit (.int .u64 1000000000000), .lit (.int .u64 10000000000000), .lit (.int .u64 100000000000000), .lit (.int .u64 1000000000000000), .lit (.int .u64 10000000000000000), .lit (.int .u64 100000000000000000), .lit (.int .u64 1000000000000000000), .lit (.int .u64 10000000000000000000)]

/-- 'tinderlaw19.VarsSets': WHATEVER THE INPUT: true; the input reads as it did. -/
def varsSetsSpec : ChangeSpec := { name := "varsSets", fn := fun _ => fun
  | [d1, d2, d3] => { results := [.lit (.bool true)], args := [d1, d2, d3] }
  | _ => none }
def varsSetsRow : OpenClaim := { program := "ytefhngadeimklaadoor", sum := "d7478cb4230a4b72151323aca236da69c663e38bdb7dc238186e2e7f826554e0", func := "tinder/tinderlaw19.VarsSets", spec := "varsSets", inPlace := ["slices.overlaps[tinder/api.Setting]"], unfollowed := true, recurses := true, named := ["internal/strconv.uint64pow10", "math/bits.deBruijn32tab", "math/bits.deBruijn64tab"], apart := false, laid := [("math/bits.deBruijn32tab", laid_math_bits_deBruijn32tab), ("math/bits.deBruijn64tab", laid_math_bits_deBruijn64tab), ("internal/strconv.uint64pow10", laid_internal_strconv_uint64pow10)] }
def VarsSetsSaid : Prop := varsSetsRow.holds Tryd.pinned (OpenSpec.ofChange varsSetsSpec)

/-- ITS FALSE NEIGHBOUR: 'it returns false'. Refute it at one input. -/
def varsSetsWrong : ChangeSpec := { name := "varsSets", fn := fun _ => fun
  | [d1, d2, d3] => { results := [.lit (.bool false)], args := [d1, d2, d3] }
  | _ => none }
def VarsSetsWrongFalsely : Prop := varsSetsRow.holds Tryd.pinned (OpenSpec.ofChange varsSetsWrong)

/-- 'tinderlaw19.VarsForms': WHATEVER THE INPUT: true; the input reads as it did. -/
def varsFormsSpec : ChangeSpec := { name := "varsForms", fn := fun _ => fun
  | [d1, d2] => { results := [.lit (.bool true)], args := [d1, d2] }
  | _ => none }
def varsFormsRow : OpenClaim := { program := "ytefhngadeimklaadoor", sum := "d7478cb4230a4b72151323aca236da69c663e38bdb7dc238186e2e7f826554e0", func := "tinder/tinderlaw19.VarsForms", spec := "varsForms", inPlace := ["slices.overlaps[tinder/api.Setting]"], unfollowed := true, recurses := true, named := ["internal/strconv.uint64pow10", "math/bits.deBruijn32tab", "math/bits.deBruijn64tab"], apart := false, laid := [("math/bits.deBruijn32tab", laid_math_bits_deBruijn32tab), ("math/bits.deBruijn64tab", laid_math_bits_deBruijn64tab), ("internal/strconv.uint64pow10", laid_internal_strconv_uint64pow10)] }
def VarsFormsSaid : Prop := varsFormsRow.holds Tryd.pinned (OpenSpec.ofChange varsFormsSpec)

/-- ITS FALSE NEIGHBOUR: 'it returns false'. Refute it at one input. -/
def varsFormsWrong : ChangeSpec := { name := "varsForms", fn := fun _ => fun
  | [d1, d2] => { results := [.lit (.bool false)], args := [d1, d2] }
  | _ => none }
def VarsFormsWrongFalsely : Prop := varsFormsRow.holds Tryd.pinned (OpenSpec.ofChange varsFormsWrong)

/-- 'tinderlaw19.VarsGets': WHATEVER THE INPUT: true; the input reads as it did. -/
def varsGetsSpec : ChangeSpec := { name := "varsGets", fn := fun _ => fun
  | [d1, d2] => { results := [.lit (.bool true)], args := [d1, d2] }
  | _ => none }
def varsGetsRow : OpenClaim := { program := "ytefhngadeimklaadoor", sum := "d7478cb4230a4b72151323aca236da69c663e38bdb7dc238186e2e7f826554e0", func := "tinder/tinderlaw19.VarsGets", spec := "varsGets", inPlace := ["slices.overlaps[tinder/api.Setting]"], unfollowed := true, recurses := true, named := ["internal/strconv.uint64pow10", "math/bits.deBruijn32tab", "math/bits.deBruijn64tab"], apart := false, laid := [("math/bits.deBruijn32tab", laid_math_bits_deBruijn32tab), ("math/bits.deBruijn64tab", laid_math_bits_deBruijn64tab), ("internal/strconv.uint64pow10", laid_internal_strconv_uint64pow10)] }
def VarsGetsSaid : Prop := varsGetsRow.holds Tryd.pinned (OpenSpec.ofChange varsGetsSpec)

/-- ITS FALSE NEIGHBOUR: 'it returns false'. Refute it at one input. -/
def varsGetsWrong : ChangeSpec := { name := "varsGets", fn := fun _ => fun
  | [d1, d2] => { results := [.lit (.bool false)], args := [d1, d2] }
  | _ => none }
def VarsGetsWrongFalsely : Prop := varsGetsRow.holds Tryd.pinned (OpenSpec.ofChange varsGetsWrong)

/-- 'tinderlaw19.VarsKeeps': WHATEVER THE INPUT: true; the input reads as it did. -/
def varsKeepsSpec : ChangeSpec := { name := "varsKeeps", fn := fun _ => fun
  | [d1, d2, d3] => { results := [.lit (.bool true)], args := [d1, d2, d3] }
  | _ => none }
def varsKeepsRow : OpenClaim := { program := "ytefhngadeimklaadoor", sum := "d7478cb4230a4b72151323aca236da69c663e38bdb7dc238186e2e7f826554e0", func := "tinder/tinderlaw19.VarsKeeps", spec := "varsKeeps", inPlace := ["slices.overlaps[tinder/api.Setting]"], unfollowed := true, recurses := true, named := ["internal/strconv.uint64pow10", "math/bits.deBruijn32tab", "math/bits.deBruijn64tab"], apart := false, laid := [("math/bits.deBruijn32tab", laid_math_bits_deBruijn32tab), ("math/bits.deBruijn64tab", laid_math_bits_deBruijn64tab), ("internal/strconv.uint64pow10", laid_internal_strconv_uint64pow10)] }
def VarsKeepsSaid : Prop := varsKeepsRow.holds Tryd.pinned (OpenSpec.ofChange varsKeepsSpec)

/-- ITS FALSE NEIGHBOUR: 'it returns false'. Refute it at one input. -/
def varsKeepsWrong : ChangeSpec := { name := "varsKeeps", fn := fun _ => fun
  | [d1, d2, d3] => { results := [.lit (.bool false)], args := [d1, d2, d3] }
  | _ => none }
def VarsKeepsWrongFalsely : Prop := varsKeepsRow.holds Tryd.pinned (OpenSpec.ofChange varsKeepsWrong)

/-- 'tinderlaw19.VarsBytes': WHATEVER THE INPUT: true; the input reads as it did. -/
def varsBytesSpec : ChangeSpec := { name := "varsBytes", fn := fun _ => fun
  | [d1, d2] => { results := [.lit (.bool true)], args := [d1, d2] }
  | _ => none }
def varsBytesRow : OpenClaim := { program := "ytefhngadeimklaadoor", sum := "d7478cb4230a4b72151323aca236da69c663e38bdb7dc238186e2e7f826554e0", func := "tinder/tinderlaw19.VarsBytes", spec := "varsBytes", inPlace := ["slices.overlaps[tinder/api.Setting]", "internal/bytealg.IndexByteString", "internal/bytealg.IndexString"], unfollowed := true, recurses := true, named := ["internal/strconv.uint64pow10", "math/bits.deBruijn32tab", "math/bits.deBruijn64tab", "internal/bytealg.MaxLen"], apart := false, laid := [("math/bits.deBruijn32tab", laid_math_bits_deBruijn32tab), ("math/bits.deBruijn64tab", laid_math_bits_deBruijn64tab), ("internal/strconv.uint64pow10", laid_internal_strconv_uint64pow10)] }
def VarsBytesSaid : Prop := varsBytesRow.holds Tryd.pinned (OpenSpec.ofChange varsBytesSpec)

/-- ITS FALSE NEIGHBOUR: 'it returns false'. Refute it at one input. -/
def varsBytesWrong : ChangeSpec := { name := "varsBytes", fn := fun _ => fun
  | [d1, d2] => { results := [.lit (.bool false)], args := [d1, d2] }
  | _ => none }
def VarsBytesWrongFalsely : Prop := varsBytesRow.holds Tryd.pinned (OpenSpec.ofChange varsBytesWrong)

/-- 'tinderlaw19.VarsBack': WHATEVER THE INPUT: true; the input reads as it did. -/
def varsBackSpec : ChangeSpec := { name := "varsBack", fn := fun _ => fun
  | [d1, d2] => { results := [.lit (.bool true)], args := [d1, d2] }
  | _ => none }
def varsBackRow : OpenClaim := { program := "ytefhngadeimklaadoor", sum := "d7478cb4230a4b72151323aca236da69c663e38bdb7dc238186e2e7f826554e0", func := "tinder/tinderlaw19.VarsBack", spec := "varsBack", inPlace := ["slices.overlaps[tinder/api.Setting]", "internal/bytealg.IndexByteString", "internal/bytealg.IndexString"], unfollowed := true, recurses := true, named := ["internal/strconv.uint64pow10", "math/bits.deBruijn32tab", "math/bits.deBruijn64tab", "internal/bytealg.MaxLen"], apart := false, laid := [("math/bits.deBruijn32tab", laid_math_bits_deBruijn32tab), ("math/bits.deBruijn64tab", laid_math_bits_deBruijn64tab), ("internal/strconv.uint64pow10", laid_internal_strconv_uint64pow10)] }
def VarsBackSaid : Prop := varsBackRow.holds Tryd.pinned (OpenSpec.ofChange varsBackSpec)

/-- ITS FALSE NEIGHBOUR: 'it returns false'. Refute it at one input. -/
def varsBackWrong : ChangeSpec := { name := "varsBack", fn := fun _ => fun
  | [d1, d2] => { results := [.lit (.bool false)], args := [d1, d2] }
  | _ => none }
def VarsBackWrongFalsely : Prop := varsBackRow.holds Tryd.pinned (OpenSpec.ofChange varsBackWrong)

/-- 'tinderlaw19.VarsLoads': WHATEVER THE INPUT: true; the input reads as it did. -/
def varsLoadsSpec : ChangeSpec := { name := "varsLoads", fn := fun _ => fun
  | [d1, d2] => { results := [.lit (.bool true)], args := [d1, d2] }
  | _ => none }
def varsLoadsRow : OpenClaim := { program := "ytefhngadeimklaadoor", sum := "d7478cb4230a4b72151323aca236da69c663e38bdb7dc238186e2e7f826554e0", func := "tinder/tinderlaw19.VarsLoads", spec := "varsLoads", inPlace := ["slices.overlaps[tinder/api.Setting]", "internal/bytealg.IndexByteString", "internal/bytealg.IndexString"], unfollowed := true, recurses := true, named := ["internal/strconv.uint64pow10", "math/bits.deBruijn32tab", "math/bits.deBruijn64tab", "internal/bytealg.MaxLen"], apart := false, laid := [("math/bits.deBruijn32tab", laid_math_bits_deBruijn32tab), ("math/bits.deBruijn64tab", laid_math_bits_deBruijn64tab), ("internal/strconv.uint64pow10", laid_internal_strconv_uint64pow10)] }
def VarsLoadsSaid : Prop := varsLoadsRow.holds Tryd.pinned (OpenSpec.ofChange varsLoadsSpec)

/-- ITS FALSE NEIGHBOUR: 'it returns false'. Refute it at one input. -/
def varsLoadsWrong : ChangeSpec := { name := "varsLoads", fn := fun _ => fun
  | [d1, d2] => { results := [.lit (.bool false)], args := [d1, d2] }
  | _ => none }
def VarsLoadsWrongFalsely : Prop := varsLoadsRow.holds Tryd.pinned (OpenSpec.ofChange varsLoadsWrong)

/-- 'tinderlaw19.VarsCut': WHATEVER THE INPUT: true; the input reads as it did. -/
def varsCutSpec : ChangeSpec := { name := "varsCut", fn := fun _ => fun
  | [d1, d2, d3] => { results := [.lit (.bool true)], args := [d1, d2, d3] }
  | _ => none }
def varsCutRow : OpenClaim := { program := "ytefhngadeimklaadoor", sum := "d7478cb4230a4b72151323aca236da69c663e38bdb7dc238186e2e7f826554e0", func := "tinder/tinderlaw19.VarsCut", spec := "varsCut", inPlace := ["slices.overlaps[tinder/api.Setting]", "internal/bytealg.IndexByteString", "internal/bytealg.IndexString"], unfollowed := true, recurses := true, named := ["internal/strconv.uint64pow10", "math/bits.deBruijn32tab", "math/bits.deBruijn64tab", "internal/bytealg.MaxLen"], apart := false, laid := [("math/bits.deBruijn32tab", laid_math_bits_deBruijn32tab), ("math/bits.deBruijn64tab", laid_math_bits_deBruijn64tab), ("internal/strconv.uint64pow10", laid_internal_strconv_uint64pow10)] }
def VarsCutSaid : Prop := varsCutRow.holds Tryd.pinned (OpenSpec.ofChange varsCutSpec)

/-- ITS FALSE NEIGHBOUR: 'it returns false'. Refute it at one input. -/
def varsCutWrong : ChangeSpec := { name := "varsCut", fn := fun _ => fun
  | [d1, d2, d3] => { results := [.lit (.bool false)], args := [d1, d2, d3] }
  | _ => none }
def VarsCutWrongFalsely : Prop := varsCutRow.holds Tryd.pinned (OpenSpec.ofChange varsCutWrong)

/- THE SECOND FORM. 'bulk': how many values and letters a reading holds, each counted each time it is reached (what is shared counts as often as it is met; a slice's spare places count too). A statement '..UptoSaid' is the law's where the arguments, and the package variables that the reading takes, are together of bulk at most 1048576: NARROWER than '..Said'. Prove '..Said' where nothing that the law and all that it calls make is longer than what came in: it says more and counts as full. Else prove '..UptoSaid'. A law counts once. -/
mutual
def uptoBulk {H : Type} : DataW H → Nat
  | .lit (.string bytes) => bytes.length + 1
  | .lit _ => 1
  | .nil => 1
  | .ptr d => uptoBulk d + 1
  | .slice elems spare => uptoBulkAll elems + uptoBulkAll spare + 1
  | .agg parts => uptoBulkAll parts + 1
  | .iface _ d => uptoBulk d + 1
  | .map entries => uptoBulkEntries entries + 1
  | .held _ => 1
def uptoBulkAll {H : Type} : List (DataW H) → Nat
  | [] => 0
  | d :: r => uptoBulk d + uptoBulkAll r
def uptoBulkEntries {H : Type} : List (Lit × DataW H) → Nat
  | [] => 0
  | x :: r => uptoBulkEntry x + uptoBulkEntries r
def uptoBulkEntry {H : Type} : Lit × DataW H → Nat
  | (.string bytes, d) => bytes.length + uptoBulk d + 1
  | (_, d) => uptoBulk d + 1
 end
def uptoSmall : (H : Type) → List (DataW H) → Bool := fun _ ds => decide (uptoBulkAll ds ≤ 1048576)
def OpenSpec.upto (s : _root_.Go.ChangeSpec) : _root_.Go.OpenSpec := { _root_.Go.OpenSpec.ofChange s with cond := some uptoSmall }

/-- 'tinderlaw19.VarsSets', WHERE WHAT IT READS IS OF BULK AT MOST 1048576: true; the input reads as it did. -/
def varsSetsUptoRow : OpenClaim := { program := "ytefhngadeimklaadoor", sum := "d7478cb4230a4b72151323aca236da69c663e38bdb7dc238186e2e7f826554e0", func := "tinder/tinderlaw19.VarsSets", spec := "varsSets", inPlace := ["slices.overlaps[tinder/api.Setting]"], unfollowed := true, recurses := true, named := ["internal/strconv.uint64pow10", "math/bits.deBruijn32tab", "math/bits.deBruijn64tab"], apart := false, laid := [("math/bits.deBruijn32tab", laid_math_bits_deBruijn32tab), ("math/bits.deBruijn64tab", laid_math_bits_deBruijn64tab), ("internal/strconv.uint64pow10", laid_internal_strconv_uint64pow10)], narrowed := true }
def VarsSetsUptoSaid : Prop := varsSetsUptoRow.holds Tryd.pinned (OpenSpec.upto varsSetsSpec)

/-- 'tinderlaw19.VarsForms', WHERE WHAT IT READS IS OF BULK AT MOST 1048576: true; the input reads as it did. -/
def varsFormsUptoRow : OpenClaim := { program := "ytefhngadeimklaadoor", sum := "d7478cb4230a4b72151323aca236da69c663e38bdb7dc238186e2e7f826554e0", func := "tinder/tinderlaw19.VarsForms", spec := "varsForms", inPlace := ["slices.overlaps[tinder/api.Setting]"], unfollowed := true, recurses := true, named := ["internal/strconv.uint64pow10", "math/bits.deBruijn32tab", "math/bits.deBruijn64tab"], apart := false, laid := [("math/bits.deBruijn32tab", laid_math_bits_deBruijn32tab), ("math/bits.deBruijn64tab", laid_math_bits_deBruijn64tab), ("internal/strconv.uint64pow10", laid_internal_strconv_uint64pow10)], narrowed := true }
def VarsFormsUptoSaid : Prop := varsFormsUptoRow.holds Tryd.pinned (OpenSpec.upto varsFormsSpec)

/-- 'tinderlaw19.VarsGets', WHERE WHAT IT READS IS OF BULK AT MOST 1048576: true; the input reads as it did. -/
def varsGetsUptoRow : OpenClaim := { program := "ytefhngadeimklaadoor", sum := "d7478cb4230a4b72151323aca236da69c663e38bdb7dc238186e2e7f826554e0", func := "tinder/tinderlaw19.VarsGets", spec := "varsGets", inPlace := ["slices.overlaps[tinder/api.Setting]"], unfollowed := true, recurses := true, named := ["internal/strconv.uint64pow10", "math/bits.deBruijn32tab", "math/bits.deBruijn64tab"], apart := false, laid := [("math/bits.deBruijn32tab", laid_math_bits_deBruijn32tab), ("math/bits.deBruijn64tab", laid_math_bits_deBruijn64tab), ("internal/strconv.uint64pow10", laid_internal_strconv_uint64pow10)], narrowed := true }
def VarsGetsUptoSaid : Prop := varsGetsUptoRow.holds Tryd.pinned (OpenSpec.upto varsGetsSpec)

/-- 'tinderlaw19.VarsKeeps', WHERE WHAT IT READS IS OF BULK AT MOST 1048576: true; the input reads as it did. -/
def varsKeepsUptoRow : OpenClaim := { program := "ytefhngadeimklaadoor", sum := "d7478cb4230a4b72151323aca236da69c663e38bdb7dc238186e2e7f826554e0", func := "tinder/tinderlaw19.VarsKeeps", spec := "varsKeeps", inPlace := ["slices.overlaps[tinder/api.Setting]"], unfollowed := true, recurses := true, named := ["internal/strconv.uint64pow10", "math/bits.deBruijn32tab", "math/bits.deBruijn64tab"], apart := false, laid := [("math/bits.deBruijn32tab", laid_math_bits_deBruijn32tab), ("math/bits.deBruijn64tab", laid_math_bits_deBruijn64tab), ("internal/strconv.uint64pow10", laid_internal_strconv_uint64pow10)], narrowed := true }
def VarsKeepsUptoSaid : Prop := varsKeepsUptoRow.holds Tryd.pinned (OpenSpec.upto varsKeepsSpec)

/-- 'tinderlaw19.VarsBytes', WHERE WHAT IT READS IS OF BULK AT MOST 1048576: true; the input reads as it did. -/
def varsBytesUptoRow : OpenClaim := { program := "ytefhngadeimklaadoor", sum := "d7478cb4230a4b72151323aca236da69c663e38bdb7dc238186e2e7f826554e0", func := "tinder/tinderlaw19.VarsBytes", spec := "varsBytes", inPlace := ["slices.overlaps[tinder/api.Setting]", "internal/bytealg.IndexByteString", "internal/bytealg.IndexString"], unfollowed := true, recurses := true, named := ["internal/strconv.uint64pow10", "math/bits.deBruijn32tab", "math/bits.deBruijn64tab", "internal/bytealg.MaxLen"], apart := false, laid := [("math/bits.deBruijn32tab", laid_math_bits_deBruijn32tab), ("math/bits.deBruijn64tab", laid_math_bits_deBruijn64tab), ("internal/strconv.uint64pow10", laid_internal_strconv_uint64pow10)], narrowed := true }
def VarsBytesUptoSaid : Prop := varsBytesUptoRow.holds Tryd.pinned (OpenSpec.upto varsBytesSpec)

/-- 'tinderlaw19.VarsBack', WHERE WHAT IT READS IS OF BULK AT MOST 1048576: true; the input reads as it did. -/
def varsBackUptoRow : OpenClaim := { program := "ytefhngadeimklaadoor", sum := "d7478cb4230a4b72151323aca236da69c663e38bdb7dc238186e2e7f826554e0", func := "tinder/tinderlaw19.VarsBack", spec := "varsBack", inPlace := ["slices.overlaps[tinder/api.Setting]", "internal/bytealg.IndexByteString", "internal/bytealg.IndexString"], unfollowed := true, recurses := true, named := ["internal/strconv.uint64pow10", "math/bits.deBruijn32tab", "math/bits.deBruijn64tab", "internal/bytealg.MaxLen"], apart := false, laid := [("math/bits.deBruijn32tab", laid_math_bits_deBruijn32tab), ("math/bits.deBruijn64tab", laid_math_bits_deBruijn64tab), ("internal/strconv.uint64pow10", laid_internal_strconv_uint64pow10)], narrowed := true }
def VarsBackUptoSaid : Prop := varsBackUptoRow.holds Tryd.pinned (OpenSpec.upto varsBackSpec)

/-- 'tinderlaw19.VarsLoads', WHERE WHAT IT READS IS OF BULK AT MOST 1048576: true; the input reads as it did. -/
def varsLoadsUptoRow : OpenClaim := { program := "ytefhngadeimklaadoor", sum := "d7478cb4230a4b72151323aca236da69c663e38bdb7dc238186e2e7f826554e0", func := "tinder/tinderlaw19.VarsLoads", spec := "varsLoads", inPlace := ["slices.overlaps[tinder/api.Setting]", "internal/bytealg.IndexByteString", "internal/bytealg.IndexString"], unfollowed := true, recurses := true, named := ["internal/strconv.uint64pow10", "math/bits.deBruijn32tab", "math/bits.deBruijn64tab", "internal/bytealg.MaxLen"], apart := false, laid := [("math/bits.deBruijn32tab", laid_math_bits_deBruijn32tab), ("math/bits.deBruijn64tab", laid_math_bits_deBruijn64tab), ("internal/strconv.uint64pow10", laid_internal_strconv_uint64pow10)], narrowed := true }
def VarsLoadsUptoSaid : Prop := varsLoadsUptoRow.holds Tryd.pinned (OpenSpec.upto varsLoadsSpec)

/-- 'tinderlaw19.VarsCut', WHERE WHAT IT READS IS OF BULK AT MOST 1048576: true; the input reads as it did. -/
def varsCutUptoRow : OpenClaim := { program := "ytefhngadeimklaadoor", sum := "d7478cb4230a4b72151323aca236da69c663e38bdb7dc238186e2e7f826554e0", func := "tinder/tinderlaw19.VarsCut", spec := "varsCut", inPlace := ["slices.overlaps[tinder/api.Setting]", "internal/bytealg.IndexByteString", "internal/bytealg.IndexString"], unfollowed := true, recurses := true, named := ["internal/strconv.uint64pow10", "math/bits.deBruijn32tab", "math/bits.deBruijn64tab", "internal/bytealg.MaxLen"], apart := false, laid := [("math/bits.deBruijn32tab", laid_math_bits_deBruijn32tab), ("math/bits.deBruijn64tab", laid_math_bits_deBruijn64tab), ("internal/strconv.uint64pow10", laid_internal_strconv_uint64pow10)], narrowed := true }
def VarsCutUptoSaid : Prop := varsCutUptoRow.holds Tryd.pinned (OpenSpec.upto varsCutSpec)

end Rows
end Go.Proofs.YtefhngadeimklaaDoor
