/-
  No cell of these rows narrows 'for every input' (looked for: loops, veiled, ifaces, maps, wideKeys, modest, calm, conditions, laid).
  DERIVED. THE GIVEN ROWS OF THIS SEAT. 6 by the template 'for every input the law returns true; each argument reads behind the call as it read before'; 0 by the template 'total and deterministic' (their statements: YtnbomjfpnpmllaaTotals.lean).
  GIVEN WITH THE SEED: the statements are not yours to turn. If you find one false, say at which input.
  Laid BY PROGRAM, IN A SANDBOX (cutbox-rows.mjs): the forced cells as the released guide's own fill.sh prints them over the translation 337cf2b6fe75a762… (all of the seat's roots in one cut). By AI agents, Wed Nov 11 2026. No macro, syntax, notation, axiom, sorry.
-/
import Derived.Test.YtnbomjfpnpmllaaChecked
import GoSem.Claim
import GoSem.ClaimJoined
import GoSem.ClaimMapViews
import Derived.JoinedTies
import Derived.KernelRfl
namespace Go.Proofs.Ytnbomjfpnpmllaa
/- THE CELL 'sum', in the pinned program and in every row, IS THE sha256 OF THE DUMP (.gsa) THAT YtnbomjfpnpmllaaProg.lean LOADS. Nothing in Lean hashes anything: it is a label: what it is worth is what the hold of that sum in a sandbox is worth. -/
noncomputable def Try.pinned : Pinned := { name := "ytnbomjfpnpmllaa", sum := "337cf2b6fe75a76247f1976cd95a2ea38a7df694e732a192aeec4c2f6f2d4913", checked := Try.checked }
namespace Rows
def none {H : Type} : Left H := { results := [], args := [] }

/-- 'tinderlaw21.LabelMakes': WHATEVER THE INPUT: true; the input reads as it did. -/
def labelMakesSpec : ChangeSpec := { name := "labelMakes", fn := fun _ => fun
  | [d] => { results := [.lit (.bool true)], args := [d] }
  | _ => none }
def labelMakesRow : OpenClaim := { program := "ytnbomjfpnpmllaa", sum := "337cf2b6fe75a76247f1976cd95a2ea38a7df694e732a192aeec4c2f6f2d4913", func := "tinder/tinderlaw21.LabelMakes", spec := "labelMakes", inPlace := ["internal/bytealg.IndexByteString", "internal/bytealg.IndexString"], unfollowed := true, recurses := true, named := ["internal/bytealg.MaxLen"], apart := false }
def LabelMakesSaid : Prop := labelMakesRow.holds Try.pinned (OpenSpec.ofChange labelMakesSpec)

/-- ITS FALSE NEIGHBOUR: 'it returns false'. Refute it at one input. -/
def labelMakesWrong : ChangeSpec := { name := "labelMakes", fn := fun _ => fun
  | [d] => { results := [.lit (.bool false)], args := [d] }
  | _ => none }
def LabelMakesWrongFalsely : Prop := labelMakesRow.holds Try.pinned (OpenSpec.ofChange labelMakesWrong)

/-- 'tinderlaw21.LabelParses': WHATEVER THE INPUT: true; the input reads as it did. -/
def labelParsesSpec : ChangeSpec := { name := "labelParses", fn := fun _ => fun
  | [d1, d2] => { results := [.lit (.bool true)], args := [d1, d2] }
  | _ => none }
def labelParsesRow : OpenClaim := { program := "ytnbomjfpnpmllaa", sum := "337cf2b6fe75a76247f1976cd95a2ea38a7df694e732a192aeec4c2f6f2d4913", func := "tinder/tinderlaw21.LabelParses", spec := "labelParses", inPlace := ["internal/bytealg.IndexByteString", "internal/bytealg.IndexString"], unfollowed := true, recurses := true, named := ["internal/bytealg.MaxLen"], apart := false }
def LabelParsesSaid : Prop := labelParsesRow.holds Try.pinned (OpenSpec.ofChange labelParsesSpec)

/-- ITS FALSE NEIGHBOUR: 'it returns false'. Refute it at one input. -/
def labelParsesWrong : ChangeSpec := { name := "labelParses", fn := fun _ => fun
  | [d1, d2] => { results := [.lit (.bool false)], args := [d1, d2] }
  | _ => none }
def LabelParsesWrongFalsely : Prop := labelParsesRow.holds Try.pinned (OpenSpec.ofChange labelParsesWrong)

/-- 'tinderlaw21.LabelTells': WHATEVER THE INPUT: true; the input reads as it did. -/
def labelTellsSpec : ChangeSpec := { name := "labelTells", fn := fun _ => fun
  | [d1, d2, d3] => { results := [.lit (.bool true)], args := [d1, d2, d3] }
  | _ => none }
def labelTellsRow : OpenClaim := { program := "ytnbomjfpnpmllaa", sum := "337cf2b6fe75a76247f1976cd95a2ea38a7df694e732a192aeec4c2f6f2d4913", func := "tinder/tinderlaw21.LabelTells", spec := "labelTells", inPlace := ["internal/bytealg.IndexByteString", "internal/bytealg.IndexString"], unfollowed := true, recurses := true, named := ["internal/bytealg.MaxLen"], apart := false }
def LabelTellsSaid : Prop := labelTellsRow.holds Try.pinned (OpenSpec.ofChange labelTellsSpec)

/-- ITS FALSE NEIGHBOUR: 'it returns false'. Refute it at one input. -/
def labelTellsWrong : ChangeSpec := { name := "labelTells", fn := fun _ => fun
  | [d1, d2, d3] => { results := [.lit (.bool false)], args := [d1, d2, d3] }
  | _ => none }
def LabelTellsWrongFalsely : Prop := labelTellsRow.holds Try.pinned (OpenSpec.ofChange labelTellsWrong)

/-- 'tinderlaw21.LabelGets': WHATEVER THE INPUT: true; the input reads as it did. -/
def labelGetsSpec : ChangeSpec := { name := "labelGets", fn := fun _ => fun
  | [d1, d2] => { results := [.lit (.bool true)], args := [d1, d2] }
  | _ => none }
def labelGetsRow : OpenClaim := { program := "ytnbomjfpnpmllaa", sum := "337cf2b6fe75a76247f1976cd95a2ea38a7df694e732a192aeec4c2f6f2d4913", func := "tinder/tinderlaw21.LabelGets", spec := "labelGets", inPlace := ["internal/bytealg.IndexByteString", "internal/bytealg.IndexString"], unfollowed := true, recurses := true, named := ["internal/bytealg.MaxLen"], apart := false }
def LabelGetsSaid : Prop := labelGetsRow.holds Try.pinned (OpenSpec.ofChange labelGetsSpec)

/-- ITS FALSE NEIGHBOUR: 'it returns false'. Refute it at one input. -/
def labelGetsWrong : ChangeSpec := { name := "labelGets", fn := fun _ => fun
  | [d1, d2] => { results := [.lit (.bool false)], args := [d1, d2] }
  | _ => none }
def LabelGetsWrongFalsely : Prop := labelGetsRow.holds Try.pinned (OpenSpec.ofChange labelGetsWrong)

/-- 'tinderlaw21.LabelPuts': WHATEVER THE INPUT: true; the input reads as it did. -/
def labelPutsSpec : ChangeSpec := { name := "labelPuts", fn := fun _ => fun
  | [d1, d2, d3] => { results := [.lit (.bool true)], args := [d1, d2, d3] }
  | _ => none }
def labelPutsRow : OpenClaim := { program := "ytnbomjfpnpmllaa", sum := "337cf2b6fe75a76247f1976cd95a2ea38a7df694e732a192aeec4c2f6f2d4913", func := "tinder/tinderlaw21.LabelPuts", spec := "labelPuts", inPlace := ["internal/bytealg.IndexByteString", "internal/bytealg.IndexString"], unfollowed := true, recurses := true, named := ["internal/bytealg.MaxLen"], apart := false }
def LabelPutsSaid : Prop := labelPutsRow.holds Try.pinned (OpenSpec.ofChange labelPutsSpec)

/-- ITS FALSE NEIGHBOUR: 'it returns false'. Refute it at one input. -/
def labelPutsWrong : ChangeSpec := { name := "labelPuts", fn := fun _ => fun
  | [d1, d2, d3] => { results := [.lit (.bool false)], args := [d1, d2, d3] }
  | _ => none }
def LabelPutsWrongFalsely : Prop := labelPutsRow.holds Try.pinned (OpenSpec.ofChange labelPutsWrong)

/-- 'tinderlaw21.LabelApart': WHATEVER THE INPUT: true; the input reads as it did. -/
def labelApartSpec : ChangeSpec := { name := "labelApart", fn := fun _ => fun
  | [d1, d2, d3] => { results := [.lit (.bool true)], args := [d1, d2, d3] }
  | _ => none }
def labelApartRow : OpenClaim := { program := "ytnbomjfpnpmllaa", sum := "337cf2b6fe75a76247f1976cd95a2ea38a7df694e732a192aeec4c2f6f2d4913", func := "tinder/tinderlaw21.LabelApart", spec := "labelApart", inPlace := ["internal/bytealg.IndexByteString", "internal/bytealg.IndexString"], unfollowed := true, recurses := true, named := ["internal/bytealg.MaxLen"], apart := false }
def LabelApartSaid : Prop := labelApartRow.holds Try.pinned (OpenSpec.ofChange labelApartSpec)

/-- ITS FALSE NEIGHBOUR: 'it returns false'. Refute it at one input. -/
def labelApartWrong : ChangeSpec := { name := "labelApart", fn := fun _ => fun
  | [d1, d2, d3] => { results := [.lit (.bool false)], args := [d1, d2, d3] }
  | _ => none }
def LabelApartWrongFalsely : Prop := labelApartRow.holds Try.pinned (OpenSpec.ofChange labelApartWrong)

/- THE SECOND FORM. 'bulk': how many values and letters a reading holds, each counted each time it is reached (what is shared counts as often as it is met; a slice's spare places count too). A statement '..UptoSaid' is the law's where the arguments, and the package variables that the reading takes, are together of bulk at most 1048576: NARROWER than '..Said'. Prove '..Said' where nothing that the law and all that it calls make is longer than what came in: it says more and counts as full. Else prove '..UptoSaid'. A law counts once. -/
mutual
def uptoBulk {H : Type} : DataW H → Nat
  | .lit (.string bytes) => bytes.length + 1
  | .lit _ => 1
  | .nil => 1
  | .ptr d => uptoBulk d + 1
  | .slice elems spare => uptoBulkAll elems + uptoBulkAll spare + 1
  | .agg parts => uptoBulkAll parts + 1
  | .iface _ d => uptoBulk d + 1
  | .map entries => uptoBulkEntries entries + 1
  | .held _ => 1
def uptoBulkAll {H : Type} : List (DataW H) → Nat
  | [] => 0
  | d :: r => uptoBulk d + uptoBulkAll r
def uptoBulkEntries {H : Type} : List (Lit × DataW H) → Nat
  | [] => 0
  | x :: r => uptoBulkEntry x + uptoBulkEntries r
def uptoBulkEntry {H : Type} : Lit × DataW H → Nat
  | (.string bytes, d) => bytes.length + uptoBulk d + 1
  | (_, d) => uptoBulk d + 1
 end
def uptoSmall : (H : Type) → List (DataW H) → Bool := fun _ ds => decide (uptoBulkAll ds ≤ 1048576)
def OpenSpec.upto (s : _root_.Go.ChangeSpec) : _root_.Go.OpenSpec := { _root_.Go.OpenSpec.ofChange s with cond := some uptoSmall }

/-- 'tinderlaw21.LabelMakes', WHERE WHAT IT READS IS OF BULK AT MOST 1048576: true; the input reads as it did. -/
def labelMakesUptoRow : OpenClaim := { program := "ytnbomjfpnpmllaa", sum := "337cf2b6fe75a76247f1976cd95a2ea38a7df694e732a192aeec4c2f6f2d4913", func := "tinder/tinderlaw21.LabelMakes", spec := "labelMakes", inPlace := ["internal/bytealg.IndexByteString", "internal/bytealg.IndexString"], unfollowed := true, recurses := true, named := ["internal/bytealg.MaxLen"], apart := false, narrowed := true }
def LabelMakesUptoSaid : Prop := labelMakesUptoRow.holds Try.pinned (OpenSpec.upto labelMakesSpec)

/-- 'tinderlaw21.LabelParses', WHERE WHAT IT READS IS OF BULK AT MOST 1048576: true; the input reads as it did. -/
def labelParsesUptoRow : OpenClaim := { program := "ytnbomjfpnpmllaa", sum := "337cf2b6fe75a76247f1976cd95a2ea38a7df694e732a192aeec4c2f6f2d4913", func := "tinder/tinderlaw21.LabelParses", spec := "labelParses", inPlace := ["internal/bytealg.IndexByteString", "internal/bytealg.IndexString"], unfollowed := true, recurses := true, named := ["internal/bytealg.MaxLen"], apart := false, narrowed := true }
def LabelParsesUptoSaid : Prop := labelParsesUptoRow.holds Try.pinned (OpenSpec.upto labelParsesSpec)

/-- 'tinderlaw21.LabelTells', WHERE WHAT IT READS IS OF BULK AT MOST 1048576: true; the input reads as it did. -/
def labelTellsUptoRow : OpenClaim := { program := "ytnbomjfpnpmllaa", sum := "337cf2b6fe75a76247f1976cd95a2ea38a7df694e732a192aeec4c2f6f2d4913", func := "tinder/tinderlaw21.LabelTells", spec := "labelTells", inPlace := ["internal/bytealg.IndexByteString", "internal/bytealg.IndexString"], unfollowed := true, recurses := true, named := ["internal/bytealg.MaxLen"], apart := false, narrowed := true }
def LabelTellsUptoSaid : Prop := labelTellsUptoRow.holds Try.pinned (OpenSpec.upto labelTellsSpec)

/-- 'tinderlaw21.LabelGets', WHERE WHAT IT READS IS OF BULK AT MOST 1048576: true; the input reads as it did. -/
def labelGetsUptoRow : OpenClaim := { program := "ytnbomjfpnpmllaa", sum := "337cf2b6fe75a76247f1976cd95a2ea38a7df694e732a192aeec4c2f6f2d4913", func := "tinder/tinderlaw21.LabelGets", spec := "labelGets", inPlace := ["internal/bytealg.IndexByteString", "internal/bytealg.IndexString"], unfollowed := true, recurses := true, named := ["internal/bytealg.MaxLen"], apart := false, narrowed := true }
def LabelGetsUptoSaid : Prop := labelGetsUptoRow.holds Try.pinned (OpenSpec.upto labelGetsSpec)

/-- 'tinderlaw21.LabelPuts', WHERE WHAT IT READS IS OF BULK AT MOST 1048576: true; the input reads as it did. -/
def labelPutsUptoRow : OpenClaim := { program := "ytnbomjfpnpmllaa", sum := "337cf2b6fe75a76247f1976cd95a2ea38a7df694e732a192aeec4c2f6f2d4913", func := "tinder/tinderlaw21.LabelPuts", spec := "labelPuts", inPlace := ["internal/bytealg.IndexByteString", "internal/bytealg.IndexString"], unfollowed := true, recurses := true, named := ["internal/bytealg.MaxLen"], apart := false, narrowed := true }
def LabelPutsUptoSaid : Prop := labelPutsUptoRow.holds Try.pinned (OpenSpec.upto labelPutsSpec)

/-- 'tinderlaw21.LabelApart', WHERE WHAT IT READS IS OF BULK AT MOST 1048576: true; the input reads as it did. -/
def labelApartUptoRow : OpenClaim := { program := "ytnbomjfpnpmllaa", sum := "337cf2b6fe75a76247f1976cd95a2ea38a7df694e732a192aeec4c2f6f2d4913", func := "tinder/tinderlaw21.LabelApart", spec := "labelApart", inPlace := ["internal/bytealg.IndexByteString", "internal/bytealg.IndexString"], unfollowed := true, recurses := true, named := ["internal/bytealg.MaxLen"], apart := false, narrowed := true }
def LabelApartUptoSaid : Prop := labelApartUptoRow.holds Try.pinned (OpenSpec.upto labelApartSpec)

end Rows
end Go.Proofs.Ytnbomjfpnpmllaa
