/-
  No cell of these rows narrows 'for every input' (looked for: loops, veiled, ifaces, maps, wideKeys, modest, calm, conditions, laid).
  DERIVED. THE GIVEN ROWS OF THIS SEAT. 7 by the template 'for every input the law returns true; each argument reads behind the call as it read before'; 0 by the template 'total and deterministic' (their statements: YtfpkakedlapmkaaTotals.lean).
  GIVEN WITH THE SEED: the statements are not yours to turn. If you find one false, say at which input.
  Laid BY PROGRAM, IN A SANDBOX (cutbox-rows.mjs): the forced cells as the released guide's own fill.sh prints them over the translation 3de59e0082bdab66… (all of the seat's roots in one cut). By AI agents, Wed Nov 11 2026. No macro, syntax, notation, axiom, sorry.
-/
import Derived.Test.YtfpkakedlapmkaaChecked
import GoSem.Claim
import GoSem.ClaimJoined
import GoSem.ClaimMapViews
import Derived.JoinedTies
import Derived.KernelRfl
namespace Go.Proofs.Ytfpkakedlapmkaa
/- THE CELL 'sum', in the pinned program and in every row, IS THE sha256 OF THE DUMP (.gsa) THAT YtfpkakedlapmkaaProg.lean LOADS. Nothing in Lean hashes anything: it is a label: what it is worth is what the hold of that sum in a sandbox is worth. -/
noncomputable def Try.pinned : Pinned := { name := "ytfpkakedlapmkaa", sum := "3de59e0082bdab6682c8a5fc3a7968c2ebb568ef4dd26fad251c208b9d763e93", checked := Try.checked }
namespace Rows
def none {H : Type} : Left H := { results := [], args := [] }

/-- 'tinderlaw09.DictStarts': WHATEVER THE INPUT: true; the input reads as it did. -/
def dictStartsSpec : ChangeSpec := { name := "dictStarts", fn := fun _ => fun
  | [d] => { results := [.lit (.bool true)], args := [d] }
  | _ => none }
def dictStartsRow : OpenClaim := { program := "ytfpkakedlapmkaa", sum := "3de59e0082bdab6682c8a5fc3a7968c2ebb568ef4dd26fad251c208b9d763e93", func := "tinder/tinderlaw09.DictStarts", spec := "dictStarts", inPlace := ["internal/bytealg.IndexByteString", "internal/bytealg.IndexString"], unfollowed := true, recurses := true, named := ["internal/bytealg.MaxLen"], apart := false }
def DictStartsSaid : Prop := dictStartsRow.holds Try.pinned (OpenSpec.ofChange dictStartsSpec)

/-- ITS FALSE NEIGHBOUR: 'it returns false'. Refute it at one input. -/
def dictStartsWrong : ChangeSpec := { name := "dictStarts", fn := fun _ => fun
  | [d] => { results := [.lit (.bool false)], args := [d] }
  | _ => none }
def DictStartsWrongFalsely : Prop := dictStartsRow.holds Try.pinned (OpenSpec.ofChange dictStartsWrong)

/-- 'tinderlaw09.DictSounds': WHATEVER THE INPUT: true; the input reads as it did. -/
def dictSoundsSpec : ChangeSpec := { name := "dictSounds", fn := fun _ => fun
  | [d1, d2, d3] => { results := [.lit (.bool true)], args := [d1, d2, d3] }
  | _ => none }
def dictSoundsRow : OpenClaim := { program := "ytfpkakedlapmkaa", sum := "3de59e0082bdab6682c8a5fc3a7968c2ebb568ef4dd26fad251c208b9d763e93", func := "tinder/tinderlaw09.DictSounds", spec := "dictSounds", inPlace := ["internal/bytealg.IndexByteString", "internal/bytealg.IndexString"], unfollowed := true, recurses := true, named := ["internal/bytealg.MaxLen"], apart := false }
def DictSoundsSaid : Prop := dictSoundsRow.holds Try.pinned (OpenSpec.ofChange dictSoundsSpec)

/-- ITS FALSE NEIGHBOUR: 'it returns false'. Refute it at one input. -/
def dictSoundsWrong : ChangeSpec := { name := "dictSounds", fn := fun _ => fun
  | [d1, d2, d3] => { results := [.lit (.bool false)], args := [d1, d2, d3] }
  | _ => none }
def DictSoundsWrongFalsely : Prop := dictSoundsRow.holds Try.pinned (OpenSpec.ofChange dictSoundsWrong)

/-- 'tinderlaw09.DictFinds': WHATEVER THE INPUT: true; the input reads as it did. -/
def dictFindsSpec : ChangeSpec := { name := "dictFinds", fn := fun _ => fun
  | [d1, d2, d3] => { results := [.lit (.bool true)], args := [d1, d2, d3] }
  | _ => none }
def dictFindsRow : OpenClaim := { program := "ytfpkakedlapmkaa", sum := "3de59e0082bdab6682c8a5fc3a7968c2ebb568ef4dd26fad251c208b9d763e93", func := "tinder/tinderlaw09.DictFinds", spec := "dictFinds", inPlace := ["internal/bytealg.IndexByteString", "internal/bytealg.IndexString"], unfollowed := true, recurses := true, named := ["internal/bytealg.MaxLen"], apart := false }
def DictFindsSaid : Prop := dictFindsRow.holds Try.pinned (OpenSpec.ofChange dictFindsSpec)

/-- ITS FALSE NEIGHBOUR: 'it returns false'. Refute it at one input. -/
def dictFindsWrong : ChangeSpec := { name := "dictFinds", fn := fun _ => fun
  | [d1, d2, d3] => { results := [.lit (.bool false)], args := [d1, d2, d3] }
  | _ => none }
def DictFindsWrongFalsely : Prop := dictFindsRow.holds Try.pinned (OpenSpec.ofChange dictFindsWrong)

/-- 'tinderlaw09.DictForms': WHATEVER THE INPUT: true; the input reads as it did. -/
def dictFormsSpec : ChangeSpec := { name := "dictForms", fn := fun _ => fun
  | [d] => { results := [.lit (.bool true)], args := [d] }
  | _ => none }
def dictFormsRow : OpenClaim := { program := "ytfpkakedlapmkaa", sum := "3de59e0082bdab6682c8a5fc3a7968c2ebb568ef4dd26fad251c208b9d763e93", func := "tinder/tinderlaw09.DictForms", spec := "dictForms", inPlace := ["internal/bytealg.IndexByteString", "internal/bytealg.IndexString"], unfollowed := true, recurses := true, named := ["internal/bytealg.MaxLen"], apart := false }
def DictFormsSaid : Prop := dictFormsRow.holds Try.pinned (OpenSpec.ofChange dictFormsSpec)

/-- ITS FALSE NEIGHBOUR: 'it returns false'. Refute it at one input. -/
def dictFormsWrong : ChangeSpec := { name := "dictForms", fn := fun _ => fun
  | [d] => { results := [.lit (.bool false)], args := [d] }
  | _ => none }
def DictFormsWrongFalsely : Prop := dictFormsRow.holds Try.pinned (OpenSpec.ofChange dictFormsWrong)

/-- 'tinderlaw09.DictDefines': WHATEVER THE INPUT: true; the input reads as it did. -/
def dictDefinesSpec : ChangeSpec := { name := "dictDefines", fn := fun _ => fun
  | [d1, d2] => { results := [.lit (.bool true)], args := [d1, d2] }
  | _ => none }
def dictDefinesRow : OpenClaim := { program := "ytfpkakedlapmkaa", sum := "3de59e0082bdab6682c8a5fc3a7968c2ebb568ef4dd26fad251c208b9d763e93", func := "tinder/tinderlaw09.DictDefines", spec := "dictDefines", inPlace := ["internal/bytealg.IndexByteString", "internal/bytealg.IndexString"], unfollowed := true, recurses := true, named := ["internal/bytealg.MaxLen"], apart := false }
def DictDefinesSaid : Prop := dictDefinesRow.holds Try.pinned (OpenSpec.ofChange dictDefinesSpec)

/-- ITS FALSE NEIGHBOUR: 'it returns false'. Refute it at one input. -/
def dictDefinesWrong : ChangeSpec := { name := "dictDefines", fn := fun _ => fun
  | [d1, d2] => { results := [.lit (.bool false)], args := [d1, d2] }
  | _ => none }
def DictDefinesWrongFalsely : Prop := dictDefinesRow.holds Try.pinned (OpenSpec.ofChange dictDefinesWrong)

/-- 'tinderlaw09.DictBinds': WHATEVER THE INPUT: true; the input reads as it did. -/
def dictBindsSpec : ChangeSpec := { name := "dictBinds", fn := fun _ => fun
  | [d1, d2, d3] => { results := [.lit (.bool true)], args := [d1, d2, d3] }
  | _ => none }
def dictBindsRow : OpenClaim := { program := "ytfpkakedlapmkaa", sum := "3de59e0082bdab6682c8a5fc3a7968c2ebb568ef4dd26fad251c208b9d763e93", func := "tinder/tinderlaw09.DictBinds", spec := "dictBinds", inPlace := ["internal/bytealg.IndexByteString", "internal/bytealg.IndexString"], unfollowed := true, recurses := true, named := ["internal/bytealg.MaxLen"], apart := false }
def DictBindsSaid : Prop := dictBindsRow.holds Try.pinned (OpenSpec.ofChange dictBindsSpec)

/-- ITS FALSE NEIGHBOUR: 'it returns false'. Refute it at one input. -/
def dictBindsWrong : ChangeSpec := { name := "dictBinds", fn := fun _ => fun
  | [d1, d2, d3] => { results := [.lit (.bool false)], args := [d1, d2, d3] }
  | _ => none }
def DictBindsWrongFalsely : Prop := dictBindsRow.holds Try.pinned (OpenSpec.ofChange dictBindsWrong)

/-- 'tinderlaw09.DictNewest': WHATEVER THE INPUT: true; the input reads as it did. -/
def dictNewestSpec : ChangeSpec := { name := "dictNewest", fn := fun _ => fun
  | [d1, d2, d3] => { results := [.lit (.bool true)], args := [d1, d2, d3] }
  | _ => none }
def dictNewestRow : OpenClaim := { program := "ytfpkakedlapmkaa", sum := "3de59e0082bdab6682c8a5fc3a7968c2ebb568ef4dd26fad251c208b9d763e93", func := "tinder/tinderlaw09.DictNewest", spec := "dictNewest", inPlace := ["internal/bytealg.IndexByteString", "internal/bytealg.IndexString"], unfollowed := true, recurses := true, named := ["internal/bytealg.MaxLen"], apart := false }
def DictNewestSaid : Prop := dictNewestRow.holds Try.pinned (OpenSpec.ofChange dictNewestSpec)

/-- ITS FALSE NEIGHBOUR: 'it returns false'. Refute it at one input. -/
def dictNewestWrong : ChangeSpec := { name := "dictNewest", fn := fun _ => fun
  | [d1, d2, d3] => { results := [.lit (.bool false)], args := [d1, d2, d3] }
  | _ => none }
def DictNewestWrongFalsely : Prop := dictNewestRow.holds Try.pinned (OpenSpec.ofChange dictNewestWrong)

/- THE SECOND FORM. 'bulk': how many values and letters a reading holds, each counted each time it is reached (what is shared counts as often as it is met; a slice's spare places count too). A statement '..UptoSaid' is the law's where the arguments, and the package variables that the reading takes, are together of bulk at most 1048576: NARROWER than '..Said'. Prove '..Said' where nothing that the law and all that it calls make is longer than what came in: it says more and counts as full. Else prove '..UptoSaid'. A law counts once. -/
mutual
def uptoBulk {H : Type} : DataW H → Nat
  | .lit (.string bytes) => bytes.length + 1
  | .lit _ => 1
  | .nil => 1
  | .ptr d => uptoBulk d + 1
  | .slice elems spare => uptoBulkAll elems + uptoBulkAll spare + 1
  | .agg parts => uptoBulkAll parts + 1
  | .iface _ d => uptoBulk d + 1
  | .map entries => uptoBulkEntries entries + 1
  | .held _ => 1
def uptoBulkAll {H : Type} : List (DataW H) → Nat
  | [] => 0
  | d :: r => uptoBulk d + uptoBulkAll r
def uptoBulkEntries {H : Type} : List (Lit × DataW H) → Nat
  | [] => 0
  | x :: r => uptoBulkEntry x + uptoBulkEntries r
def uptoBulkEntry {H : Type} : Lit × DataW H → Nat
  | (.string bytes, d) => bytes.length + uptoBulk d + 1
  | (_, d) => uptoBulk d + 1
 end
def uptoSmall : (H : Type) → List (DataW H) → Bool := fun _ ds => decide (uptoBulkAll ds ≤ 1048576)
def OpenSpec.upto (s : _root_.Go.ChangeSpec) : _root_.Go.OpenSpec := { _root_.Go.OpenSpec.ofChange s with cond := some uptoSmall }

/-- 'tinderlaw09.DictStarts', WHERE WHAT IT READS IS OF BULK AT MOST 1048576: true; the input reads as it did. -/
def dictStartsUptoRow : OpenClaim := { program := "ytfpkakedlapmkaa", sum := "3de59e0082bdab6682c8a5fc3a7968c2ebb568ef4dd26fad251c208b9d763e93", func := "tinder/tinderlaw09.DictStarts", spec := "dictStarts", inPlace := ["internal/bytealg.IndexByteString", "internal/bytealg.IndexString"], unfollowed := true, recurses := true, named := ["internal/bytealg.MaxLen"], apart := false, narrowed := true }
def DictStartsUptoSaid : Prop := dictStartsUptoRow.holds Try.pinned (OpenSpec.upto dictStartsSpec)

/-- 'tinderlaw09.DictSounds', WHERE WHAT IT READS IS OF BULK AT MOST 1048576: true; the input reads as it did. -/
def dictSoundsUptoRow : OpenClaim := { program := "ytfpkakedlapmkaa", sum := "3de59e0082bdab6682c8a5fc3a7968c2ebb568ef4dd26fad251c208b9d763e93", func := "tinder/tinderlaw09.DictSounds", spec := "dictSounds", inPlace := ["internal/bytealg.IndexByteString", "internal/bytealg.IndexString"], unfollowed := true, recurses := true, named := ["internal/bytealg.MaxLen"], apart := false, narrowed := true }
def DictSoundsUptoSaid : Prop := dictSoundsUptoRow.holds Try.pinned (OpenSpec.upto dictSoundsSpec)

/-- 'tinderlaw09.DictFinds', WHERE WHAT IT READS IS OF BULK AT MOST 1048576: true; the input reads as it did. -/
def dictFindsUptoRow : OpenClaim := { program := "ytfpkakedlapmkaa", sum := "3de59e0082bdab6682c8a5fc3a7968c2ebb568ef4dd26fad251c208b9d763e93", func := "tinder/tinderlaw09.DictFinds", spec := "dictFinds", inPlace := ["internal/bytealg.IndexByteString", "internal/bytealg.IndexString"], unfollowed := true, recurses := true, named := ["internal/bytealg.MaxLen"], apart := false, narrowed := true }
def DictFindsUptoSaid : Prop := dictFindsUptoRow.holds Try.pinned (OpenSpec.upto dictFindsSpec)

/-- 'tinderlaw09.DictForms', WHERE WHAT IT READS IS OF BULK AT MOST 1048576: true; the input reads as it did. -/
def dictFormsUptoRow : OpenClaim := { program := "ytfpkakedlapmkaa", sum := "3de59e0082bdab6682c8a5fc3a7968c2ebb568ef4dd26fad251c208b9d763e93", func := "tinder/tinderlaw09.DictForms", spec := "dictForms", inPlace := ["internal/bytealg.IndexByteString", "internal/bytealg.IndexString"], unfollowed := true, recurses := true, named := ["internal/bytealg.MaxLen"], apart := false, narrowed := true }
def DictFormsUptoSaid : Prop := dictFormsUptoRow.holds Try.pinned (OpenSpec.upto dictFormsSpec)

/-- 'tinderlaw09.DictDefines', WHERE WHAT IT READS IS OF BULK AT MOST 1048576: true; the input reads as it did. -/
def dictDefinesUptoRow : OpenClaim := { program := "ytfpkakedlapmkaa", sum := "3de59e0082bdab6682c8a5fc3a7968c2ebb568ef4dd26fad251c208b9d763e93", func := "tinder/tinderlaw09.DictDefines", spec := "dictDefines", inPlace := ["internal/bytealg.IndexByteString", "internal/bytealg.IndexString"], unfollowed := true, recurses := true, named := ["internal/bytealg.MaxLen"], apart := false, narrowed := true }
def DictDefinesUptoSaid : Prop := dictDefinesUptoRow.holds Try.pinned (OpenSpec.upto dictDefinesSpec)

/-- 'tinderlaw09.DictBinds', WHERE WHAT IT READS IS OF BULK AT MOST 1048576: true; the input reads as it did. -/
def dictBindsUptoRow : OpenClaim := { program := "ytfpkakedlapmkaa", sum := "3de59e0082bdab6682c8a5fc3a7968c2ebb568ef4dd26fad251c208b9d763e93", func := "tinder/tinderlaw09.DictBinds", spec := "dictBinds", inPlace := ["internal/bytealg.IndexByteString", "internal/bytealg.IndexString"], unfollowed := true, recurses := true, named := ["internal/bytealg.MaxLen"], apart := false, narrowed := true }
def DictBindsUptoSaid : Prop := dictBindsUptoRow.holds Try.pinned (OpenSpec.upto dictBindsSpec)

/-- 'tinderlaw09.DictNewest', WHERE WHAT IT READS IS OF BULK AT MOST 1048576: true; the input reads as it did. -/
def dictNewestUptoRow : OpenClaim := { program := "ytfpkakedlapmkaa", sum := "3de59e0082bdab6682c8a5fc3a7968c2ebb568ef4dd26fad251c208b9d763e93", func := "tinder/tinderlaw09.DictNewest", spec := "dictNewest", inPlace := ["internal/bytealg.IndexByteString", "internal/bytealg.IndexString"], unfollowed := true, recurses := true, named := ["internal/bytealg.MaxLen"], apart := false, narrowed := true }
def DictNewestUptoSaid : Prop := dictNewestUptoRow.holds Try.pinned (OpenSpec.upto dictNewestSpec)

end Rows
end Go.Proofs.Ytfpkakedlapmkaa
