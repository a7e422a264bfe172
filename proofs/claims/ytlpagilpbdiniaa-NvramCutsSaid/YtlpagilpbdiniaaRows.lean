/-
  No cell of these rows narrows 'for every input' (looked for: loops, veiled, ifaces, maps, wideKeys, modest, calm, conditions, laid).
  DERIVED. THE GIVEN ROWS OF THIS SEAT. 7 by the template 'for every input the law returns true; each argument reads behind the call as it read before'; 0 by the template 'total and deterministic' (their statements: YtlpagilpbdiniaaTotals.lean).
  GIVEN WITH THE SEED: the statements are not yours to turn. If you find one false, say at which input.
  Laid BY PROGRAM, IN A SANDBOX (cutbox-rows.mjs): the forced cells as the released guide's own fill.sh prints them over the translation b328b2a13712f273… (all of the seat's roots in one cut). By AI agents, Wed Nov 11 2026. No macro, syntax, notation, axiom, sorry.
-/
import Derived.Test.YtlpagilpbdiniaaChecked
import GoSem.Claim
import GoSem.ClaimJoined
import GoSem.ClaimMapViews
import Derived.JoinedTies
import Derived.KernelRfl
namespace Go.Proofs.Ytlpagilpbdiniaa
/- THE CELL 'sum', in the pinned program and in every row, IS THE sha256 OF THE DUMP (.gsa) THAT YtlpagilpbdiniaaProg.lean LOADS. Nothing in Lean hashes anything: it is a label: what it is worth is what the hold of that sum in a sandbox is worth. -/
noncomputable def Try.pinned : Pinned := { name := "ytlpagilpbdiniaa", sum := "b328b2a13712f2732fdd3f42f6ad69d7f4cd5c0438499ea4b0c5ded08d32757f", checked := Try.checked }
namespace Rows
def none {H : Type} : Left H := { results := [], args := [] }

/-- 'tinderlaw18.NvramSums': WHATEVER THE INPUT: true; the input reads as it did. -/
def nvramSumsSpec : ChangeSpec := { name := "nvramSums", fn := fun _ => fun
  | [d1, d2] => { results := [.lit (.bool true)], args := [d1, d2] }
  | _ => none }
def nvramSumsRow : OpenClaim := { program := "ytlpagilpbdiniaa", sum := "b328b2a13712f2732fdd3f42f6ad69d7f4cd5c0438499ea4b0c5ded08d32757f", func := "tinder/tinderlaw18.NvramSums", spec := "nvramSums", unfollowed := true, recurses := true, apart := false }
def NvramSumsSaid : Prop := nvramSumsRow.holds Try.pinned (OpenSpec.ofChange nvramSumsSpec)

/-- ITS FALSE NEIGHBOUR: 'it returns false'. Refute it at one input. -/
def nvramSumsWrong : ChangeSpec := { name := "nvramSums", fn := fun _ => fun
  | [d1, d2] => { results := [.lit (.bool false)], args := [d1, d2] }
  | _ => none }
def NvramSumsWrongFalsely : Prop := nvramSumsRow.holds Try.pinned (OpenSpec.ofChange nvramSumsWrong)

/-- 'tinderlaw18.NvramRecovers': WHATEVER THE INPUT: true; the input reads as it did. -/
def nvramRecoversSpec : ChangeSpec := { name := "nvramRecovers", fn := fun _ => fun
  | [d] => { results := [.lit (.bool true)], args := [d] }
  | _ => none }
def nvramRecoversRow : OpenClaim := { program := "ytlpagilpbdiniaa", sum := "b328b2a13712f2732fdd3f42f6ad69d7f4cd5c0438499ea4b0c5ded08d32757f", func := "tinder/tinderlaw18.NvramRecovers", spec := "nvramRecovers", unfollowed := true, recurses := true, apart := false }
def NvramRecoversSaid : Prop := nvramRecoversRow.holds Try.pinned (OpenSpec.ofChange nvramRecoversSpec)

/-- ITS FALSE NEIGHBOUR: 'it returns false'. Refute it at one input. -/
def nvramRecoversWrong : ChangeSpec := { name := "nvramRecovers", fn := fun _ => fun
  | [d] => { results := [.lit (.bool false)], args := [d] }
  | _ => none }
def NvramRecoversWrongFalsely : Prop := nvramRecoversRow.holds Try.pinned (OpenSpec.ofChange nvramRecoversWrong)

/-- 'tinderlaw18.NvramPlans': WHATEVER THE INPUT: true; the input reads as it did. -/
def nvramPlansSpec : ChangeSpec := { name := "nvramPlans", fn := fun _ => fun
  | [d1, d2] => { results := [.lit (.bool true)], args := [d1, d2] }
  | _ => none }
def nvramPlansRow : OpenClaim := { program := "ytlpagilpbdiniaa", sum := "b328b2a13712f2732fdd3f42f6ad69d7f4cd5c0438499ea4b0c5ded08d32757f", func := "tinder/tinderlaw18.NvramPlans", spec := "nvramPlans", unfollowed := true, recurses := true, apart := false }
def NvramPlansSaid : Prop := nvramPlansRow.holds Try.pinned (OpenSpec.ofChange nvramPlansSpec)

/-- ITS FALSE NEIGHBOUR: 'it returns false'. Refute it at one input. -/
def nvramPlansWrong : ChangeSpec := { name := "nvramPlans", fn := fun _ => fun
  | [d1, d2] => { results := [.lit (.bool false)], args := [d1, d2] }
  | _ => none }
def NvramPlansWrongFalsely : Prop := nvramPlansRow.holds Try.pinned (OpenSpec.ofChange nvramPlansWrong)

/-- 'tinderlaw18.NvramApplies': WHATEVER THE INPUT: true; the input reads as it did. -/
def nvramAppliesSpec : ChangeSpec := { name := "nvramApplies", fn := fun _ => fun
  | [d1, d2, d3] => { results := [.lit (.bool true)], args := [d1, d2, d3] }
  | _ => none }
def nvramAppliesRow : OpenClaim := { program := "ytlpagilpbdiniaa", sum := "b328b2a13712f2732fdd3f42f6ad69d7f4cd5c0438499ea4b0c5ded08d32757f", func := "tinder/tinderlaw18.NvramApplies", spec := "nvramApplies", unfollowed := true, recurses := true, apart := false }
def NvramAppliesSaid : Prop := nvramAppliesRow.holds Try.pinned (OpenSpec.ofChange nvramAppliesSpec)

/-- ITS FALSE NEIGHBOUR: 'it returns false'. Refute it at one input. -/
def nvramAppliesWrong : ChangeSpec := { name := "nvramApplies", fn := fun _ => fun
  | [d1, d2, d3] => { results := [.lit (.bool false)], args := [d1, d2, d3] }
  | _ => none }
def NvramAppliesWrongFalsely : Prop := nvramAppliesRow.holds Try.pinned (OpenSpec.ofChange nvramAppliesWrong)

/-- 'tinderlaw18.NvramCut': WHATEVER THE INPUT: true; the input reads as it did. -/
def nvramCutSpec : ChangeSpec := { name := "nvramCut", fn := fun _ => fun
  | [d1, d2, d3] => { results := [.lit (.bool true)], args := [d1, d2, d3] }
  | _ => none }
def nvramCutRow : OpenClaim := { program := "ytlpagilpbdiniaa", sum := "b328b2a13712f2732fdd3f42f6ad69d7f4cd5c0438499ea4b0c5ded08d32757f", func := "tinder/tinderlaw18.NvramCut", spec := "nvramCut", unfollowed := true, recurses := true, apart := false }
def NvramCutSaid : Prop := nvramCutRow.holds Try.pinned (OpenSpec.ofChange nvramCutSpec)

/-- ITS FALSE NEIGHBOUR: 'it returns false'. Refute it at one input. -/
def nvramCutWrong : ChangeSpec := { name := "nvramCut", fn := fun _ => fun
  | [d1, d2, d3] => { results := [.lit (.bool false)], args := [d1, d2, d3] }
  | _ => none }
def NvramCutWrongFalsely : Prop := nvramCutRow.holds Try.pinned (OpenSpec.ofChange nvramCutWrong)

/-- 'tinderlaw18.NvramCuts': WHATEVER THE INPUT: true; the input reads as it did. -/
def nvramCutsSpec : ChangeSpec := { name := "nvramCuts", fn := fun _ => fun
  | [d1, d2, d3] => { results := [.lit (.bool true)], args := [d1, d2, d3] }
  | _ => none }
def nvramCutsRow : OpenClaim := { program := "ytlpagilpbdiniaa", sum := "b328b2a13712f2732fdd3f42f6ad69d7f4cd5c0438499ea4b0c5ded08d32757f", func := "tinder/tinderlaw18.NvramCuts", spec := "nvramCuts", unfollowed := true, recurses := true, apart := false }
def NvramCutsSaid : Prop := nvramCutsRow.holds Try.pinned (OpenSpec.ofChange nvramCutsSpec)

/-- ITS FALSE NEIGHBOUR: 'it returns false'. Refute it at one input. -/
def nvramCutsWrong : ChangeSpec := { name := "nvramCuts", fn := fun _ => fun
  | [d1, d2, d3] => { results := [.lit (.bool false)], args := [d1, d2, d3] }
  | _ => none }
def NvramCutsWrongFalsely : Prop := nvramCutsRow.holds Try.pinned (OpenSpec.ofChange nvramCutsWrong)

/-- 'tinderlaw18.NvramTells': WHATEVER THE INPUT: true; the input reads as it did. -/
def nvramTellsSpec : ChangeSpec := { name := "nvramTells", fn := fun _ => fun
  | [d1, d2, d3] => { results := [.lit (.bool true)], args := [d1, d2, d3] }
  | _ => none }
def nvramTellsRow : OpenClaim := { program := "ytlpagilpbdiniaa", sum := "b328b2a13712f2732fdd3f42f6ad69d7f4cd5c0438499ea4b0c5ded08d32757f", func := "tinder/tinderlaw18.NvramTells", spec := "nvramTells", unfollowed := true, recurses := true, apart := false }
def NvramTellsSaid : Prop := nvramTellsRow.holds Try.pinned (OpenSpec.ofChange nvramTellsSpec)

/-- ITS FALSE NEIGHBOUR: 'it returns false'. Refute it at one input. -/
def nvramTellsWrong : ChangeSpec := { name := "nvramTells", fn := fun _ => fun
  | [d1, d2, d3] => { results := [.lit (.bool false)], args := [d1, d2, d3] }
  | _ => none }
def NvramTellsWrongFalsely : Prop := nvramTellsRow.holds Try.pinned (OpenSpec.ofChange nvramTellsWrong)

/- THE SECOND FORM. 'bulk': how many values and letters a reading holds, each counted each time it is reached (what is shared counts as often as it is met; a slice's spare places count too). A statement '..UptoSaid' is the law's where the arguments, and the package variables that the reading takes, are together of bulk at most 1048576: NARROWER than '..Said'. Prove '..Said' where nothing that the law and all that it calls make is longer than what came in: it says more and counts as full. Else prove '..UptoSaid'. A law counts once. -/
mutual
def uptoBulk {H : Type} : DataW H → Nat
  | .lit (.string bytes) => bytes.length + 1
  | .lit _ => 1
  | .nil => 1
  | .ptr d => uptoBulk d + 1
  | .slice elems spare => uptoBulkAll elems + uptoBulkAll spare + 1
  | .agg parts => uptoBulkAll parts + 1
  | .iface _ d => uptoBulk d + 1
  | .map entries => uptoBulkEntries entries + 1
  | .held _ => 1
def uptoBulkAll {H : Type} : List (DataW H) → Nat
  | [] => 0
  | d :: r => uptoBulk d + uptoBulkAll r
def uptoBulkEntries {H : Type} : List (Lit × DataW H) → Nat
  | [] => 0
  | x :: r => uptoBulkEntry x + uptoBulkEntries r
def uptoBulkEntry {H : Type} : Lit × DataW H → Nat
  | (.string bytes, d) => bytes.length + uptoBulk d + 1
  | (_, d) => uptoBulk d + 1
 end
def uptoSmall : (H : Type) → List (DataW H) → Bool := fun _ ds => decide (uptoBulkAll ds ≤ 1048576)
def OpenSpec.upto (s : _root_.Go.ChangeSpec) : _root_.Go.OpenSpec := { _root_.Go.OpenSpec.ofChange s with cond := some uptoSmall }

/-- 'tinderlaw18.NvramSums', WHERE WHAT IT READS IS OF BULK AT MOST 1048576: true; the input reads as it did. -/
def nvramSumsUptoRow : OpenClaim := { program := "ytlpagilpbdiniaa", sum := "b328b2a13712f2732fdd3f42f6ad69d7f4cd5c0438499ea4b0c5ded08d32757f", func := "tinder/tinderlaw18.NvramSums", spec := "nvramSums", unfollowed := true, recurses := true, apart := false, narrowed := true }
def NvramSumsUptoSaid : Prop := nvramSumsUptoRow.holds Try.pinned (OpenSpec.upto nvramSumsSpec)

/-- 'tinderlaw18.NvramRecovers', WHERE WHAT IT READS IS OF BULK AT MOST 1048576: true; the input reads as it did. -/
def nvramRecoversUptoRow : OpenClaim := { program := "ytlpagilpbdiniaa", sum := "b328b2a13712f2732fdd3f42f6ad69d7f4cd5c0438499ea4b0c5ded08d32757f", func := "tinder/tinderlaw18.NvramRecovers", spec := "nvramRecovers", unfollowed := true, recurses := true, apart := false, narrowed := true }
def NvramRecoversUptoSaid : Prop := nvramRecoversUptoRow.holds Try.pinned (OpenSpec.upto nvramRecoversSpec)

/-- 'tinderlaw18.NvramPlans', WHERE WHAT IT READS IS OF BULK AT MOST 1048576: true; the input reads as it did. -/
def nvramPlansUptoRow : OpenClaim := { program := "ytlpagilpbdiniaa", sum := "b328b2a13712f2732fdd3f42f6ad69d7f4cd5c0438499ea4b0c5ded08d32757f", func := "tinder/tinderlaw18.NvramPlans", spec := "nvramPlans", unfollowed := true, recurses := true, apart := false, narrowed := true }
def NvramPlansUptoSaid : Prop := nvramPlansUptoRow.holds Try.pinned (OpenSpec.upto nvramPlansSpec)

/-- 'tinderlaw18.NvramApplies', WHERE WHAT IT READS IS OF BULK AT MOST 1048576: true; the input reads as it did. -/
def nvramAppliesUptoRow : OpenClaim := { program := "ytlpagilpbdiniaa", sum := "b328b2a13712f2732fdd3f42f6ad69d7f4cd5c0438499ea4b0c5ded08d32757f", func := "tinder/tinderlaw18.NvramApplies", spec := "nvramApplies", unfollowed := true, recurses := true, apart := false, narrowed := true }
def NvramAppliesUptoSaid : Prop := nvramAppliesUptoRow.holds Try.pinned (OpenSpec.upto nvramAppliesSpec)

/-- 'tinderlaw18.NvramCut', WHERE WHAT IT READS IS OF BULK AT MOST 1048576: true; the input reads as it did. -/
def nvramCutUptoRow : OpenClaim := { program := "ytlpagilpbdiniaa", sum := "b328b2a13712f2732fdd3f42f6ad69d7f4cd5c0438499ea4b0c5ded08d32757f", func := "tinder/tinderlaw18.NvramCut", spec := "nvramCut", unfollowed := true, recurses := true, apart := false, narrowed := true }
def NvramCutUptoSaid : Prop := nvramCutUptoRow.holds Try.pinned (OpenSpec.upto nvramCutSpec)

/-- 'tinderlaw18.NvramCuts', WHERE WHAT IT READS IS OF BULK AT MOST 1048576: true; the input reads as it did. -/
def nvramCutsUptoRow : OpenClaim := { program := "ytlpagilpbdiniaa", sum := "b328b2a13712f2732fdd3f42f6ad69d7f4cd5c0438499ea4b0c5ded08d32757f", func := "tinder/tinderlaw18.NvramCuts", spec := "nvramCuts", unfollowed := true, recurses := true, apart := false, narrowed := true }
def NvramCutsUptoSaid : Prop := nvramCutsUptoRow.holds Try.pinned (OpenSpec.upto nvramCutsSpec)

/-- 'tinderlaw18.NvramTells', WHERE WHAT IT READS IS OF BULK AT MOST 1048576: true; the input reads as it did. -/
def nvramTellsUptoRow : OpenClaim := { program := "ytlpagilpbdiniaa", sum := "b328b2a13712f2732fdd3f42f6ad69d7f4cd5c0438499ea4b0c5ded08d32757f", func := "tinder/tinderlaw18.NvramTells", spec := "nvramTells", unfollowed := true, recurses := true, apart := false, narrowed := true }
def NvramTellsUptoSaid : Prop := nvramTellsUptoRow.holds Try.pinned (OpenSpec.upto nvramTellsSpec)

end Rows
end Go.Proofs.Ytlpagilpbdiniaa
