/-
  No cell of these rows narrows 'for every input' (looked for: loops, veiled, ifaces, maps, wideKeys, modest, calm, conditions, laid).
  DERIVED. THE GIVEN ROWS OF THIS SEAT. 5 by the template 'for every input the law returns true; each argument reads behind the call as it read before'; 0 by the template 'total and deterministic' (their statements: YtpjlhehmobhijaaTotals.lean).
  GIVEN WITH THE SEED: the statements are not yours to turn. If you find one false, say at which input.
  Laid BY PROGRAM, IN A SANDBOX (cutbox-rows.mjs): the forced cells as the released guide's own fill.sh prints them over the translation 57a210ae3c56172c… (all of the seat's roots in one cut). By AI agents, Wed Nov 11 2026. No macro, syntax, notation, axiom, sorry.
-/
import Derived.Test.YtpjlhehmobhijaaChecked
import GoSem.Claim
import GoSem.ClaimJoined
import GoSem.ClaimMapViews
import Derived.JoinedTies
import Derived.KernelRfl
namespace Go.Proofs.Ytpjlhehmobhijaa
/- THE CELL 'sum', in the pinned program and in every row, IS THE sha256 OF THE DUMP (.gsa) THAT YtpjlhehmobhijaaProg.lean LOADS. Nothing in Lean hashes anything: it is a label: what it is worth is what the hold of that sum in a sandbox is worth. -/
noncomputable def Try.pinned : Pinned := { name := "ytpjlhehmobhijaa", sum := "57a210ae3c56172c0d6c74f8b5f1969a9772c71127682379e5c0813f74fe8bfb", checked := Try.checked }
namespace Rows
def none {H : Type} : Left H := { results := [], args := [] }

/-- 'tinderlaw20.BlockPlans': WHATEVER THE INPUT: true; the input reads as it did. -/
def blockPlansSpec : ChangeSpec := { name := "blockPlans", fn := fun _ => fun
  | [d1, d2] => { results := [.lit (.bool true)], args := [d1, d2] }
  | _ => none }
def blockPlansRow : OpenClaim := { program := "ytpjlhehmobhijaa", sum := "57a210ae3c56172c0d6c74f8b5f1969a9772c71127682379e5c0813f74fe8bfb", func := "tinder/tinderlaw20.BlockPlans", spec := "blockPlans", apart := false }
def BlockPlansSaid : Prop := blockPlansRow.holds Try.pinned (OpenSpec.ofChange blockPlansSpec)

/-- ITS FALSE NEIGHBOUR: 'it returns false'. Refute it at one input. -/
def blockPlansWrong : ChangeSpec := { name := "blockPlans", fn := fun _ => fun
  | [d1, d2] => { results := [.lit (.bool false)], args := [d1, d2] }
  | _ => none }
def BlockPlansWrongFalsely : Prop := blockPlansRow.holds Try.pinned (OpenSpec.ofChange blockPlansWrong)

/-- 'tinderlaw20.BlockSectors': WHATEVER THE INPUT: true; the input reads as it did. -/
def blockSectorsSpec : ChangeSpec := { name := "blockSectors", fn := fun _ => fun
  | [d1, d2, d3] => { results := [.lit (.bool true)], args := [d1, d2, d3] }
  | _ => none }
def blockSectorsRow : OpenClaim := { program := "ytpjlhehmobhijaa", sum := "57a210ae3c56172c0d6c74f8b5f1969a9772c71127682379e5c0813f74fe8bfb", func := "tinder/tinderlaw20.BlockSectors", spec := "blockSectors", apart := false }
def BlockSectorsSaid : Prop := blockSectorsRow.holds Try.pinned (OpenSpec.ofChange blockSectorsSpec)

/-- ITS FALSE NEIGHBOUR: 'it returns false'. Refute it at one input. -/
def blockSectorsWrong : ChangeSpec := { name := "blockSectors", fn := fun _ => fun
  | [d1, d2, d3] => { results := [.lit (.bool false)], args := [d1, d2, d3] }
  | _ => none }
def BlockSectorsWrongFalsely : Prop := blockSectorsRow.holds Try.pinned (OpenSpec.ofChange blockSectorsWrong)

/-- 'tinderlaw20.BlockThrough': WHATEVER THE INPUT: true; the input reads as it did. -/
def blockThroughSpec : ChangeSpec := { name := "blockThrough", fn := fun _ => fun
  | [d1, d2, d3] => { results := [.lit (.bool true)], args := [d1, d2, d3] }
  | _ => none }
def blockThroughRow : OpenClaim := { program := "ytpjlhehmobhijaa", sum := "57a210ae3c56172c0d6c74f8b5f1969a9772c71127682379e5c0813f74fe8bfb", func := "tinder/tinderlaw20.BlockThrough", spec := "blockThrough", apart := false }
def BlockThroughSaid : Prop := blockThroughRow.holds Try.pinned (OpenSpec.ofChange blockThroughSpec)

/-- ITS FALSE NEIGHBOUR: 'it returns false'. Refute it at one input. -/
def blockThroughWrong : ChangeSpec := { name := "blockThrough", fn := fun _ => fun
  | [d1, d2, d3] => { results := [.lit (.bool false)], args := [d1, d2, d3] }
  | _ => none }
def BlockThroughWrongFalsely : Prop := blockThroughRow.holds Try.pinned (OpenSpec.ofChange blockThroughWrong)

/-- 'tinderlaw20.BlockBytes': WHATEVER THE INPUT: true; the input reads as it did. -/
def blockBytesSpec : ChangeSpec := { name := "blockBytes", fn := fun _ => fun
  | [d1, d2, d3] => { results := [.lit (.bool true)], args := [d1, d2, d3] }
  | _ => none }
def blockBytesRow : OpenClaim := { program := "ytpjlhehmobhijaa", sum := "57a210ae3c56172c0d6c74f8b5f1969a9772c71127682379e5c0813f74fe8bfb", func := "tinder/tinderlaw20.BlockBytes", spec := "blockBytes", apart := false }
def BlockBytesSaid : Prop := blockBytesRow.holds Try.pinned (OpenSpec.ofChange blockBytesSpec)

/-- ITS FALSE NEIGHBOUR: 'it returns false'. Refute it at one input. -/
def blockBytesWrong : ChangeSpec := { name := "blockBytes", fn := fun _ => fun
  | [d1, d2, d3] => { results := [.lit (.bool false)], args := [d1, d2, d3] }
  | _ => none }
def BlockBytesWrongFalsely : Prop := blockBytesRow.holds Try.pinned (OpenSpec.ofChange blockBytesWrong)

/-- 'tinderlaw20.BlockRuns': WHATEVER THE INPUT: true; the input reads as it did. -/
def blockRunsSpec : ChangeSpec := { name := "blockRuns", fn := fun _ => fun
  | [d1, d2, d3] => { results := [.lit (.bool true)], args := [d1, d2, d3] }
  | _ => none }
def blockRunsRow : OpenClaim := { program := "ytpjlhehmobhijaa", sum := "57a210ae3c56172c0d6c74f8b5f1969a9772c71127682379e5c0813f74fe8bfb", func := "tinder/tinderlaw20.BlockRuns", spec := "blockRuns", apart := false }
def BlockRunsSaid : Prop := blockRunsRow.holds Try.pinned (OpenSpec.ofChange blockRunsSpec)

/-- ITS FALSE NEIGHBOUR: 'it returns false'. Refute it at one input. -/
def blockRunsWrong : ChangeSpec := { name := "blockRuns", fn := fun _ => fun
  | [d1, d2, d3] => { results := [.lit (.bool false)], args := [d1, d2, d3] }
  | _ => none }
def BlockRunsWrongFalsely : Prop := blockRunsRow.holds Try.pinned (OpenSpec.ofChange blockRunsWrong)

/- THE SECOND FORM. 'bulk': how many values and letters a reading holds, each counted each time it is reached (what is shared counts as often as it is met; a slice's spare places count too). A statement '..UptoSaid' is the law's where the arguments, and the package variables that the reading takes, are together of bulk at most 1048576: NARROWER than '..Said'. Prove '..Said' where nothing that the law and all that it calls make is longer than what came in: it says more and counts as full. Else prove '..UptoSaid'. A law counts once. -/
mutual
def uptoBulk {H : Type} : DataW H → Nat
  | .lit (.string bytes) => bytes.length + 1
  | .lit _ => 1
  | .nil => 1
  | .ptr d => uptoBulk d + 1
  | .slice elems spare => uptoBulkAll elems + uptoBulkAll spare + 1
  | .agg parts => uptoBulkAll parts + 1
  | .iface _ d => uptoBulk d + 1
  | .map entries => uptoBulkEntries entries + 1
  | .held _ => 1
def uptoBulkAll {H : Type} : List (DataW H) → Nat
  | [] => 0
  | d :: r => uptoBulk d + uptoBulkAll r
def uptoBulkEntries {H : Type} : List (Lit × DataW H) → Nat
  | [] => 0
  | x :: r => uptoBulkEntry x + uptoBulkEntries r
def uptoBulkEntry {H : Type} : Lit × DataW H → Nat
  | (.string bytes, d) => bytes.length + uptoBulk d + 1
  | (_, d) => uptoBulk d + 1
 end
def uptoSmall : (H : Type) → List (DataW H) → Bool := fun _ ds => decide (uptoBulkAll ds ≤ 1048576)
def OpenSpec.upto (s : _root_.Go.ChangeSpec) : _root_.Go.OpenSpec := { _root_.Go.OpenSpec.ofChange s with cond := some uptoSmall }

/-- 'tinderlaw20.BlockPlans', WHERE WHAT IT READS IS OF BULK AT MOST 1048576: true; the input reads as it did. -/
def blockPlansUptoRow : OpenClaim := { program := "ytpjlhehmobhijaa", sum := "57a210ae3c56172c0d6c74f8b5f1969a9772c71127682379e5c0813f74fe8bfb", func := "tinder/tinderlaw20.BlockPlans", spec := "blockPlans", apart := false, narrowed := true }
def BlockPlansUptoSaid : Prop := blockPlansUptoRow.holds Try.pinned (OpenSpec.upto blockPlansSpec)

/-- 'tinderlaw20.BlockSectors', WHERE WHAT IT READS IS OF BULK AT MOST 1048576: true; the input reads as it did. -/
def blockSectorsUptoRow : OpenClaim := { program := "ytpjlhehmobhijaa", sum := "57a210ae3c56172c0d6c74f8b5f1969a9772c71127682379e5c0813f74fe8bfb", func := "tinder/tinderlaw20.BlockSectors", spec := "blockSectors", apart := false, narrowed := true }
def BlockSectorsUptoSaid : Prop := blockSectorsUptoRow.holds Try.pinned (OpenSpec.upto blockSectorsSpec)

/-- 'tinderlaw20.BlockThrough', WHERE WHAT IT READS IS OF BULK AT MOST 1048576: true; the input reads as it did. -/
def blockThroughUptoRow : OpenClaim := { program := "ytpjlhehmobhijaa", sum := "57a210ae3c56172c0d6c74f8b5f1969a9772c71127682379e5c0813f74fe8bfb", func := "tinder/tinderlaw20.BlockThrough", spec := "blockThrough", apart := false, narrowed := true }
def BlockThroughUptoSaid : Prop := blockThroughUptoRow.holds Try.pinned (OpenSpec.upto blockThroughSpec)

/-- 'tinderlaw20.BlockBytes', WHERE WHAT IT READS IS OF BULK AT MOST 1048576: true; the input reads as it did. -/
def blockBytesUptoRow : OpenClaim := { program := "ytpjlhehmobhijaa", sum := "57a210ae3c56172c0d6c74f8b5f1969a9772c71127682379e5c0813f74fe8bfb", func := "tinder/tinderlaw20.BlockBytes", spec := "blockBytes", apart := false, narrowed := true }
def BlockBytesUptoSaid : Prop := blockBytesUptoRow.holds Try.pinned (OpenSpec.upto blockBytesSpec)

/-- 'tinderlaw20.BlockRuns', WHERE WHAT IT READS IS OF BULK AT MOST 1048576: true; the input reads as it did. -/
def blockRunsUptoRow : OpenClaim := { program := "ytpjlhehmobhijaa", sum := "57a210ae3c56172c0d6c74f8b5f1969a9772c71127682379e5c0813f74fe8bfb", func := "tinder/tinderlaw20.BlockRuns", spec := "blockRuns", apart := false, narrowed := true }
def BlockRunsUptoSaid : Prop := blockRunsUptoRow.holds Try.pinned (OpenSpec.upto blockRunsSpec)

end Rows
end Go.Proofs.Ytpjlhehmobhijaa
