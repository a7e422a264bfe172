/- The listed variables of this seat: their list, that the heap that the door's own run leaves meets it, and what the tables of whole numbers among them hold. -/
import Derived.Test.YtlhnaplmphdhlaaDoorRows
import Derived.Test.YtlhnaplmphdhlaaDoorQ0
import Derived.Lib.LaidTab
import Derived.LaidMore
import Derived.ProofKit
import Derived.OpenShut
import Derived.MakeChecks
import Derived.Stop.LaidErr
set_option linter.unusedVariables false
namespace Go.Proofs.YtlhnaplmphdhlaaDoor.Q
open Go.ChangeShapes Go.WideShapes Go.ChangeAt Go.RowKit
def laidL : List (String × DataW Unit) := Rows.propNamesRow.laid
structure Tabs (w : World) : Prop where
theorem tabs_of_laid {W : World} (h : laidMetH Tryd.prog laidL W) : Tabs W := by
  rw [MakeChecks.laidMetH_plain _ _ _ (by kernel_rfl)] at h
  refine ⟨⟩
theorem var_below {P : Program} {g : Nat} {W W' : World} {n : String} {cs : Array Value} (h : Below W.heap.size W W') (hg : P.globalNamed n = some g) (hv : W.var? P n = some cs) : W'.var? P n = some cs := by
  unfold World.var? at hv ⊢
  simp only [hg, Option.bind_some] at hv ⊢
  rw [h.block g (by
    rcases Nat.lt_or_ge g W.heap.size with h1 | h1
    · exact h1
    · rw [Array.getElem?_eq_none h1] at hv
      simp at hv)]
  exact hv
theorem Tabs.below {w w1 : World} (h : Tabs w) (hb : Below w.heap.size w w1) : Tabs w1 :=
  ⟨⟩
end Go.Proofs.YtlhnaplmphdhlaaDoor.Q
