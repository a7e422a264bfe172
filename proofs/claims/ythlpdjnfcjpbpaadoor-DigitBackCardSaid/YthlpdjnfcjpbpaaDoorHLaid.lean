/- The listed variables of this seat: their list, that the heap that the door's own run leaves meets it, and what the tables of whole numbers among them hold. -/
import Derived.Test.YthlpdjnfcjpbpaaDoorRows
import Derived.Test.YthlpdjnfcjpbpaaDoorQ0
import Derived.Lib.LaidTab
import Derived.LaidMore
import Derived.ProofKit
import Derived.OpenShut
import Derived.MakeChecks
import Derived.Stop.LaidErr
namespace Go.Proofs.YthlpdjnfcjpbpaaDoor.Q
open Go.ChangeShapes Go.WideShapes Go.ChangeAt Go.RowKit
def laidL : List (String × DataW Unit) := Rows.digitValuesRow.laid
theorem door_met (os : Os) (args : Array Value) : laidMetH Tryd.prog laidL ((World.doorLaid Tryd.prog 24 os).forCall (fun _ _ => 0) ⟨#[], args, []⟩).memory :=
  laidMetH_of_parts3 (fuel := 8) (laidMet_of_run' 8 (by kernel_rfl) (by kernel_rfl)) (by kernel_rfl) (by kernel_rfl)
def tab_bits_deBruijn32tab : List Int := [0, 1, 28, 2, 29, 14, 24, 3, 30, 22, 20, 15, 25, 17, 4, 8, 31, 27, 13, 23, 21, 19, 16, 7, 26, 12, 18, 6, 11, 5, 10, 9]
def tab_bits_deBruijn64tab : List Int := [0, 1, 56, 2, 57, 49, 28, 3, 61, 58, 42, 50, 38, 29, 17, 4, 62, 47, 59, 36, 45, 43, 51, 22, 53, 39, 33, 30, 24, 18, 12, 5, 63, 55, 48, 27, 60, 41, 37, 16, 46, 35, 44, 21, 52, 32, 23, 11, 54, 26, 40, 15, 34, 20, 31, 10, 25, 14, 19, 9, 13, 8, 7, 6]
def tab_strconv_uint64pow10 : List Int := [1, 10, 100, 1000, 10000, 100000, 1000000, 10000000, 100000000, 1000000000, 10000000000, 100000000000, 1000000000000, 10000000000000, 100000000000000, 1000000000000000, 10000000000000000, 100000000000000000, 1000000000000000000, 10000000000000000000]
structure Tabs (w : World) : Prop where
  bits_deBruijn32tab : Lib.TabIs Tryd.prog w "math/bits.deBruijn32tab" .u8 tab_bits_deBruijn32tab
  bits_deBruijn64tab : Lib.TabIs Tryd.prog w "math/bits.deBruijn64tab" .u8 tab_bits_deBruijn64tab
  strconv_uint64pow10 : Lib.TabIs Tryd.prog w "internal/strconv.uint64pow10" .u64 tab_strconv_uint64pow10
theorem tabs_of_laid {W : World} (h : laidMetH Tryd.prog laidL W) : Tabs W := by
  rw [MakeChecks.laidMetH_plain _ _ _ (by kernel_rfl)] at h
  refine ⟨?_, ?_, ?_⟩
  · exact Lib.tabIs_of_head (g := 2) (t := 83) (e := 5) (n := 32) (by kernel_rfl) (by kernel_rfl) Tryd.underlying83 Tryd.underlying5 (by kernel_rfl) (by kernel_rfl) (show laidMet Tryd.prog ((_, Lib.tabData _ _) :: _) W from h)
  · exact Lib.tabIs_of_head (g := 3) (t := 84) (e := 5) (n := 64) (by kernel_rfl) (by kernel_rfl) Tryd.underlying84 Tryd.underlying5 (by kernel_rfl) (by kernel_rfl) (show laidMet Tryd.prog ((_, Lib.tabData _ _) :: _) W from h.tail)
  · exact Lib.tabIs_of_head (g := 0) (t := 75) (e := 42) (n := 20) (by kernel_rfl) (by kernel_rfl) Tryd.underlying75 Tryd.underlying42 (by kernel_rfl) (by kernel_rfl) (show laidMet Tryd.prog ((_, Lib.tabData _ _) :: _) W from h.tail.tail)
theorem var_below {P : Program} {g : Nat} {W W' : World} {n : String} {cs : Array Value} (h : Below W.heap.size W W') (hg : P.globalNamed n = some g) (hv : W.var? P n = some cs) : W'.var? P n = some cs := by
  unfold World.var? at hv ⊢
  simp only [hg, Option.bind_some] at hv ⊢
  rw [h.block g (by
    rcases Nat.lt_or_ge g W.heap.size with h1 | h1
    · exact h1
    · rw [Array.getElem?_eq_none h1] at hv
      simp at hv)]
  exact hv
theorem Tabs.below {w w1 : World} (h : Tabs w) (hb : Below w.heap.size w w1) : Tabs w1 :=
  ⟨var_below hb (g := 2) (by kernel_rfl) h.bits_deBruijn32tab, var_below hb (g := 3) (by kernel_rfl) h.bits_deBruijn64tab, var_below hb (g := 0) (by kernel_rfl) h.strconv_uint64pow10⟩
theorem Tabs.at_bits_deBruijn32tab {w : World} (h : Tabs w) (i : Nat) (hi : i < 32) : w.cell? ⟨2, i, none⟩ = some (.int .u8 (tab_bits_deBruijn32tab.getD i 0)) := h.bits_deBruijn32tab.cell (by kernel_rfl) i hi
theorem Tabs.at_bits_deBruijn64tab {w : World} (h : Tabs w) (i : Nat) (hi : i < 64) : w.cell? ⟨3, i, none⟩ = some (.int .u8 (tab_bits_deBruijn64tab.getD i 0)) := h.bits_deBruijn64tab.cell (by kernel_rfl) i hi
theorem Tabs.at_strconv_uint64pow10 {w : World} (h : Tabs w) (i : Nat) (hi : i < 20) : w.cell? ⟨0, i, none⟩ = some (.int .u64 (tab_strconv_uint64pow10.getD i 0)) := h.strconv_uint64pow10.cell (by kernel_rfl) i hi
end Go.Proofs.YthlpdjnfcjpbpaaDoor.Q
