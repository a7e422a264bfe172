/- Contracts of Go functions and plain facts, of several texts, one behind the other; no condition. -/
import Derived.Test.YtfpkakedlapmkaaMDictNewest2
import Derived.Test.YtfpkakedlapmkaaMDictNewest4
import Derived.Test.YtfpkakedlapmkaaMDictNewest8
import Derived.Test.YtfpkakedlapmkaaMDictNewest5
import Derived.Test.YtfpkakedlapmkaaMDictNewest3
import Derived.Test.YtfpkakedlapmkaaMDictNewest6
import Derived.ChangeArms
import Derived.OpenShut
import Derived.SizedLaws
section
namespace Go.Proofs.Ytfpkakedlapmkaa.Q
open Go.RowKit Go.Proofs.YtfpkakedlapmkaaW.PrintWords Go.Proofs.YtfpkakedlapmkaaW.PrintLast Go.Proofs.YtfpkakedlapmkaaW.PrintMore
set_option linter.unusedVariables false
set_option linter.unusedSimpArgs false

attribute [local go_sem] max2_int min2_int max_two min_two max_three min_three max_four min_four
/-! ### tinderref08_Formed: function 49 -/
mutual
def tinderref08_Formed.j0 : Nat → List (S91) → Bool → Option (Bool)
  | 0, _, _ => none
  | k + 1, x0, x35 => if x35 = true then (some false) else (tinderref08_Formed.l0 k x0 0)
def tinderref08_Formed.l0 : Nat → List (S91) → Int → Option (Bool)
  | 0, _, _ => none
  | k + 1, x0, x3 => if x3 < (x0.length : Int) then (if 0 ≤ x3 then (if x3 > 0 then ((tinderref05_Named.f k ((rd_T91 x0 x3).f0)).bind fun t50006 => (if t50006 = true then (if (((rd_T91 x0 x3).f1).length : Int) > 4 then (tinderref08_Formed.j2 k x0 x3 true ((rd_T91 x0 x3).f0) ((rd_T91 x0 x3).f1) ((rd_T91 x0 x3).f2) ((rd_T91 x0 x3).f3) ((rd_T91 x0 x3).f4)) else (if ((rd_T91 x0 x3).f2) < 0 then (tinderref08_Formed.j2 k x0 x3 true ((rd_T91 x0 x3).f0) ((rd_T91 x0 x3).f1) ((rd_T91 x0 x3).f2) ((rd_T91 x0 x3).f3) ((rd_T91 x0 x3).f4)) else (if ((rd_T91 x0 x3).f2) ≥ x3 then (tinderref08_Formed.j2 k x0 x3 true ((rd_T91 x0 x3).f0) ((rd_T91 x0 x3).f1) ((rd_T91 x0 x3).f2) ((rd_T91 x0 x3).f3) ((rd_T91 x0 x3).f4)) else ((tinderref08_twin.f k x0 x3 ((rd_T91 x0 x3).f2) ((rd_T91 x0 x3).f0) ((rd_T91 x0 x3).f1)).bind fun t50007 => (tinderref08_Formed.j2 k x0 x3 t50007 ((rd_T91 x0 x3).f0) ((rd_T91 x0 x3).f1) ((rd_T91 x0 x3).f2) ((rd_T91 x0 x3).f3) ((rd_T91 x0 x3).f4)))))) else (tinderref08_Formed.j2 k x0 x3 true ((rd_T91 x0 x3).f0) ((rd_T91 x0 x3).f1) ((rd_T91 x0 x3).f2) ((rd_T91 x0 x3).f3) ((rd_T91 x0 x3).f4)))) else (tinderref08_Formed.j2 k x0 x3 false ((rd_T91 x0 x3).f0) ((rd_T91 x0 x3).f1) ((rd_T91 x0 x3).f2) ((rd_T91 x0 x3).f3) ((rd_T91 x0 x3).f4))) else (none)) else (some true)
def tinderref08_Formed.j2 : Nat → List (S91) → Int → Bool → ByteArray → List Int → Int → List (S106) → List Int → Option (Bool)
  | 0, _, _, _, _, _, _, _, _ => none
  | k + 1, x0, x3, x81, x50006000, x50006001, x50006002, x50006003, x50006004 => if x81 = true then (some false) else (if (x50006003.length : Int) > 16 then (tinderref08_Formed.j3 k x0 x3 true x50006000 x50006001 x50006002 x50006003 x50006004) else (tinderref08_Formed.j3 k x0 x3 (decide ((x50006004.length : Int) > 16)) x50006000 x50006001 x50006002 x50006003 x50006004))
def tinderref08_Formed.j3 : Nat → List (S91) → Int → Bool → ByteArray → List Int → Int → List (S106) → List Int → Option (Bool)
  | 0, _, _, _, _, _, _, _, _ => none
  | k + 1, x0, x3, x91, x50006000, x50006001, x50006002, x50006003, x50006004 => if x91 = true then (some false) else (tinderref08_Formed.l1 k x0 x3 0 x50006000 x50006001 x50006002 x50006003 x50006004)
def tinderref08_Formed.l1 : Nat → List (S91) → Int → Int → ByteArray → List Int → Int → List (S106) → List Int → Option (Bool)
  | 0, _, _, _, _, _, _, _, _ => none
  | k + 1, x0, x3, x5, x50006000, x50006001, x50006002, x50006003, x50006004 => if x5 < (x50006003.length : Int) then (if 0 ≤ x5 then ((tinderref05_Named.f k ((rd_T106 x50006003 x5).f0)).bind fun t50009 => (if t50009 = true then (if (((rd_T106 x50006003 x5).f1).length : Int) > 256 then (some false) else (if x5 ≤ (x50006003.length : Int) then ((tinderref08_find.f k (x50006003.take (x5 : Int).toNat) ((rd_T106 x50006003 x5).f0)).bind fun t50016 => (if t50016 ≥ 0 then (some false) else (tinderref08_Formed.l1 k x0 x3 (wrap64 (x5 + 1)) x50006000 x50006001 x50006002 x50006003 x50006004))) else (none))) else (some false))) else (none)) else (tinderref08_Formed.l0 k x0 (wrap64 (x3 + 1)))
end
def tinderref08_Formed.f (k : Nat) (l0 : List (S91)) : Option (Bool) := if (l0.length : Int) < 1 then (tinderref08_Formed.j0 k l0 true) else (if (l0.length : Int) > 32 then (tinderref08_Formed.j0 k l0 true) else (if 0 < (l0.length : Int) then (if ((rd_T91 l0 0).f0).toList = ([] : List UInt8) then (if (((rd_T91 l0 0).f1).length : Int) > 0 then (tinderref08_Formed.j0 k l0 true) else (tinderref08_Formed.j0 k l0 (((rd_T91 l0 0).f2) != (-1)))) else (tinderref08_Formed.j0 k l0 true)) else (none)))
def tinderref08_Formed.T14 : Bool × List (List Nat × List Nat) := (true, [([], []), ([0], [0]), ([], []), ([1, 2], [1, 2]), ([3], [3]), ([4], [4]), ([5], [5]), ([6], [6]), ([7, 6], [7]), ([8], [8]), ([9, 8], [8, 9]), ([8], [8]), ([10, 11, 8], [8, 10, 11]), ([12, 8], [8, 12]), ([13, 8], [8, 13]), ([14, 8], [8, 14]), ([15, 8], [8, 15]), ([8, 16], [8, 16]), ([17, 8], [17]), ([18], [18]), ([19, 18], [18, 19]), ([18], [18]), ([20, 21, 18], [18, 20, 21]), ([18], [18]), ([23, 18], [18, 23]), ([18], [18]), ([24, 25, 18], [18, 24, 25]), ([26, 18], [18, 26]), ([27, 18], [18, 27]), ([22, 28, 18, 18], [18, 22, 28]), ([29, 18], [18, 29]), ([18, 30], [18, 30])])
def tinderref08_Formed.B14 : List Nat := [0, 1, 0, 7, 15, 31, 63, 127, 255, 511, 1023, 511, 4095, 8191, 16383, 32767, 65535, 131071, 262143, 524287, 1048575, 524287, 4194303, 524287, 8912895, 524287, 59244543, 126353407, 260571135, 536870911, 1073741823, 2147483647]

end Go.Proofs.Ytfpkakedlapmkaa.Q
end
section
namespace Go.Proofs.Ytfpkakedlapmkaa.Q
open Go.RowKit Go.Proofs.YtfpkakedlapmkaaW.PrintWords Go.Proofs.YtfpkakedlapmkaaW.PrintLast Go.Proofs.YtfpkakedlapmkaaW.PrintMore
set_option linter.unusedVariables false
set_option linter.unusedSimpArgs false

attribute [local go_sem] max2_int min2_int max_two min_two max_three min_three max_four min_four
/-! ### tinderref04_Same: function 67 -/
def tinderref04_Same.f (l0 : List Int) (l1 : List Int) : Option (Bool) := some ((strOfNums l0).toList == (strOfNums l1).toList)

end Go.Proofs.Ytfpkakedlapmkaa.Q
end
section
namespace Go.Proofs.Ytfpkakedlapmkaa.Q
open Go.RowKit Go.Proofs.YtfpkakedlapmkaaW.PrintWords Go.Proofs.YtfpkakedlapmkaaW.PrintLast Go.Proofs.YtfpkakedlapmkaaW.PrintMore
set_option linter.unusedVariables false
set_option linter.unusedSimpArgs false

attribute [local go_sem] max2_int min2_int max_two min_two max_three min_three max_four min_four
/-! ### tinderref08_SameNode: function 88 -/
mutual
def tinderref08_SameNode.j0 : Nat → Bool → ByteArray → List Int → Int → List (S106) → List Int → ByteArray → List Int → Int → List (S106) → List Int → Option (Bool)
  | 0, _, _, _, _, _, _, _, _, _, _, _ => none
  | k + 1, x42, x89002000, x89002001, x89002002, x89002003, x89002004, x89003000, x89003001, x89003002, x89003003, x89003004 => if x42 = true then (some false) else (tinderref08_SameNode.l0 k 0 x89002000 x89002001 x89002002 x89002003 x89002004 x89003000 x89003001 x89003002 x89003003 x89003004)
def tinderref08_SameNode.l0 : Nat → Int → ByteArray → List Int → Int → List (S106) → List Int → ByteArray → List Int → Int → List (S106) → List Int → Option (Bool)
  | 0, _, _, _, _, _, _, _, _, _, _, _ => none
  | k + 1, x5, x89002000, x89002001, x89002002, x89002003, x89002004, x89003000, x89003001, x89003002, x89003003, x89003004 => if x5 < (x89002003.length : Int) then (if 0 ≤ x5 then (if x5 < (x89003003.length : Int) then (if ((rd_T106 x89002003 x5).f0).toList = ((rd_T106 x89003003 x5).f0).toList then ((tinderref04_Same.f ((rd_T106 x89002003 x5).f1) ((rd_T106 x89003003 x5).f1)).bind fun t89009 => (if t89009 = true then (tinderref08_SameNode.l0 k (wrap64 (x5 + 1)) x89002000 x89002001 x89002002 x89002003 x89002004 x89003000 x89003001 x89003002 x89003003 x89003004) else (some false))) else (some false)) else (none)) else (none)) else (some true)
end
def tinderref08_SameNode.f (k : Nat) (a0_0 : ByteArray) (l0_1 : List Int) (a0_2 : Int) (l0_3 : List (S106)) (l0_4 : List Int) (a1_0 : ByteArray) (l1_1 : List Int) (a1_2 : Int) (l1_3 : List (S106)) (l1_4 : List Int) : Option (Bool) := if a0_0.toList = a1_0.toList then (if a0_2 = a1_2 then ((tinderref03_Same.f k l0_1 l1_1).bind fun t89003 => (if t89003 = true then ((tinderref03_Same.f k l0_4 l1_4).bind fun t89004 => (if t89004 = true then (tinderref08_SameNode.j0 k ((l0_3.length : Int) != (l1_3.length : Int)) a0_0 l0_1 a0_2 l0_3 l0_4 a1_0 l1_1 a1_2 l1_3 l1_4) else (tinderref08_SameNode.j0 k true a0_0 l0_1 a0_2 l0_3 l0_4 a1_0 l1_1 a1_2 l1_3 l1_4))) else (tinderref08_SameNode.j0 k true a0_0 l0_1 a0_2 l0_3 l0_4 a1_0 l1_1 a1_2 l1_3 l1_4))) else (tinderref08_SameNode.j0 k true a0_0 l0_1 a0_2 l0_3 l0_4 a1_0 l1_1 a1_2 l1_3 l1_4)) else (tinderref08_SameNode.j0 k true a0_0 l0_1 a0_2 l0_3 l0_4 a1_0 l1_1 a1_2 l1_3 l1_4)

end Go.Proofs.Ytfpkakedlapmkaa.Q
end
section
namespace Go.Proofs.Ytfpkakedlapmkaa.Q
open Go.RowKit Go.Proofs.YtfpkakedlapmkaaW.PrintWords Go.Proofs.YtfpkakedlapmkaaW.PrintLast Go.Proofs.YtfpkakedlapmkaaW.PrintMore
set_option linter.unusedVariables false
set_option linter.unusedSimpArgs false

attribute [local go_sem] max2_int min2_int max_two min_two max_three min_three max_four min_four
/-! ### tinderref08_Same: function 68 -/
def tinderref08_Same.l0 : Nat → List (S91) → List (S91) → Int → Option (Bool)
  | 0, _, _, _ => none
  | k + 1, x0, x1, x5 => if x5 < (x0.length : Int) then (if 0 ≤ x5 then (if x5 < (x1.length : Int) then ((tinderref08_SameNode.f k ((rd_T91 x0 x5).f0) ((rd_T91 x0 x5).f1) ((rd_T91 x0 x5).f2) ((rd_T91 x0 x5).f3) ((rd_T91 x0 x5).f4) ((rd_T91 x1 x5).f0) ((rd_T91 x1 x5).f1) ((rd_T91 x1 x5).f2) ((rd_T91 x1 x5).f3) ((rd_T91 x1 x5).f4)).bind fun t69003 => (if t69003 = true then (tinderref08_Same.l0 k x0 x1 (wrap64 (x5 + 1))) else (some false))) else (none)) else (none)) else (some true)
def tinderref08_Same.f (k : Nat) (l0 : List (S91)) (l1 : List (S91)) : Option (Bool) := if (l0.length : Int) = (l1.length : Int) then (tinderref08_Same.l0 k l0 l1 0) else (some false)
def tinderref08_Same.T6 : Bool × List (List Nat × List Nat) := (true, [([], []), ([], []), ([0, 1], [0, 1]), ([2], [2]), ([], []), ([], []), ([4, 5], [4, 5]), ([6], [6]), ([3, 7], [3, 7]), ([8], [8])])
def tinderref08_Same.B6 : List Nat := [0, 0, 3, 7, 0, 0, 48, 112, 255, 511]

end Go.Proofs.Ytfpkakedlapmkaa.Q
end
section
set_option linter.unusedSimpArgs false
set_option linter.unusedVariables false
namespace Go.Proofs.Ytfpkakedlapmkaa.Q
open Go.RowKit Go.Proofs.YtfpkakedlapmkaaW.PrintWords Go.Proofs.YtfpkakedlapmkaaW.PrintLast
def nodeR (t : List S91) (i : Nat) : Bool := (!decide (16 < ((t.getD i z91).f4.length : Int)) && propsF (t.getD i z91).f3) && (if (i : Int) == 0 then true else kidOk (t.take i) i (t.getD i z91))
end Go.Proofs.Ytfpkakedlapmkaa.Q
end
section
set_option linter.unusedSimpArgs false
set_option linter.unusedVariables false
namespace Go.Proofs.Ytfpkakedlapmkaa.Q
open Go.RowKit Go.Proofs.YtfpkakedlapmkaaW.PrintWords Go.Proofs.YtfpkakedlapmkaaW.PrintLast
/-- Lists of a device that are no longer than B. -/
def LenN (B : Nat) (x : S91) : Prop := x.f1.length ≤ B ∧ x.f4.length ≤ B ∧ x.f3.length ≤ B
end Go.Proofs.Ytfpkakedlapmkaa.Q
end
section
namespace Go.Proofs.Ytfpkakedlapmkaa.Q
open Go.RowKit Go.Proofs.YtfpkakedlapmkaaW.PrintWords Go.Proofs.YtfpkakedlapmkaaW.PrintLast Go.Proofs.YtfpkakedlapmkaaW.PrintMore
set_option linter.unusedVariables false
set_option linter.unusedSimpArgs false

attribute [local go_sem] max2_int min2_int max_two min_two max_three min_three max_four min_four
/-! ### tinderref03_Copy: function 61 -/
def tinderref03_Copy.f (l0 : List Int) : Option (List Int) := if ([] : List Int).length + l0.length < 35184372088832 then (some (([] : List Int) ++ l0)) else (none)

end Go.Proofs.Ytfpkakedlapmkaa.Q
end
section
namespace Go.Proofs.Ytfpkakedlapmkaa.Q
open Go.RowKit Go.Proofs.YtfpkakedlapmkaaW.PrintWords Go.Proofs.YtfpkakedlapmkaaW.PrintLast Go.Proofs.YtfpkakedlapmkaaW.PrintMore
set_option linter.unusedVariables false
set_option linter.unusedSimpArgs false

attribute [local go_sem] max2_int min2_int max_two min_two max_three min_three max_four min_four
/-! ### tinderref04_Copy: function 62 -/
def tinderref04_Copy.f (l0 : List Int) : Option (List Int) := if ([] : List Int).length + l0.length < 140737488355328 then (some (([] : List Int) ++ l0)) else (none)

end Go.Proofs.Ytfpkakedlapmkaa.Q
end
section
namespace Go.Proofs.Ytfpkakedlapmkaa.Q
open Go.RowKit Go.Proofs.YtfpkakedlapmkaaW.PrintWords Go.Proofs.YtfpkakedlapmkaaW.PrintLast Go.Proofs.YtfpkakedlapmkaaW.PrintMore
set_option linter.unusedVariables false
set_option linter.unusedSimpArgs false

attribute [local go_sem] max2_int min2_int max_two min_two max_three min_three max_four min_four
/-! ### tinderref08_Copy: function 63 -/
mutual
def tinderref08_Copy.l0 : Nat → List (S91) → List (S91) → Int → Option ((List (S91)))
  | 0, _, _, _ => none
  | k + 1, x0, x3, x4 => if x4 < (x0.length : Int) then (if 0 ≤ x4 then ((tinderref03_Copy.f ((rd_T91 x0 x4).f1)).bind fun t64004 => ((tinderref03_Copy.f ((rd_T91 x0 x4).f4)).bind fun t64008 => (tinderref08_Copy.l1 k x0 x3 x4 0 ((rd_T91 x0 x4).f0) t64004 ((rd_T91 x0 x4).f2) ([] : List (S106)) t64008))) else (none)) else (some x3)
def tinderref08_Copy.l1 : Nat → List (S91) → List (S91) → Int → Int → ByteArray → List Int → Int → List (S106) → List Int → Option ((List (S91)))
  | 0, _, _, _, _, _, _, _, _, _ => none
  | k + 1, x0, x3, x4, x6, x64012000, x64012001, x64012002, x64012003, x64012004 => if 0 ≤ x4 then (if x4 < (x0.length : Int) then (if x6 < (((rd_T91 x0 x4).f3).length : Int) then (if 0 ≤ x6 then ((tinderref04_Copy.f ((rd_T106 ((rd_T91 x0 x4).f3) x6).f1)).bind fun t64017 => (if x64012003.length < 3518437208883 then (tinderref08_Copy.l1 k x0 x3 x4 (wrap64 (x6 + 1)) x64012000 x64012001 x64012002 (x64012003 ++ [(⟨(rd_T106 ((rd_T91 x0 x4).f3) x6).f0, t64017⟩ : S106)]) x64012004) else (none))) else (none)) else (if x3.length < 1466015503701 then (tinderref08_Copy.l0 k x0 (x3 ++ [(⟨x64012000, x64012001, x64012002, x64012003, x64012004⟩ : S91)]) (wrap64 (x4 + 1))) else (none))) else (none)) else (none)
end
def tinderref08_Copy.f (k : Nat) (l0 : List (S91)) : Option ((List (S91))) := tinderref08_Copy.l0 k l0 ([] : List (S91)) 0
def tinderref08_Copy.T5 : Bool × List (List Nat × List Nat) := (true, [([], []), ([], []), ([0, 1], [0, 1]), ([2], [2]), ([3], [3]), ([], []), ([], []), ([5, 6], [5, 6]), ([7], [7]), ([8], [8]), ([], []), ([], []), ([10, 11], [10, 11]), ([12], [12]), ([13], [13]), ([14], [14]), ([], []), ([], []), ([16, 17], [16, 17]), ([18], [18]), ([19], [19]), ([20, 15], [20]), ([4, 9, 15, 21], [4, 9, 15, 21]), ([], []), ([23, 22, 21, 0, 1, 2, 3, 4, 5, 6, 7, 8, 9, 10, 11, 12, 13, 14, 15, 16, 17, 18, 19, 20, 21, 22, 23], [22, 23])])
def tinderref08_Copy.B5 : List Nat := [0, 0, 3, 7, 15, 0, 0, 96, 224, 480, 0, 0, 3072, 7168, 15360, 31744, 0, 0, 196608, 458752, 983040, 2096128, 4194303, 0, 16777215]
def tinderref08_Copy.T9 : Bool × List (List Nat × List Nat) := (true, [([], []), ([0], [0]), ([], []), ([], []), ([2, 3], [2, 3]), ([4], [4]), ([5], [5]), ([], []), ([6, 7], [6, 7]), ([8], [8]), ([9], [9]), ([], []), ([], []), ([11, 12], [11, 12]), ([13], [13]), ([14], [14]), ([], []), ([15, 16], [15, 16]), ([17], [17]), ([18], [18]), ([19], [19]), ([10, 20], [10, 20]), ([21], [21]), ([1, 22, 20], [1, 22]), ([0, 1, 2, 3, 4, 5, 6, 7, 8, 9, 10, 11, 12, 13, 14, 15, 16, 17, 18, 19, 20, 21, 22, 23], []), ([24, 23, 23, 0, 1, 2, 3, 4, 5, 6, 7, 8, 9, 10, 11, 12, 13, 14, 15, 16, 17, 18, 19, 20, 21, 22, 23], [23, 24])])
def tinderref08_Copy.B9 : List Nat := [0, 1, 0, 0, 12, 28, 60, 0, 252, 508, 1020, 0, 0, 6144, 14336, 30720, 0, 129024, 260096, 522240, 1046528, 2097148, 4194300, 8388607, 16777215, 33554431]

end Go.Proofs.Ytfpkakedlapmkaa.Q
end
section
set_option linter.unusedSimpArgs false
set_option linter.unusedVariables false
namespace Go.Proofs.Ytfpkakedlapmkaa.Q
open Go.RowKit Go.Proofs.YtfpkakedlapmkaaW.PrintWords Go.Proofs.YtfpkakedlapmkaaW.PrintLast
/-- Lists short enough for a copy to be made. -/
def GoodN (x : S91) : Prop := x.f1.length < 35184372088832 ∧ x.f4.length < 35184372088832 ∧ x.f3.length < 3518437208883 ∧ ∀ p ∈ x.f3, p.f1.length < 140737488355328
def GoodT (t : List S91) : Prop := t.length < 1466015503701 ∧ ∀ x ∈ t, GoodN x
theorem short_of {t : List S91} (h : GoodT t) : shortT t = true := by
  simp only [shortT, shortN, shortP, Bool.and_eq_true, decide_eq_true_eq, List.all_eq_true]
  refine ⟨by have := h.1; omega, fun x hx => ?_⟩
  obtain ⟨h1, h2, h3, h4⟩ := h.2 x hx
  exact ⟨by omega, by omega, by omega, h4⟩
end Go.Proofs.Ytfpkakedlapmkaa.Q
end
section
namespace Go.Proofs.Ytfpkakedlapmkaa.Q
open Go.RowKit Go.Proofs.YtfpkakedlapmkaaW.PrintWords Go.Proofs.YtfpkakedlapmkaaW.PrintLast Go.Proofs.YtfpkakedlapmkaaW.PrintMore
set_option linter.unusedVariables false
set_option linter.unusedSimpArgs false

attribute [local go_sem] max2_int min2_int max_two min_two max_three min_three max_four min_four
theorem eqA69 (d : Nat) (w : World) (x0 y0 : Int) (x1 y1 : Int) :
    (Op.equalIn (d + 2) 69 (.agg #[.int .i64 x0, .int .u32 x1]) (.agg #[.int .i64 y0, .int .u32 y1])).run Try.prog w = .ok (x0 == y0 && (x1 == y1)) w := by
  refine eqA_of Try.underlying69 (by kernel_rfl) ?_
  refine eqf_cons (by rfl) (by go_simp; rfl) (by go_simp; rfl) (by go_simp) ?_
  exact eqf_last (by rfl) (by go_simp; rfl) (by go_simp; rfl) (by go_simp)
end Go.Proofs.Ytfpkakedlapmkaa.Q
end
section
namespace Go.Proofs.Ytfpkakedlapmkaa.Q
open Go.RowKit Go.Proofs.YtfpkakedlapmkaaW.PrintWords Go.Proofs.YtfpkakedlapmkaaW.PrintLast Go.Proofs.YtfpkakedlapmkaaW.PrintMore
set_option linter.unusedVariables false
set_option linter.unusedSimpArgs false

attribute [local go_sem] max2_int min2_int max_two min_two max_three min_three max_four min_four
attribute [local go_sem high] eqA69
/-! ### tinderref09_SameWord: function 52 -/
mutual
def tinderref09_SameWord.j0 : Nat → Bool → ByteArray → Int → Int → Int → List (S69) → ByteArray → Int → Int → Int → List (S69) → Option (Bool)
  | 0, _, _, _, _, _, _, _, _, _, _, _ => none
  | k + 1, x40, x53002000, x53002001, x53002002, x53002003, x53002004, x53003000, x53003001, x53003002, x53003003, x53003004 => if x40 = true then (some false) else (tinderref09_SameWord.l0 k 0 x53002000 x53002001 x53002002 x53002003 x53002004 x53003000 x53003001 x53003002 x53003003 x53003004)
def tinderref09_SameWord.l0 : Nat → Int → ByteArray → Int → Int → Int → List (S69) → ByteArray → Int → Int → Int → List (S69) → Option (Bool)
  | 0, _, _, _, _, _, _, _, _, _, _, _ => none
  | k + 1, x5, x53002000, x53002001, x53002002, x53002003, x53002004, x53003000, x53003001, x53003002, x53003003, x53003004 => if x5 < (x53002004.length : Int) then (if 0 ≤ x5 then (if x5 < (x53003004.length : Int) then (if (!(((rd_T69 x53002004 x5).f0) == ((rd_T69 x53003004 x5).f0)) || (!(((rd_T69 x53002004 x5).f1) == ((rd_T69 x53003004 x5).f1)))) = true then (some false) else (tinderref09_SameWord.l0 k (wrap64 (x5 + 1)) x53002000 x53002001 x53002002 x53002003 x53002004 x53003000 x53003001 x53003002 x53003003 x53003004)) else (none)) else (none)) else (some true)
end
def tinderref09_SameWord.f (k : Nat) (a0_0 : ByteArray) (a0_1 : Int) (a0_2 : Int) (a0_3 : Int) (l0_4 : List (S69)) (a1_0 : ByteArray) (a1_1 : Int) (a1_2 : Int) (a1_3 : Int) (l1_4 : List (S69)) : Option (Bool) := if a0_0.toList = a1_0.toList then (if a0_1 = a1_1 then (if a0_2 = a1_2 then (if a0_3 = a1_3 then (tinderref09_SameWord.j0 k ((l0_4.length : Int) != (l1_4.length : Int)) a0_0 a0_1 a0_2 a0_3 l0_4 a1_0 a1_1 a1_2 a1_3 l1_4) else (tinderref09_SameWord.j0 k true a0_0 a0_1 a0_2 a0_3 l0_4 a1_0 a1_1 a1_2 a1_3 l1_4)) else (tinderref09_SameWord.j0 k true a0_0 a0_1 a0_2 a0_3 l0_4 a1_0 a1_1 a1_2 a1_3 l1_4)) else (tinderref09_SameWord.j0 k true a0_0 a0_1 a0_2 a0_3 l0_4 a1_0 a1_1 a1_2 a1_3 l1_4)) else (tinderref09_SameWord.j0 k true a0_0 a0_1 a0_2 a0_3 l0_4 a1_0 a1_1 a1_2 a1_3 l1_4)

end Go.Proofs.Ytfpkakedlapmkaa.Q
end
section
namespace Go.Proofs.Ytfpkakedlapmkaa.Q
open Go.RowKit Go.Proofs.YtfpkakedlapmkaaW.PrintWords Go.Proofs.YtfpkakedlapmkaaW.PrintLast Go.Proofs.YtfpkakedlapmkaaW.PrintMore
set_option linter.unusedVariables false
set_option linter.unusedSimpArgs false

attribute [local go_sem] max2_int min2_int max_two min_two max_three min_three max_four min_four
/-! ### tinderref09_SameBut: function 34 -/
mutual
def tinderref09_SameBut.j0 : Nat → Bool → List Int → List Int → List (S51) → List Int → Int → List (S91) → Int → List (S82) → Int → ByteArray → List Int → List Int → List (S51) → List Int → Int → List (S91) → Int → List (S82) → Int → ByteArray → Option (Bool)
  | 0, _, _, _, _, _, _, _, _, _, _, _, _, _, _, _, _, _, _, _, _, _ => none
  | k + 1, x74, x35002000, x35002001, x35002002, x35002003, x35002004, x35002005, x35002006, x35002007, x35002008, x35002009, x35003000, x35003001, x35003002, x35003003, x35003004, x35003005, x35003006, x35003007, x35003008, x35003009 => if x74 = true then (some false) else (tinderref09_SameBut.l0 k 0 x35002000 x35002001 x35002002 x35002003 x35002004 x35002005 x35002006 x35002007 x35002008 x35002009 x35003000 x35003001 x35003002 x35003003 x35003004 x35003005 x35003006 x35003007 x35003008 x35003009)
def tinderref09_SameBut.l0 : Nat → Int → List Int → List Int → List (S51) → List Int → Int → List (S91) → Int → List (S82) → Int → ByteArray → List Int → List Int → List (S51) → List Int → Int → List (S91) → Int → List (S82) → Int → ByteArray → Option (Bool)
  | 0, _, _, _, _, _, _, _, _, _, _, _, _, _, _, _, _, _, _, _, _, _ => none
  | k + 1, x5, x35002000, x35002001, x35002002, x35002003, x35002004, x35002005, x35002006, x35002007, x35002008, x35002009, x35003000, x35003001, x35003002, x35003003, x35003004, x35003005, x35003006, x35003007, x35003008, x35003009 => if x5 < (x35002002.length : Int) then (if 0 ≤ x5 then (if x5 < (x35003002.length : Int) then ((tinderref09_SameWord.f k ((rd_T51 x35002002 x5).f0) ((rd_T51 x35002002 x5).f1) ((rd_T51 x35002002 x5).f2) ((rd_T51 x35002002 x5).f3) ((rd_T51 x35002002 x5).f4) ((rd_T51 x35003002 x5).f0) ((rd_T51 x35003002 x5).f1) ((rd_T51 x35003002 x5).f2) ((rd_T51 x35003002 x5).f3) ((rd_T51 x35003002 x5).f4)).bind fun t35008 => (if t35008 = true then (tinderref09_SameBut.l0 k (wrap64 (x5 + 1)) x35002000 x35002001 x35002002 x35002003 x35002004 x35002005 x35002006 x35002007 x35002008 x35002009 x35003000 x35003001 x35003002 x35003003 x35003004 x35003005 x35003006 x35003007 x35003008 x35003009) else (some false))) else (none)) else (none)) else (tinderref09_SameBut.l1 k 0 x35002000 x35002001 x35002002 x35002003 x35002004 x35002005 x35002006 x35002007 x35002008 x35002009 x35003000 x35003001 x35003002 x35003003 x35003004 x35003005 x35003006 x35003007 x35003008 x35003009)
def tinderref09_SameBut.l1 : Nat → Int → List Int → List Int → List (S51) → List Int → Int → List (S91) → Int → List (S82) → Int → ByteArray → List Int → List Int → List (S51) → List Int → Int → List (S91) → Int → List (S82) → Int → ByteArray → Option (Bool)
  | 0, _, _, _, _, _, _, _, _, _, _, _, _, _, _, _, _, _, _, _, _, _ => none
  | k + 1, x6, x35002000, x35002001, x35002002, x35002003, x35002004, x35002005, x35002006, x35002007, x35002008, x35002009, x35003000, x35003001, x35003002, x35003003, x35003004, x35003005, x35003006, x35003007, x35003008, x35003009 => if x6 < (x35002007.length : Int) then (if 0 ≤ x6 then (if x6 < (x35003007.length : Int) then ((tinderref09_SameInst.f k ((rd_T82 x35002007 x6).f0) ((rd_T82 x35002007 x6).f1) ((rd_T82 x35002007 x6).f2) ((rd_T82 x35002007 x6).f3) ((rd_T82 x35003007 x6).f0) ((rd_T82 x35003007 x6).f1) ((rd_T82 x35003007 x6).f2) ((rd_T82 x35003007 x6).f3)).bind fun t35011 => (if t35011 = true then (tinderref09_SameBut.l1 k (wrap64 (x6 + 1)) x35002000 x35002001 x35002002 x35002003 x35002004 x35002005 x35002006 x35002007 x35002008 x35002009 x35003000 x35003001 x35003002 x35003003 x35003004 x35003005 x35003006 x35003007 x35003008 x35003009) else (some false))) else (none)) else (none)) else (some true)
end
def tinderref09_SameBut.f (k : Nat) (l0_0 : List Int) (l0_1 : List Int) (l0_2 : List (S51)) (l0_3 : List Int) (a0_4 : Int) (l0_5 : List (S91)) (a0_6 : Int) (l0_7 : List (S82)) (a0_8 : Int) (a0_9 : ByteArray) (l1_0 : List Int) (l1_1 : List Int) (l1_2 : List (S51)) (l1_3 : List Int) (a1_4 : Int) (l1_5 : List (S91)) (a1_6 : Int) (l1_7 : List (S82)) (a1_8 : Int) (a1_9 : ByteArray) : Option (Bool) := (tinderref03_Same.f k l0_0 l1_0).bind fun t35003 => (if t35003 = true then ((tinderref04_Same.f l0_1 l1_1).bind fun t35004 => (if t35004 = true then (if a0_4 = a1_4 then ((tinderref08_Same.f k l0_5 l1_5).bind fun t35005 => (if t35005 = true then (if a0_6 = a1_6 then (if a0_8 = a1_8 then (if a0_9.toList = a1_9.toList then (if (l0_2.length : Int) = (l1_2.length : Int) then (tinderref09_SameBut.j0 k ((l0_7.length : Int) != (l1_7.length : Int)) l0_0 l0_1 l0_2 l0_3 a0_4 l0_5 a0_6 l0_7 a0_8 a0_9 l1_0 l1_1 l1_2 l1_3 a1_4 l1_5 a1_6 l1_7 a1_8 a1_9) else (tinderref09_SameBut.j0 k true l0_0 l0_1 l0_2 l0_3 a0_4 l0_5 a0_6 l0_7 a0_8 a0_9 l1_0 l1_1 l1_2 l1_3 a1_4 l1_5 a1_6 l1_7 a1_8 a1_9)) else (tinderref09_SameBut.j0 k true l0_0 l0_1 l0_2 l0_3 a0_4 l0_5 a0_6 l0_7 a0_8 a0_9 l1_0 l1_1 l1_2 l1_3 a1_4 l1_5 a1_6 l1_7 a1_8 a1_9)) else (tinderref09_SameBut.j0 k true l0_0 l0_1 l0_2 l0_3 a0_4 l0_5 a0_6 l0_7 a0_8 a0_9 l1_0 l1_1 l1_2 l1_3 a1_4 l1_5 a1_6 l1_7 a1_8 a1_9)) else (tinderref09_SameBut.j0 k true l0_0 l0_1 l0_2 l0_3 a0_4 l0_5 a0_6 l0_7 a0_8 a0_9 l1_0 l1_1 l1_2 l1_3 a1_4 l1_5 a1_6 l1_7 a1_8 a1_9)) else (tinderref09_SameBut.j0 k true l0_0 l0_1 l0_2 l0_3 a0_4 l0_5 a0_6 l0_7 a0_8 a0_9 l1_0 l1_1 l1_2 l1_3 a1_4 l1_5 a1_6 l1_7 a1_8 a1_9))) else (tinderref09_SameBut.j0 k true l0_0 l0_1 l0_2 l0_3 a0_4 l0_5 a0_6 l0_7 a0_8 a0_9 l1_0 l1_1 l1_2 l1_3 a1_4 l1_5 a1_6 l1_7 a1_8 a1_9)) else (tinderref09_SameBut.j0 k true l0_0 l0_1 l0_2 l0_3 a0_4 l0_5 a0_6 l0_7 a0_8 a0_9 l1_0 l1_1 l1_2 l1_3 a1_4 l1_5 a1_6 l1_7 a1_8 a1_9))) else (tinderref09_SameBut.j0 k true l0_0 l0_1 l0_2 l0_3 a0_4 l0_5 a0_6 l0_7 a0_8 a0_9 l1_0 l1_1 l1_2 l1_3 a1_4 l1_5 a1_6 l1_7 a1_8 a1_9))
def tinderref09_SameBut.T6 : Bool × List (List Nat × List Nat) := (true, [([], []), ([0], [0]), ([], []), ([1, 2], [1, 2]), ([3], [3]), ([], []), ([5], [5]), ([], []), ([6, 7], [6, 7]), ([8], [8]), ([4, 9], [4, 9]), ([10], [10])])
def tinderref09_SameBut.B6 : List Nat := [0, 1, 0, 7, 15, 0, 32, 0, 224, 480, 1023, 2047]
def tinderref09_SameBut.T11 : Bool × List (List Nat × List Nat) := (true, [([], []), ([0], [0]), ([], []), ([1, 2], [1, 2]), ([3], [3]), ([], []), ([5], [5]), ([], []), ([6, 7], [6, 7]), ([8], [8]), ([4, 9], [4, 9]), ([10], [10])])
def tinderref09_SameBut.B11 : List Nat := [0, 1, 0, 7, 15, 0, 32, 0, 224, 480, 1023, 2047]

end Go.Proofs.Ytfpkakedlapmkaa.Q
end
section
namespace Go.Proofs.Ytfpkakedlapmkaa.Q
open Go.RowKit Go.Proofs.YtfpkakedlapmkaaW.PrintWords Go.Proofs.YtfpkakedlapmkaaW.PrintLast Go.Proofs.YtfpkakedlapmkaaW.PrintMore
set_option linter.unusedVariables false
set_option linter.unusedSimpArgs false

attribute [local go_sem] max2_int min2_int max_two min_two max_three min_three max_four min_four
/-! ### tinderref09_Same: function 11 -/
def tinderref09_Same.l0 : Nat → Int → List Int → List Int → List (S51) → List Int → Int → List (S91) → Int → List (S82) → Int → ByteArray → List Int → List Int → List (S51) → List Int → Int → List (S91) → Int → List (S82) → Int → ByteArray → Option (Bool)
  | 0, _, _, _, _, _, _, _, _, _, _, _, _, _, _, _, _, _, _, _, _, _ => none
  | k + 1, x5, x12002000, x12002001, x12002002, x12002003, x12002004, x12002005, x12002006, x12002007, x12002008, x12002009, x12003000, x12003001, x12003002, x12003003, x12003004, x12003005, x12003006, x12003007, x12003008, x12003009 => if x5 < (x12002003.length : Int) then (if 0 ≤ x5 then (if x5 < (x12003003.length : Int) then (if (rd x12002003 x5) = (rd x12003003 x5) then (tinderref09_Same.l0 k (wrap64 (x5 + 1)) x12002000 x12002001 x12002002 x12002003 x12002004 x12002005 x12002006 x12002007 x12002008 x12002009 x12003000 x12003001 x12003002 x12003003 x12003004 x12003005 x12003006 x12003007 x12003008 x12003009) else (some false)) else (none)) else (none)) else ((tinderref09_SameBut.f k x12002000 x12002001 x12002002 x12002003 x12002004 x12002005 x12002006 x12002007 x12002008 x12002009 x12003000 x12003001 x12003002 x12003003 x12003004 x12003005 x12003006 x12003007 x12003008 x12003009).bind fun t12005 => (some t12005))
def tinderref09_Same.f (k : Nat) (l0_0 : List Int) (l0_1 : List Int) (l0_2 : List (S51)) (l0_3 : List Int) (a0_4 : Int) (l0_5 : List (S91)) (a0_6 : Int) (l0_7 : List (S82)) (a0_8 : Int) (a0_9 : ByteArray) (l1_0 : List Int) (l1_1 : List Int) (l1_2 : List (S51)) (l1_3 : List Int) (a1_4 : Int) (l1_5 : List (S91)) (a1_6 : Int) (l1_7 : List (S82)) (a1_8 : Int) (a1_9 : ByteArray) : Option (Bool) := if (l0_3.length : Int) = (l1_3.length : Int) then (tinderref09_Same.l0 k 0 l0_0 l0_1 l0_2 l0_3 a0_4 l0_5 a0_6 l0_7 a0_8 a0_9 l1_0 l1_1 l1_2 l1_3 a1_4 l1_5 a1_6 l1_7 a1_8 a1_9) else (some false)

end Go.Proofs.Ytfpkakedlapmkaa.Q
end
section
namespace Go.Proofs.Ytfpkakedlapmkaa.Q
open Go.RowKit Go.Proofs.YtfpkakedlapmkaaW.PrintWords Go.Proofs.YtfpkakedlapmkaaW.PrintLast Go.Proofs.YtfpkakedlapmkaaW.PrintMore
set_option linter.unusedVariables false
set_option linter.unusedSimpArgs false

attribute [local go_sem] max2_int min2_int max_two min_two max_three min_three max_four min_four
/-! ### tinderref09_Prims: function 15 -/
def tinderref09_Prims.f  : Option ((List (S37))) := some (([(⟨(⟨#[105]⟩ : ByteArray), 25⟩ : S37), (⟨(⟨#[106]⟩ : ByteArray), 26⟩ : S37), (⟨(⟨#[101, 120, 101, 99, 117, 116, 101]⟩ : ByteArray), 29⟩ : S37), (⟨(⟨#[43]⟩ : ByteArray), 30⟩ : S37), (⟨(⟨#[45]⟩ : ByteArray), 31⟩ : S37), (⟨(⟨#[42]⟩ : ByteArray), 32⟩ : S37), (⟨(⟨#[47]⟩ : ByteArray), 33⟩ : S37), (⟨(⟨#[109, 111, 100]⟩ : ByteArray), 34⟩ : S37), (⟨(⟨#[97, 110, 100]⟩ : ByteArray), 35⟩ : S37), (⟨(⟨#[111, 114]⟩ : ByteArray), 36⟩ : S37), (⟨(⟨#[120, 111, 114]⟩ : ByteArray), 37⟩ : S37), (⟨(⟨#[105, 110, 118, 101, 114, 116]⟩ : ByteArray), 38⟩ : S37), (⟨(⟨#[108, 115, 104, 105, 102, 116]⟩ : ByteArray), 39⟩ : S37), (⟨(⟨#[114, 115, 104, 105, 102, 116]⟩ : ByteArray), 40⟩ : S37), (⟨(⟨#[62, 62, 97]⟩ : ByteArray), 41⟩ : S37), (⟨(⟨#[47, 109, 111, 100]⟩ : ByteArray), 42⟩ : S37), (⟨(⟨#[117, 47, 109, 111, 100]⟩ : ByteArray), 43⟩ : S37), (⟨(⟨#[110, 101, 103, 97, 116, 101]⟩ : ByteArray), 44⟩ : S37), (⟨(⟨#[97, 98, 115]⟩ : ByteArray), 45⟩ : S37), (⟨(⟨#[109, 105, 110]⟩ : ByteArray), 46⟩ : S37), (⟨(⟨#[109, 97, 120]⟩ : ByteArray), 47⟩ : S37), (⟨(⟨#[62, 114]⟩ : ByteArray), 48⟩ : S37), (⟨(⟨#[114, 62]⟩ : ByteArray), 49⟩ : S37), (⟨(⟨#[114, 64]⟩ : ByteArray), 50⟩ : S37), (⟨(⟨#[48, 61]⟩ : ByteArray), 52⟩ : S37), (⟨(⟨#[48, 60, 62]⟩ : ByteArray), 53⟩ : S37), (⟨(⟨#[48, 60]⟩ : ByteArray), 54⟩ : S37), (⟨(⟨#[48, 60, 61]⟩ : ByteArray), 55⟩ : S37), (⟨(⟨#[48, 62]⟩ : ByteArray), 56⟩ : S37), (⟨(⟨#[48, 62, 61]⟩ : ByteArray), 57⟩ : S37), (⟨(⟨#[60]⟩ : ByteArray), 58⟩ : S37), (⟨(⟨#[62]⟩ : ByteArray), 59⟩ : S37), (⟨(⟨#[61]⟩ : ByteArray), 60⟩ : S37), (⟨(⟨#[60, 62]⟩ : ByteArray), 61⟩ : S37), (⟨(⟨#[117, 62]⟩ : ByteArray), 62⟩ : S37), (⟨(⟨#[117, 60, 61]⟩ : ByteArray), 63⟩ : S37), (⟨(⟨#[117, 60]⟩ : ByteArray), 64⟩ : S37), (⟨(⟨#[117, 62, 61]⟩ : ByteArray), 65⟩ : S37), (⟨(⟨#[62, 61]⟩ : ByteArray), 66⟩ : S37), (⟨(⟨#[60, 61]⟩ : ByteArray), 67⟩ : S37), (⟨(⟨#[100, 114, 111, 112]⟩ : ByteArray), 70⟩ : S37), (⟨(⟨#[100, 117, 112]⟩ : ByteArray), 71⟩ : S37), (⟨(⟨#[111, 118, 101, 114]⟩ : ByteArray), 72⟩ : S37), (⟨(⟨#[115, 119, 97, 112]⟩ : ByteArray), 73⟩ : S37), (⟨(⟨#[114, 111, 116]⟩ : ByteArray), 74⟩ : S37), (⟨(⟨#[45, 114, 111, 116]⟩ : ByteArray), 75⟩ : S37), (⟨(⟨#[116, 117, 99, 107]⟩ : ByteArray), 76⟩ : S37), (⟨(⟨#[110, 105, 112]⟩ : ByteArray), 77⟩ : S37), (⟨(⟨#[112, 105, 99, 107]⟩ : ByteArray), 78⟩ : S37), (⟨(⟨#[114, 111, 108, 108]⟩ : ByteArray), 79⟩ : S37), (⟨(⟨#[63, 100, 117, 112]⟩ : ByteArray), 80⟩ : S37), (⟨(⟨#[100, 101, 112, 116, 104]⟩ : ByteArray), 81⟩ : S37), (⟨(⟨#[50, 100, 114, 111, 112]⟩ : ByteArray), 82⟩ : S37), (⟨(⟨#[50, 100, 117, 112]⟩ : ByteArray), 83⟩ : S37), (⟨(⟨#[50, 111, 118, 101, 114]⟩ : ByteArray), 84⟩ : S37), (⟨(⟨#[50, 115, 119, 97, 112]⟩ : ByteArray), 85⟩ : S37), (⟨(⟨#[50, 114, 111, 116]⟩ : ByteArray), 86⟩ : S37), (⟨(⟨#[50, 47]⟩ : ByteArray), 87⟩ : S37), (⟨(⟨#[117, 50, 47]⟩ : ByteArray), 88⟩ : S37), (⟨(⟨#[50, 42]⟩ : ByteArray), 89⟩ : S37), (⟨(⟨#[43, 33]⟩ : ByteArray), 108⟩ : S37), (⟨(⟨#[64]⟩ : ByteArray), 109⟩ : S37), (⟨(⟨#[119, 64]⟩ : ByteArray), 111⟩ : S37), (⟨(⟨#[99, 64]⟩ : ByteArray), 113⟩ : S37), (⟨(⟨#[33]⟩ : ByteArray), 114⟩ : S37), (⟨(⟨#[119, 33]⟩ : ByteArray), 116⟩ : S37), (⟨(⟨#[99, 33]⟩ : ByteArray), 117⟩ : S37), (⟨(⟨#[109, 111, 118, 101]⟩ : ByteArray), 120⟩ : S37), (⟨(⟨#[102, 105, 108, 108]⟩ : ByteArray), 121⟩ : S37), (⟨(⟨#[99, 111, 109, 112]⟩ : ByteArray), 122⟩ : S37), (⟨(⟨#[108, 98, 115, 112, 108, 105, 116]⟩ : ByteArray), 126⟩ : S37), (⟨(⟨#[98, 108, 106, 111, 105, 110]⟩ : ByteArray), 127⟩ : S37), (⟨(⟨#[119, 98, 102, 108, 105, 112]⟩ : ByteArray), 128⟩ : S37), (⟨(⟨#[117, 112, 99]⟩ : ByteArray), 129⟩ : S37), (⟨(⟨#[108, 99, 99]⟩ : ByteArray), 130⟩ : S37), (⟨(⟨#[117, 110, 108, 111, 111, 112]⟩ : ByteArray), 137⟩ : S37), (⟨(⟨#[97, 108, 108, 111, 99, 45, 109, 101, 109]⟩ : ByteArray), 139⟩ : S37), (⟨(⟨#[101, 109, 105, 116]⟩ : ByteArray), 143⟩ : S37), (⟨(⟨#[116, 121, 112, 101]⟩ : ByteArray), 144⟩ : S37), (⟨(⟨#[99, 114]⟩ : ByteArray), 146⟩ : S37), (⟨(⟨#[117, 46]⟩ : ByteArray), 155⟩ : S37), (⟨(⟨#[46]⟩ : ByteArray), 157⟩ : S37), (⟨(⟨#[98, 97, 115, 101, 33]⟩ : ByteArray), 160⟩ : S37), (⟨(⟨#[45, 49]⟩ : ByteArray), 164⟩ : S37), (⟨(⟨#[48]⟩ : ByteArray), 165⟩ : S37), (⟨(⟨#[49]⟩ : ByteArray), 166⟩ : S37), (⟨(⟨#[50]⟩ : ByteArray), 167⟩ : S37), (⟨(⟨#[51]⟩ : ByteArray), 168⟩ : S37), (⟨(⟨#[98, 108]⟩ : ByteArray), 169⟩ : S37), (⟨(⟨#[104, 101, 114, 101]⟩ : ByteArray), 173⟩ : S37), (⟨(⟨#[117, 109, 42]⟩ : ByteArray), 212⟩ : S37), (⟨(⟨#[117, 109, 47, 109, 111, 100]⟩ : ByteArray), 213⟩ : S37), (⟨(⟨#[100, 43]⟩ : ByteArray), 216⟩ : S37), (⟨(⟨#[100, 45]⟩ : ByteArray), 217⟩ : S37), (⟨(⟨#[112, 114, 111, 112, 101, 114, 116, 121]⟩ : ByteArray), 272⟩ : S37), (⟨(⟨#[101, 110, 99, 111, 100, 101, 45, 105, 110, 116]⟩ : ByteArray), 273⟩ : S37), (⟨(⟨#[101, 110, 99, 111, 100, 101, 43]⟩ : ByteArray), 274⟩ : S37), (⟨(⟨#[101, 110, 99, 111, 100, 101, 45, 115, 116, 114, 105, 110, 103]⟩ : ByteArray), 276⟩ : S37), (⟨(⟨#[110, 101, 119, 45, 100, 101, 118, 105, 99, 101]⟩ : ByteArray), 287⟩ : S37), (⟨(⟨#[102, 105, 110, 105, 115, 104, 45, 100, 101, 118, 105, 99, 101]⟩ : ByteArray), 295⟩ : S37), (⟨(⟨#[115, 109, 47, 114, 101, 109]⟩ : ByteArray), 469⟩ : S37), (⟨(⟨#[109, 121, 45, 115, 101, 108, 102]⟩ : ByteArray), 515⟩ : S37), (⟨(⟨#[109, 121, 45, 112, 97, 114, 101, 110, 116]⟩ : ByteArray), 522⟩ : S37), (⟨(⟨#[36, 99, 97, 108, 108, 45, 109, 101, 116, 104, 111, 100]⟩ : ByteArray), 526⟩ : S37), (⟨(⟨#[99, 97, 116, 99, 104]⟩ : ByteArray), 535⟩ : S37), (⟨(⟨#[116, 104, 114, 111, 119]⟩ : ByteArray), 536⟩ : S37), (⟨(⟨#[103, 101, 116, 45, 109, 121, 45, 112, 114, 111, 112, 101, 114, 116, 121]⟩ : ByteArray), 538⟩ : S37), (⟨(⟨#[100, 101, 99, 111, 100, 101, 45, 105, 110, 116]⟩ : ByteArray), 539⟩ : S37), (⟨(⟨#[100, 101, 99, 111, 100, 101, 45, 115, 116, 114, 105, 110, 103]⟩ : ByteArray), 540⟩ : S37), (⟨(⟨#[100, 101, 108, 101, 116, 101, 45, 112, 114, 111, 112, 101, 114, 116, 121]⟩ : ByteArray), 542⟩ : S37), (⟨(⟨#[102, 109, 47, 109, 111, 100]⟩ : ByteArray), 725⟩ : S37)] : List (S37)))

end Go.Proofs.Ytfpkakedlapmkaa.Q
end
section
namespace Go.Proofs.Ytfpkakedlapmkaa.Q
open Go.RowKit Go.Proofs.YtfpkakedlapmkaaW.PrintWords Go.Proofs.YtfpkakedlapmkaaW.PrintLast Go.Proofs.YtfpkakedlapmkaaW.PrintMore
set_option linter.unusedVariables false
set_option linter.unusedSimpArgs false

attribute [local go_sem] max2_int min2_int max_two min_two max_three min_three max_four min_four
/-! ### tinderref09_wordFormed: function 53 -/
def tinderref09_wordFormed.j0 : Nat → Int → List (S91) → Bool → ByteArray → Int → Int → Int → List (S69) → Option (Bool)
  | 0, _, _, _, _, _, _, _, _ => none
  | k + 1, x1, x2, x37, x54002000, x54002001, x54002002, x54002003, x54002004 => if x37 = true then (some false) else (if x54002002 = 2 then (if x54002003 = 0 then ((tinderref09_Sound.f k x54002004 x1).bind fun t54003 => (some t54003)) else (some false)) else (if x54002002 = 6 then (if (wrap64 (x54002003)) ≥ x1 then (some false) else (some ((x54002004.length : Int) == 0))) else (if x54002002 = 7 then (if x54002001 < 0 then (some false) else (if 0 ≤ x54002001 then (if x54002001 < (x2.length : Int) then (if (wrap64 (x54002003)) ≥ (((rd_T91 x2 x54002001).f4).length : Int) then (some false) else (some ((x54002004.length : Int) == 0))) else (none)) else (none))) else (some ((x54002004.length : Int) == 0)))))
def tinderref09_wordFormed.f (k : Nat) (a0_0 : ByteArray) (a0_1 : Int) (a0_2 : Int) (a0_3 : Int) (l0_4 : List (S69)) (a1 : Int) (l2 : List (S91)) : Option (Bool) := if a0_2 < 2 then (tinderref09_wordFormed.j0 k a1 l2 true a0_0 a0_1 a0_2 a0_3 l0_4) else (if a0_2 > 7 then (tinderref09_wordFormed.j0 k a1 l2 true a0_0 a0_1 a0_2 a0_3 l0_4) else (if a0_0.toList = ([] : List UInt8) then (if a0_1 < (-1) then (tinderref09_wordFormed.j0 k a1 l2 true a0_0 a0_1 a0_2 a0_3 l0_4) else (tinderref09_wordFormed.j0 k a1 l2 (decide (a0_1 ≥ (l2.length : Int))) a0_0 a0_1 a0_2 a0_3 l0_4)) else ((tinderref09_Named.f k a0_0).bind fun t54002 => (if t54002 = true then (if a0_1 < (-1) then (tinderref09_wordFormed.j0 k a1 l2 true a0_0 a0_1 a0_2 a0_3 l0_4) else (tinderref09_wordFormed.j0 k a1 l2 (decide (a0_1 ≥ (l2.length : Int))) a0_0 a0_1 a0_2 a0_3 l0_4)) else (tinderref09_wordFormed.j0 k a1 l2 true a0_0 a0_1 a0_2 a0_3 l0_4)))))

end Go.Proofs.Ytfpkakedlapmkaa.Q
end
section
namespace Go.Proofs.Ytfpkakedlapmkaa.Q
open Go.RowKit Go.Proofs.YtfpkakedlapmkaaW.PrintWords Go.Proofs.YtfpkakedlapmkaaW.PrintLast Go.Proofs.YtfpkakedlapmkaaW.PrintMore
set_option linter.unusedVariables false
set_option linter.unusedSimpArgs false

attribute [local go_sem] max2_int min2_int max_two min_two max_three min_three max_four min_four
/-! ### tinderref09_Formed: function 27 -/
mutual
def tinderref09_Formed.j0 : Nat → List (S37) → Bool → List Int → List Int → List (S51) → List Int → Int → List (S91) → Int → List (S82) → Int → ByteArray → Option (Bool)
  | 0, _, _, _, _, _, _, _, _, _, _, _, _ => none
  | k + 1, x3, x52, x28002000, x28002001, x28002002, x28002003, x28002004, x28002005, x28002006, x28002007, x28002008, x28002009 => if x52 = true then (some false) else ((tinderref08_Formed.f k x28002005).bind fun t28005 => (if t28005 = true then (if x28002006 < (-1) then (tinderref09_Formed.j1 k x3 true x28002000 x28002001 x28002002 x28002003 x28002004 x28002005 x28002006 x28002007 x28002008 x28002009) else (if x28002006 ≥ (x28002005.length : Int) then (tinderref09_Formed.j1 k x3 true x28002000 x28002001 x28002002 x28002003 x28002004 x28002005 x28002006 x28002007 x28002008 x28002009) else ((tinderref09_instsFormed.f k x28002007 x28002005).bind fun t28006 => (if t28006 = true then (if x28002008 = (-1) then (tinderref09_Formed.j1 k x3 false x28002000 x28002001 x28002002 x28002003 x28002004 x28002005 x28002006 x28002007 x28002008 x28002009) else ((tinderref09_alive.f x28002007 x28002008).bind fun t28007 => (tinderref09_Formed.j1 k x3 (!t28007) x28002000 x28002001 x28002002 x28002003 x28002004 x28002005 x28002006 x28002007 x28002008 x28002009))) else (tinderref09_Formed.j1 k x3 true x28002000 x28002001 x28002002 x28002003 x28002004 x28002005 x28002006 x28002007 x28002008 x28002009))))) else (tinderref09_Formed.j1 k x3 true x28002000 x28002001 x28002002 x28002003 x28002004 x28002005 x28002006 x28002007 x28002008 x28002009)))
def tinderref09_Formed.j1 : Nat → List (S37) → Bool → List Int → List Int → List (S51) → List Int → Int → List (S91) → Int → List (S82) → Int → ByteArray → Option (Bool)
  | 0, _, _, _, _, _, _, _, _, _, _, _, _ => none
  | k + 1, x3, x90, x28002000, x28002001, x28002002, x28002003, x28002004, x28002005, x28002006, x28002007, x28002008, x28002009 => if x90 = true then (some false) else (tinderref09_Formed.l0 k x3 0 x28002000 x28002001 x28002002 x28002003 x28002004 x28002005 x28002006 x28002007 x28002008 x28002009)
def tinderref09_Formed.l0 : Nat → List (S37) → Int → List Int → List Int → List (S51) → List Int → Int → List (S91) → Int → List (S82) → Int → ByteArray → Option (Bool)
  | 0, _, _, _, _, _, _, _, _, _, _, _, _ => none
  | k + 1, x3, x4, x28002000, x28002001, x28002002, x28002003, x28002004, x28002005, x28002006, x28002007, x28002008, x28002009 => if x4 < (x28002002.length : Int) then (if x4 < (x3.length : Int) then (if 0 ≤ x4 then ((tinderref09_SameWord.f k ((rd_T51 x28002002 x4).f0) ((rd_T51 x28002002 x4).f1) ((rd_T51 x28002002 x4).f2) ((rd_T51 x28002002 x4).f3) ((rd_T51 x28002002 x4).f4) ((rd_T37 x3 x4).f0) (-1) 1 (((rd_T37 x3 x4).f1) % 4294967296) ([] : List (S69))).bind fun t28011 => (if t28011 = true then (tinderref09_Formed.l0 k x3 (wrap64 (x4 + 1)) x28002000 x28002001 x28002002 x28002003 x28002004 x28002005 x28002006 x28002007 x28002008 x28002009) else (some false))) else (none)) else (if 0 ≤ x4 then ((tinderref09_wordFormed.f k ((rd_T51 x28002002 x4).f0) ((rd_T51 x28002002 x4).f1) ((rd_T51 x28002002 x4).f2) ((rd_T51 x28002002 x4).f3) ((rd_T51 x28002002 x4).f4) (x28002002.length : Int) x28002005).bind fun t28013 => (if t28013 = true then (tinderref09_Formed.l0 k x3 (wrap64 (x4 + 1)) x28002000 x28002001 x28002002 x28002003 x28002004 x28002005 x28002006 x28002007 x28002008 x28002009) else (some false))) else (none))) else (tinderref09_Formed.l1 k 0 x28002000 x28002001 x28002002 x28002003 x28002004 x28002005 x28002006 x28002007 x28002008 x28002009)
def tinderref09_Formed.l1 : Nat → Int → List Int → List Int → List (S51) → List Int → Int → List (S91) → Int → List (S82) → Int → ByteArray → Option (Bool)
  | 0, _, _, _, _, _, _, _, _, _, _, _ => none
  | k + 1, x5, x28002000, x28002001, x28002002, x28002003, x28002004, x28002005, x28002006, x28002007, x28002008, x28002009 => if x5 < (x28002003.length : Int) then (if 0 ≤ x5 then (if (rd x28002003 x5) < (-1) then (some false) else (if (rd x28002003 x5) ≥ (x28002002.length : Int) then (some false) else (tinderref09_Formed.l1 k (wrap64 (x5 + 1)) x28002000 x28002001 x28002002 x28002003 x28002004 x28002005 x28002006 x28002007 x28002008 x28002009))) else (none)) else (some true)
end
def tinderref09_Formed.f (k : Nat) (l0_0 : List Int) (l0_1 : List Int) (l0_2 : List (S51)) (l0_3 : List Int) (a0_4 : Int) (l0_5 : List (S91)) (a0_6 : Int) (l0_7 : List (S82)) (a0_8 : Int) (a0_9 : ByteArray) : Option (Bool) := (tinderref09_Prims.f).bind fun t28002 => (if (l0_0.length : Int) > 64 then (tinderref09_Formed.j0 k t28002 true l0_0 l0_1 l0_2 l0_3 a0_4 l0_5 a0_6 l0_7 a0_8 a0_9) else (if (l0_1.length : Int) > 4096 then (tinderref09_Formed.j0 k t28002 true l0_0 l0_1 l0_2 l0_3 a0_4 l0_5 a0_6 l0_7 a0_8 a0_9) else (if (l0_2.length : Int) > 640 then (tinderref09_Formed.j0 k t28002 true l0_0 l0_1 l0_2 l0_3 a0_4 l0_5 a0_6 l0_7 a0_8 a0_9) else (if (l0_2.length : Int) < (t28002.length : Int) then (tinderref09_Formed.j0 k t28002 true l0_0 l0_1 l0_2 l0_3 a0_4 l0_5 a0_6 l0_7 a0_8 a0_9) else (if (l0_3.length : Int) > 2048 then (tinderref09_Formed.j0 k t28002 true l0_0 l0_1 l0_2 l0_3 a0_4 l0_5 a0_6 l0_7 a0_8 a0_9) else (if a0_4 < 2 then (tinderref09_Formed.j0 k t28002 true l0_0 l0_1 l0_2 l0_3 a0_4 l0_5 a0_6 l0_7 a0_8 a0_9) else (if a0_4 > 36 then (tinderref09_Formed.j0 k t28002 true l0_0 l0_1 l0_2 l0_3 a0_4 l0_5 a0_6 l0_7 a0_8 a0_9) else (tinderref09_Formed.j0 k t28002 (decide ((a0_9.size : Int) > 1024)) l0_0 l0_1 l0_2 l0_3 a0_4 l0_5 a0_6 l0_7 a0_8 a0_9))))))))
def tinderref09_Formed.T10 : Bool × List (List Nat × List Nat) := (true, [([], []), ([0], [0]), ([], []), ([1, 2], [1, 2]), ([3], [3]), ([], []), ([], []), ([5, 6], [5, 6]), ([7], [7]), ([8], [8]), ([], []), ([], []), ([10, 11], [10, 11]), ([12], [12]), ([13], [13]), ([14], [14]), ([9, 15], [9, 15]), ([4, 16], [4, 16]), ([17], [17])])
def tinderref09_Formed.B10 : List Nat := [0, 1, 0, 7, 15, 0, 0, 96, 224, 480, 0, 0, 3072, 7168, 15360, 31744, 65504, 131071, 262143]
def tinderref09_Formed.T12 : Bool × List (List Nat × List Nat) := (true, [([], []), ([0], [0]), ([], []), ([1, 2], [1, 2]), ([3], [3]), ([], []), ([5], [5]), ([6], [6]), ([], []), ([8], [8]), ([4, 7, 9], [4, 7, 9]), ([10], [10])])
def tinderref09_Formed.B12 : List Nat := [0, 1, 0, 7, 15, 0, 32, 96, 0, 256, 1023, 2047]
def tinderref09_Formed.T17 : Bool × List (List Nat × List Nat) := (true, [([], []), ([0], [0]), ([], []), ([1, 2], [1, 2]), ([3], [3]), ([4], [4]), ([5], [5]), ([6], [6]), ([7, 6], [6, 7]), ([6], [6]), ([8, 9, 6], [6, 8, 9]), ([10, 6], [6, 10]), ([6], [6]), ([12, 6], [6, 12]), ([13, 6], [6, 13]), ([11, 14, 6], [6, 11, 14]), ([6, 15], [6, 15])])
def tinderref09_Formed.B17 : List Nat := [0, 1, 0, 7, 15, 31, 63, 127, 255, 127, 1023, 2047, 127, 4223, 12415, 32767, 65535]

end Go.Proofs.Ytfpkakedlapmkaa.Q
end
section
set_option linter.unusedSimpArgs false
set_option linter.unusedVariables false
namespace Go.Proofs.Ytfpkakedlapmkaa.Q
open Go.RowKit Go.Proofs.YtfpkakedlapmkaaW.PrintWords Go.Proofs.YtfpkakedlapmkaaW.PrintLast
/-! Same, of one machine twice -/
/-- Lists that a machine in memory has. -/
def GoodM (l0 l1 : List Int) (l2 : List S51) (l3 : List Int) (l5 : List S91) (l7 : List S82) : Prop :=
  l0.length < 35184372088832 ∧ l1.length < 140737488355328 ∧ (l2.length < 2199023255552 ∧ ∀ x ∈ l2, x.f4.length < 8796093022208) ∧ l3.length < 17592186044416 ∧ GoodT l5 ∧ (l7.length < 2513169434916 ∧ ∀ x ∈ l7, x.f3.length < 35184372088832)
section
variable (l0 l1 : List Int) (l2 : List S51) (l3 : List Int) (a4 : Int) (l5 : List S91) (a6 : Int) (l7 : List S82) (a8 : Int) (a9 : ByteArray)
/-! Formed -/
end
section
variable (l0 l1 : List Int) (l2 : List S51) (l3 : List Int) (a4 : Int) (l5 : List S91) (a6 : Int) (l7 : List S82) (a8 : Int) (a9 : ByteArray)
def wordAt (p : List S37) (t : List S91) (l : List S51) (j : Nat) : Bool := if (j : Int) < (p.length : Int) then wOk (l.getD j z51) (p.getD j z37) else rightB l.length t (l.getD j z51)
end
end Go.Proofs.Ytfpkakedlapmkaa.Q
end
section
set_option linter.unusedSimpArgs false
set_option linter.unusedVariables false
namespace Go.Proofs.Ytfpkakedlapmkaa.Q
open Go.RowKit Go.Proofs.YtfpkakedlapmkaaW.PrintWords Go.Proofs.YtfpkakedlapmkaaW.PrintLast
theorem goodT_of {z : List S91} (h1 : z.length * 96 ≤ 140737488351232) (h : ∀ a ∈ z, NodeG a) : GoodT z := by
  refine ⟨by omega, fun x hx => ?_⟩
  obtain ⟨-, h1, -, h3, h4⟩ := h x hx
  refine ⟨by have := h1.1; omega, by have := h4.1; omega, by have := h3.1; omega, fun p hp => ?_⟩
  have := (h3.2 p hp).2.1
  omega
theorem goodM_of {z : S32} (h : MachG z) : GoodM z.f0 z.f1 z.f2 z.f3 z.f5 z.f7 := by
  obtain ⟨h0, h1, h2, h3, -, h5, -, h7, -, -⟩ := h
  refine ⟨by have := h0.1; omega, by have := h1.1; omega, ⟨by have := h2.1; omega, fun x hx => ?_⟩, by have := h3.1; omega, goodT_of h5.1 h5.2, by have := h7.1; omega, fun x hx => ?_⟩
  · have := (h2.2 x hx).2.2.2.2.1; omega
  · have := (h7.2 x hx).2.2.2.1; omega
theorem shortM_of {l0 l1 : List Int} {l2 : List S51} {l3 : List Int} {l5 : List S91} {l7 : List S82} (h : GoodM l0 l1 l2 l3 l5 l7) : shortM l0 l1 l2 l3 l5 l7 = true := by
  obtain ⟨h0, h1, h2, h3, h5, h7⟩ := h
  unfold shortM
  simp only [Bool.and_eq_true, decide_eq_true_eq, List.all_eq_true]
  refine ⟨by omega, by omega, by have := h2.1; omega, by omega, short_of h5, by have := h7.1; omega, fun x hx => ?_, fun x hx => ?_⟩
  · have := h2.2 x hx; unfold shortW; rw [decide_eq_true_eq]; omega
  · have := h7.2 x hx; unfold shortI; rw [decide_eq_true_eq]; omega
theorem dcopy_eq {l0 l1 : List Int} {l2 : List S51} {l3 : List Int} {l5 : List S91} {l7 : List S82} (h : GoodM l0 l1 l2 l3 l5 l7) (a4 a6 a8 : Int) (a9 : ByteArray) : dict_Copy.f l0 l1 l2 l3 a4 l5 a6 l7 a8 a9 = some (l0, l1, l2, l3, a4, l5, a6, l7, a8, a9) := if_pos (shortM_of h)
end Go.Proofs.Ytfpkakedlapmkaa.Q
end
section
set_option linter.unusedSimpArgs false
set_option linter.unusedVariables false
namespace Go.Proofs.Ytfpkakedlapmkaa.Q
open Go.RowKit Go.Proofs.YtfpkakedlapmkaaW.PrintWords Go.Proofs.YtfpkakedlapmkaaW.PrintLast
abbrev Mach := List Int × List Int × List S51 × List Int × Int × List S91 × Int × List S82 × Int × ByteArray
abbrev DefR := List Int × List Int × List S51 × List Int × Int × List S91 × Int × List S82 × Int × ByteArray × Int × Int
def noDef (e : Int) : DefR := ([], [], [], [], 0, [], 0, [], 0, ⟨#[]⟩, 0, e)
def defF (l0 l1 : List Int) (l2 : List S51) (l3 : List Int) (a4 : Int) (l5 : List S91) (a6 : Int) (l7 : List S82) (a8 : Int) (a9 : ByteArray) (x : S51) : DefR :=
  if formedF l0 l1 l2 l3 a4 l5 a6 l7 a8 a9 = true ∧ rightB ((l2.length : Int) + 1) l5 x = true then (if l2.length = 640 then noDef 22 else (l0, l1, l2 ++ [x], l3, a4, l5, a6, l7, a8, a9, (l2.length : Int), 0)) else noDef 1
theorem def_eq {l0 l1 : List Int} {l2 : List S51} {l3 : List Int} {l5 : List S91} {l7 : List S82} (hG : GoodM l0 l1 l2 l3 l5 l7) (a4 a6 a8 : Int) (a9 : ByteArray) (x : S51) (hx : x.f4.length * 16 < 140737488355328) (k : Nat) (hk : 3000 ≤ k) :
    dict_Define.f k l0 l1 l2 l3 a4 l5 a6 l7 a8 a9 x.f0 x.f1 x.f2 x.f3 x.f4 = some (defF l0 l1 l2 l3 a4 l5 a6 l7 a8 a9 x) := by
  obtain ⟨k, rfl⟩ : ∃ m, k = m + 1 := ⟨k - 1, by omega⟩
  have hb := hG.2.2.1.1
  unfold dict_Define.f defF
  rw [show dict_Formed.f l0 l1 l2 l3 a4 l5 a6 l7 a8 a9 = some (formedF l0 l1 l2 l3 a4 l5 a6 l7 a8 a9) from rfl, Option.bind_some]
  have hj : dict_Define.j0 (k + 1) (l2.length : Int) true l0 l1 l2 l3 a4 l5 a6 l7 a8 a9 x.f0 x.f1 x.f2 x.f3 x.f4 = some (noDef 1) := by rw [dict_Define.j0, if_pos rfl]; rfl
  cases formedF l0 l1 l2 l3 a4 l5 a6 l7 a8 a9 with
  | false => rw [if_neg (by simp), hj, if_neg (fun h => by cases h.1)]
  | true =>
    rw [if_pos rfl, show wrap64 ((l2.length : Int) + 1) = (l2.length : Int) + 1 by unfold wrap64; omega, right_eq _ _ _ _ (by omega), Option.bind_some]
    cases rightB ((l2.length : Int) + 1) l5 x with
    | false => rw [if_neg (fun h => by cases h.2)]; exact hj
    | true =>
      rw [if_pos ⟨rfl, rfl⟩, dict_Define.j0, if_neg (by simp)]
      by_cases h : l2.length = 640
      · rw [if_pos (by omega), if_pos h]; rfl
      · rw [if_neg (by omega), if_neg h, dcopy_eq hG, Option.bind_some, show api_Op.f x.f4 = some x.f4 from if_pos hx, Option.bind_some, if_pos hb]
end Go.Proofs.Ytfpkakedlapmkaa.Q
end
section
set_option linter.unusedVariables false
namespace Go.Proofs.Ytfpkakedlapmkaa.Q
open Go.RowKit Go.Proofs.YtfpkakedlapmkaaW.PrintWords Go.Proofs.YtfpkakedlapmkaaW.PrintLast
theorem lastP_app (P : S51 → Bool) (l : List S51) (x : S51) (h : P x = false) : lastP P (l ++ [x]) = lastP P l := by
  unfold lastP
  rw [List.reverse_append, List.reverse_singleton, List.singleton_append, List.findIdx?_cons, h]
  simp only [Bool.false_eq_true, if_false]
  cases l.reverse.findIdx? P with
  | none => rfl
  | some j =>
    show ((((l ++ [x]).length - 1 - (j + 1) : Nat) : Int), true) = _
    rw [List.length_append, List.length_singleton]
    congr 2
    omega
theorem dictNewest_row {w : World} (cs : Array Value) (z : S32) (hz : k32.K w z cs.toList) (hg : MachG z) (ds : Array Value) (x : S51) (hx : k51.K w x ds.toList) (hgx : WordG x) (s : ByteArray) (_hs : s.size ≤ 140737488351232) :
    Calls Try.prog 9 #[.agg cs, .agg ds, .string s] w fun e w' => e = .returned (.bool true) ∧ Below w.heap.size w w' := by
  obtain ⟨A0, c0, A1, c1, A2, c2, A3, c3, A5, c5, A7, c7, e, l0, g0, l1, g1, l2, g2, l3, g3, l5, g5, l7, g7⟩ := k32_open hz
  obtain rfl : cs = #[.slice A0 z.f0.length c0, .slice A1 z.f1.length c1, .slice A2 z.f2.length c2, .slice A3 z.f3.length c3, .int .u32 z.f4, .slice A5 z.f5.length c5, .int .i64 z.f6, .slice A7 z.f7.length c7, .int .i64 z.f8, .string z.f9] := Array.ext' e
  obtain ⟨A4, c4, e', l4, g4⟩ := k51_open hx
  obtain rfl : ds = #[.string x.f0, .int .i64 x.f1, .int .i64 x.f2, .int .u32 x.f3, .slice A4 x.f4.length c4] := Array.ext' e'
  have hG := goodM_of hg
  have hxs : x.f4.length * 16 < 140737488355328 := by have := hgx.2.2.2.2.1; omega
  refine tinderlaw09_DictNewest.calls 10000 A0 c0 z.f0 A1 c1 z.f1 A2 c2 z.f2 A3 c3 z.f3 z.f4 A5 c5 z.f5 z.f6 A7 c7 z.f7 z.f8 z.f9 x.f0 x.f1 x.f2 x.f3 A4 c4 x.f4 s true w g0 l0 g1 l1 g2 l2 g3 l3 g5 l5 g7 l7 g4 l4 ?_
  unfold tinderlaw09_DictNewest.f
  rw [show tinderlaw09_alive.f = some true from rfl, Option.bind_some, if_pos rfl, def_eq hG z.f4 z.f6 z.f8 z.f9 x hxs _ (by omega), Option.bind_some]
  have ht : ∀ (r : DefR), tinderlaw09_DictNewest.j0 10000 s true z.f0 z.f1 z.f2 z.f3 z.f4 z.f5 z.f6 z.f7 z.f8 z.f9 x.f0 x.f1 x.f2 x.f3 x.f4 r.1 r.2.1 r.2.2.1 r.2.2.2.1 r.2.2.2.2.1 r.2.2.2.2.2.1 r.2.2.2.2.2.2.1 r.2.2.2.2.2.2.2.1 r.2.2.2.2.2.2.2.2.1 r.2.2.2.2.2.2.2.2.2.1 = some true := fun r => by rw [show (10000 : Nat) = 9999 + 1 from rfl, tinderlaw09_DictNewest.j0, if_pos rfl]
  unfold defF
  by_cases hc : formedF z.f0 z.f1 z.f2 z.f3 z.f4 z.f5 z.f6 z.f7 z.f8 z.f9 = true ∧ rightB ((z.f2.length : Int) + 1) z.f5 x = true
  · rw [if_pos hc]
    by_cases hn : z.f2.length = 640
    · rw [if_pos hn, if_neg (by decide)]
      exact ht _
    · rw [if_neg hn, if_pos rfl]
      by_cases hs : s.toList = x.f0.toList
      · rw [beq_iff_eq.2 hs]
        exact ht (z.f0, z.f1, z.f2 ++ [x], z.f3, z.f4, z.f5, z.f6, z.f7, z.f8, z.f9, (z.f2.length : Int), 0)
      · have h1 : isN51 s x = false := by unfold isN51; rw [beq_eq_false_iff_ne.2 (fun h => hs h.symm), Bool.and_false]
        have h2 : isM51 s x.f1 x = false := by unfold isM51; rw [beq_eq_false_iff_ne.2 (fun h => hs h.symm), Bool.false_and, Bool.and_false, Bool.and_false]
        rw [beq_eq_false_iff_ne.2 hs, show (10000 : Nat) = 9999 + 1 from rfl, tinderlaw09_DictNewest.j0, if_neg (by simp)]
        show ((some (lastP (isN51 s) (z.f2 ++ [x]))).bind fun a => (some (lastP (isN51 s) z.f2)).bind fun b => (some (lastP (isM51 s x.f1) (z.f2 ++ [x]))).bind fun c => (some (lastP (isM51 s x.f1) z.f2)).bind fun d => (if a.1 = b.1 then (if (a.2 == b.2) = true then (if c.1 = d.1 then some (c.2 == d.2) else some false) else some false) else some false)) = some true
        rw [lastP_app _ _ _ h1, lastP_app _ _ _ h2, Option.bind_some, Option.bind_some, Option.bind_some, Option.bind_some, if_pos rfl, beq_self_eq_true, if_pos rfl, if_pos rfl, beq_self_eq_true]
  · rw [if_neg hc, if_neg (by decide)]
    exact ht _
end Go.Proofs.Ytfpkakedlapmkaa.Q
end
section
namespace Go.Proofs.Ytfpkakedlapmkaa.Q
open Go.RowKit Go.Proofs.YtfpkakedlapmkaaW.PrintWords Go.Proofs.YtfpkakedlapmkaaW.PrintLast Go.Proofs.YtfpkakedlapmkaaW.PrintMore
def Opens {α : Type} (P : Program) (t : TypeId) (d : Kd α) (G : α → Prop) : Prop :=
  ∀ (H : Type) (enc : TypeId × Value → H) (W : World) (fuel : Nat) (cs : List Value) (x : DataW H × List MemPlace), DataW.trod enc P W 0 (fun _ => true) true fuel t cs = some x → (∀ n ∈ x.1.weights P t, n ≤ reachBytes) → ∃ a, d.K W a cs ∧ G a
section
variable {P : Program} {t e : TypeId}
theorem opens_int {k : IntKind} (ht : P.underlying t = some (.int k)) : Opens P t (Kd.int k) (fun n => (Lit.int k n).wf = true) := by
  intro H enc W fuel cs x h _
  obtain ⟨n, rfl, _, hw⟩ := DataW.trod_int ht h
  exact ⟨n, rfl, hw⟩
theorem opens_string (ht : P.underlying t = some .string) : Opens P t Kd.string (fun s => s.size ≤ 140737488351232) := by
  intro H enc W fuel cs x h hw
  obtain ⟨s, rfl, rfl, _⟩ := DataW.trod_string ht h
  have := hw s.data.toList.length (by simp [DataW.weights])
  exact ⟨s, rfl, by simpa [reachBytes] using this⟩
theorem weights_all {H : Type} {P : Program} {e : TypeId} : ∀ {l : List (DataW H)} {d : DataW H}, d ∈ l → ∀ n ∈ d.weights P e, n ∈ DataW.weightsAll P e l
  | d0 :: l, d, hd, n, hn => by
    simp only [DataW.weightsAll, List.mem_append]
    rcases List.mem_cons.1 hd with rfl | hd
    · exact .inl hn
    · exact .inr (weights_all hd n hn)
theorem cells_get {W : World} {base : Nat} {a : Addr} {n : Nat} {c : List Value} (h : W.cells? base a n = some c) : c.length = n ∧ ∀ i u, c[i]? = some u → W.cell? (a.add i) = some u := by
  unfold World.cells? at h
  split at h
  · have hl := mapM_some_length h
    refine ⟨by simpa using hl, fun i u hu => ?_⟩
    have hi : i < n := by
      have := (List.getElem?_eq_some_iff.1 hu).1
      simp at hl
      omega
    have := mapM_some_get h i i (by simp [hi])
    rw [this, hu]
  · cases h
theorem opens_slice {α : Type} {d : Kd α} {G : α → Prop} (ht : P.underlying t = some (.slice e)) (hc : P.cellsOf e = d.sz) (b : Nat) (hb : P.bytesOf e = b) (he : Opens P e d G) :
    Opens P t (Kd.slice e d) (fun xs => xs.length * b ≤ 140737488351232 ∧ ∀ a ∈ xs, G a) := by
  intro H enc W fuel cs x h hw
  rcases DataW.trod_slice ht h with ⟨rfl, _⟩ | ⟨a, len, cap, elems, rest, n, _, rfl, rfl, _, hl, hm, hlen, hel, _⟩
  · exact ⟨[], ⟨none, 0, rfl, Nat.le_refl _, Kd.C_nil d W⟩, by simp, fun a h => by cases h⟩
  · have hwt : (elems.length + rest.length) * b ≤ 140737488351232 := by
      have := hw ((elems.length + rest.length) * P.bytesOf e) (by simp [DataW.weights, ht])
      rw [hb] at this
      simpa [reachBytes] using this
    have hall : ∀ i : Fin len, ∃ p : α, ∃ c, c.length = d.sz ∧ d.K W p c ∧ G p ∧ ∀ j u, c[j]? = some u → W.cell? (a.add (i.1 * d.sz + j)) = some u := by
      intro i
      have hi : i.1 < elems.length := by have := i.2; omega
      have h1 := hel i.1 i.2
      rw [List.getElem?_eq_getElem hi] at h1
      obtain ⟨c, hcs, htr⟩ := Option.bind_eq_some_iff.1 h1
      obtain ⟨hcl, hcg⟩ := cells_get hcs
      obtain ⟨p, hK, hG⟩ := he H enc W n c _ htr (fun m hm => hw m (by
        simp only [DataW.weights, ht, List.mem_cons, List.mem_append]
        exact .inr (.inl (weights_all (List.mem_map.2 ⟨_, List.getElem_mem hi, rfl⟩) m hm))))
      refine ⟨p, c, by rw [hcl, hc], hK, hG, fun j u hu => ?_⟩
      have := hcg j u hu
      rw [add_add, hc] at this
      exact this
    refine ⟨List.ofFn fun i => Classical.choose (hall i), ⟨some a, cap, by simp, by simpa using hl, by simp, by simp only [maxLen] at hm; simp; omega, fun _ => ⟨a, rfl, fun j p hj => ?_⟩⟩, ?_, ?_⟩
    · obtain ⟨hjl, hjp⟩ := List.getElem?_eq_some_iff.1 hj
      simp only [List.length_ofFn] at hjl
      have h2 := Classical.choose_spec (hall ⟨j, hjl⟩)
      rw [List.getElem_ofFn] at hjp
      rw [hjp] at h2
      obtain ⟨c, h3, h4, _, h6⟩ := h2
      exact ⟨c, h3, h4, h6⟩
    · rw [List.length_ofFn]
      refine Nat.le_trans (Nat.mul_le_mul_right b ?_) hwt
      omega
    · intro p hp
      obtain ⟨i, rfl⟩ := (List.mem_ofFn).1 hp
      obtain ⟨_, _, _, h5, _⟩ := Classical.choose_spec (hall i)
      exact h5
/-- The fields of a struct from one on, one behind the other. -/
def OpensFields {α : Type} (P : Program) (fs : List Field) (off : Nat) (d : Kd α) (G : α → Prop) : Prop :=
  ∀ (H : Type) (enc : TypeId × Value → H) (W : World) (fuel : Nat) (cs : List Value) (xs : List (DataW H × List MemPlace)), off + d.sz = cs.length → xs.length = fs.length →
    (∀ (i : Nat) (f : Field), fs[i]? = some f → DataW.trod enc P W 0 (fun _ => true) true fuel f.type ((cs.drop f.offset).take (P.cellsOf f.type)) = xs[i]?) →
    (∀ n ∈ DataW.weightsEach P (fs.map (·.type)) (xs.map (·.1)), n ≤ reachBytes) → ∃ a, d.K W a (cs.drop off) ∧ G a
theorem opens_one {α : Type} {d : Kd α} {G : α → Prop} {f : Field} {off : Nat} (ho : f.offset = off) (hc : P.cellsOf f.type = d.sz) (he : Opens P f.type d G) : OpensFields P [f] off d G := by
  intro H enc W fuel cs xs hl hx hf hw
  match xs, hx with
  | [x], _ =>
    have h0 := hf 0 f rfl
    rw [ho, hc, List.take_of_length_le (by rw [List.length_drop]; omega)] at h0
    exact he H enc W fuel _ x h0 (fun n hn => hw n (by simpa [DataW.weightsEach] using hn))
theorem opens_more {α β : Type} {d : Kd α} {d2 : Kd β} {G : α → Prop} {G2 : β → Prop} {f : Field} {fs : List Field} {off : Nat} (ho : f.offset = off) (hc : P.cellsOf f.type = d.sz) (he : Opens P f.type d G) (hs : OpensFields P fs (off + d.sz) d2 G2) :
    OpensFields P (f :: fs) off (Kd.pair d d2) (fun p => G p.1 ∧ G2 p.2) := by
  intro H enc W fuel cs xs hl hx hf hw
  have hl' : off + (d.sz + d2.sz) = cs.length := hl
  match xs, hx with
  | x :: xs, hx =>
    have h0 := hf 0 f rfl
    rw [ho, hc] at h0
    obtain ⟨a, h1, h2⟩ := he H enc W fuel _ x h0 (fun n hn => hw n (by simp only [List.map_cons, DataW.weightsEach, List.mem_append]; exact .inl hn))
    obtain ⟨b, h3, h4⟩ := hs H enc W fuel cs xs (by omega) (by simpa using hx) (fun i g hg => by simpa using hf (i + 1) g (by simpa using hg)) (fun n hn => hw n (by simp only [List.map_cons, DataW.weightsEach, List.mem_append]; exact .inr hn))
    refine ⟨(a, b), ⟨_, _, ?_, h1, h3⟩, h2, h4⟩
    rw [← List.drop_drop, List.take_append_drop]
theorem opens_struct {α : Type} {d : Kd α} {G : α → Prop} {fs : Array Field} (ht : P.underlying t = some (.struct fs)) (hc : P.cellsOf t = d.sz) (hf : OpensFields P fs.toList 0 d G) : Opens P t d G := by
  intro H enc W fuel cs x h hw
  obtain ⟨xs, n, _, rfl, hl, hlen, hg⟩ := DataW.trod_struct ht h
  have := hf H enc W n cs xs (by omega) (by simpa using hlen) (fun i f hi => hg i f (by simpa using hi)) (fun m hm => hw m (by simpa [DataW.weights, ht] using hm))
  simpa using this
theorem opens_iso {α β : Type} {d : Kd α} {G : α → Prop} (f : β → α) (g : α → β) (hfg : ∀ a, f (g a) = a) (h : Opens P t d G) : Opens P t (Kd.iso d f) (fun b => G (f b)) := by
  intro H enc W fuel cs x hx hw
  obtain ⟨a, h1, h2⟩ := h H enc W fuel cs x hx hw
  exact ⟨g a, by show d.K W (f (g a)) cs; rw [hfg]; exact h1, by show G (f (g a)); rw [hfg]; exact h2⟩
theorem weights_each {H : Type} {P : Program} {ts : List TypeId} {ds : List (DataW H)} (h : (DataW.weightsEach P ts ds).all (· ≤ reachBytes) = true) {j : Nat} {t : TypeId} {d : DataW H} (ht : ts[j]? = some t) (hd : ds[j]? = some d) : ∀ n ∈ d.weights P t, n ≤ reachBytes := fun n hn => by
  simpa using List.all_eq_true.1 h _ (DataW.weights_mem_each ht hd n hn)
end
end Go.Proofs.Ytfpkakedlapmkaa.Q
end
