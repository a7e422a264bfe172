/- Contracts of Go functions and plain facts, of several texts, one behind the other; no condition. -/
import Derived.Test.YtnalcjgefbelnaaDoorMTreeForms2
import Derived.Test.YtnalcjgefbelnaaDoorMTreeForms3
import Derived.Test.YtnalcjgefbelnaaDoorMTreeForms4
import Derived.Shelf.Strings.Builder1
import Derived.Shelf.Strings.Builder2
import Derived.Shelf.Strings.OnBuilder
import Derived.Test.YtnalcjgefbelnaaDoorProg
import Derived.Lib.Strings
import Derived.Lib.ItoaNum
section
namespace Go.Proofs.YtnalcjgefbelnaaDoor.Q
open Go.RowKit Go.Proofs.YtnalcjgefbelnaaDoorW.PrintWords Go.Proofs.YtnalcjgefbelnaaDoorW.PrintLast Go.Proofs.YtnalcjgefbelnaaDoorW.PrintMore
set_option linter.unusedVariables false
set_option linter.unusedSimpArgs false

attribute [local go_sem] max2_int min2_int max_two min_two max_three min_three max_four min_four
/-! ### tinderref04_Same: function 31 -/
def tinderref04_Same.f (l0 : List Int) (l1 : List Int) : Option (Bool) := some ((strOfNums l0).toList == (strOfNums l1).toList)
set_option maxHeartbeats 8000000 in
set_option maxRecDepth 100000 in
theorem tinderref04_Same.calls (A0 : Option Addr) (c0 : Nat) (l0 : List Int) (A1 : Option Addr) (c1 : Nat) (l1 : List Int) (r : Bool) (w : World) (hr0 : Kd.C (Kd.int .u8) w A0 l0.length l0) (hc0 : l0.length ≤ c0) (hr1 : Kd.C (Kd.int .u8) w A1 l1.length l1) (hc1 : l1.length ≤ c1) (h : tinderref04_Same.f l0 l1 = some r) :
    Calls Tryd.prog 31 #[.slice A0 l0.length c0, .slice A1 l1.length c1] w fun e w' => e = .returned (.bool r) ∧ Drawn0 w w' := by
  have HR0 := Aside0.mk hr0
  have HC0 := Aside0.mk hc0
  clear hr0 hc0
  have HR1 := Aside0.mk hr1
  have HC1 := Aside0.mk hc1
  clear hr1 hc1
  have H : (some ((strOfNums l0).toList == (strOfNums l1).toList)) = some r := h
  clear h
  obtain rfl := Option.some.inj H
  have hcv3 := Kd.C_string (P := Tryd.prog) (A := A0) (c := c0) Tryd.underlying28 Tryd.underlying5 Tryd.underlying9 HR0.out
  have hcv4 := Kd.C_string (P := Tryd.prog) (A := A1) (c := c1) Tryd.underlying28 Tryd.underlying5 Tryd.underlying9 HR1.out
  go_enter Tryd.func31, Tryd.ntmps31
  go_wp2
  go_ret
  exact ⟨by first | rfl | (simp; done) | (simp [*]; done), by repeat (first | exact Drawn0.refl _ | apply Drawn0.step)⟩

end Go.Proofs.YtnalcjgefbelnaaDoor.Q
end
section
namespace Go.Proofs.YtnalcjgefbelnaaDoor.Q
open Go.RowKit Go.Proofs.YtnalcjgefbelnaaDoorW.PrintWords Go.Proofs.YtnalcjgefbelnaaDoorW.PrintLast Go.Proofs.YtnalcjgefbelnaaDoorW.PrintMore
set_option linter.unusedVariables false
set_option linter.unusedSimpArgs false

attribute [local go_sem] max2_int min2_int max_two min_two max_three min_three max_four min_four
/-! ### tinderref08_SameNode: function 39 -/
mutual
def tinderref08_SameNode.j0 : Nat → Bool → ByteArray → List Int → Int → List (S53) → List Int → ByteArray → List Int → Int → List (S53) → List Int → Option (Bool)
  | 0, _, _, _, _, _, _, _, _, _, _, _ => none
  | k + 1, x42, x40002000, x40002001, x40002002, x40002003, x40002004, x40003000, x40003001, x40003002, x40003003, x40003004 => if x42 = true then (some false) else (tinderref08_SameNode.l0 k 0 x40002000 x40002001 x40002002 x40002003 x40002004 x40003000 x40003001 x40003002 x40003003 x40003004)
def tinderref08_SameNode.l0 : Nat → Int → ByteArray → List Int → Int → List (S53) → List Int → ByteArray → List Int → Int → List (S53) → List Int → Option (Bool)
  | 0, _, _, _, _, _, _, _, _, _, _, _ => none
  | k + 1, x5, x40002000, x40002001, x40002002, x40002003, x40002004, x40003000, x40003001, x40003002, x40003003, x40003004 => if x5 < (x40002003.length : Int) then (if 0 ≤ x5 then (if x5 < (x40003003.length : Int) then (if ((rd_T53 x40002003 x5).f0).toList = ((rd_T53 x40003003 x5).f0).toList then ((tinderref04_Same.f ((rd_T53 x40002003 x5).f1) ((rd_T53 x40003003 x5).f1)).bind fun t40009 => (if t40009 = true then (tinderref08_SameNode.l0 k (wrap64 (x5 + 1)) x40002000 x40002001 x40002002 x40002003 x40002004 x40003000 x40003001 x40003002 x40003003 x40003004) else (some false))) else (some false)) else (none)) else (none)) else (some true)
end
def tinderref08_SameNode.f (k : Nat) (a0_0 : ByteArray) (l0_1 : List Int) (a0_2 : Int) (l0_3 : List (S53)) (l0_4 : List Int) (a1_0 : ByteArray) (l1_1 : List Int) (a1_2 : Int) (l1_3 : List (S53)) (l1_4 : List Int) : Option (Bool) := if a0_0.toList = a1_0.toList then (if a0_2 = a1_2 then ((tinderref03_Same.f k l0_1 l1_1).bind fun t40003 => (if t40003 = true then ((tinderref03_Same.f k l0_4 l1_4).bind fun t40004 => (if t40004 = true then (tinderref08_SameNode.j0 k ((l0_3.length : Int) != (l1_3.length : Int)) a0_0 l0_1 a0_2 l0_3 l0_4 a1_0 l1_1 a1_2 l1_3 l1_4) else (tinderref08_SameNode.j0 k true a0_0 l0_1 a0_2 l0_3 l0_4 a1_0 l1_1 a1_2 l1_3 l1_4))) else (tinderref08_SameNode.j0 k true a0_0 l0_1 a0_2 l0_3 l0_4 a1_0 l1_1 a1_2 l1_3 l1_4))) else (tinderref08_SameNode.j0 k true a0_0 l0_1 a0_2 l0_3 l0_4 a1_0 l1_1 a1_2 l1_3 l1_4)) else (tinderref08_SameNode.j0 k true a0_0 l0_1 a0_2 l0_3 l0_4 a1_0 l1_1 a1_2 l1_3 l1_4)
set_option maxHeartbeats 8000000 in
set_option maxRecDepth 100000 in
theorem tinderref08_SameNode.calls (k : Nat) (a0_0 : ByteArray) (A0_1 : Option Addr) (c0_1 : Nat) (l0_1 : List Int) (a0_2 : Int) (A0_3 : Option Addr) (c0_3 : Nat) (l0_3 : List (S53)) (A0_4 : Option Addr) (c0_4 : Nat) (l0_4 : List Int) (a1_0 : ByteArray) (A1_1 : Option Addr) (c1_1 : Nat) (l1_1 : List Int) (a1_2 : Int) (A1_3 : Option Addr) (c1_3 : Nat) (l1_3 : List (S53)) (A1_4 : Option Addr) (c1_4 : Nat) (l1_4 : List Int) (r : Bool) (w : World) (hr0_1 : Kd.C (Kd.int .u32) w A0_1 l0_1.length l0_1) (hc0_1 : l0_1.length ≤ c0_1) (hr0_3 : Kd.C k53 w A0_3 l0_3.length l0_3) (hc0_3 : l0_3.length ≤ c0_3) (hr0_4 : Kd.C (Kd.int .u32) w A0_4 l0_4.length l0_4) (hc0_4 : l0_4.length ≤ c0_4) (hr1_1 : Kd.C (Kd.int .u32) w A1_1 l1_1.length l1_1) (hc1_1 : l1_1.length ≤ c1_1) (hr1_3 : Kd.C k53 w A1_3 l1_3.length l1_3) (hc1_3 : l1_3.length ≤ c1_3) (hr1_4 : Kd.C (Kd.int .u32) w A1_4 l1_4.length l1_4) (hc1_4 : l1_4.length ≤ c1_4) (h : tinderref08_SameNode.f k a0_0 l0_1 a0_2 l0_3 l0_4 a1_0 l1_1 a1_2 l1_3 l1_4 = some r) :
    Calls Tryd.prog 39 #[.agg #[.string a0_0, .slice A0_1 l0_1.length c0_1, .int .i64 a0_2, .slice A0_3 l0_3.length c0_3, .slice A0_4 l0_4.length c0_4], .agg #[.string a1_0, .slice A1_1 l1_1.length c1_1, .int .i64 a1_2, .slice A1_3 l1_3.length c1_3, .slice A1_4 l1_4.length c1_4]] w fun e w' => e = .returned (.bool r) ∧ Below w.heap.size w w' := by
  have hu44 := Tryd.underlying44
  have HR0_1 := Aside0.mk hr0_1
  have HC0_1 := Aside0.mk hc0_1
  clear hr0_1 hc0_1
  have HR0_3 := Aside0.mk hr0_3
  have HC0_3 := Aside0.mk hc0_3
  clear hr0_3 hc0_3
  have HR0_4 := Aside0.mk hr0_4
  have HC0_4 := Aside0.mk hc0_4
  clear hr0_4 hc0_4
  have HR1_1 := Aside0.mk hr1_1
  have HC1_1 := Aside0.mk hc1_1
  clear hr1_1 hc1_1
  have HR1_3 := Aside0.mk hr1_3
  have HC1_3 := Aside0.mk hc1_3
  clear hr1_3 hc1_3
  have HR1_4 := Aside0.mk hr1_4
  have HC1_4 := Aside0.mk hc1_4
  clear hr1_4 hc1_4
  have HB := Aside0.mk (Below.refl w.heap.size w)
  have H : (if a0_0.toList = a1_0.toList then (if a0_2 = a1_2 then ((tinderref03_Same.f k l0_1 l1_1).bind fun t40003 => (if t40003 = true then ((tinderref03_Same.f k l0_4 l1_4).bind fun t40004 => (if t40004 = true then (tinderref08_SameNode.j0 k ((l0_3.length : Int) != (l1_3.length : Int)) a0_0 l0_1 a0_2 l0_3 l0_4 a1_0 l1_1 a1_2 l1_3 l1_4) else (tinderref08_SameNode.j0 k true a0_0 l0_1 a0_2 l0_3 l0_4 a1_0 l1_1 a1_2 l1_3 l1_4))) else (tinderref08_SameNode.j0 k true a0_0 l0_1 a0_2 l0_3 l0_4 a1_0 l1_1 a1_2 l1_3 l1_4))) else (tinderref08_SameNode.j0 k true a0_0 l0_1 a0_2 l0_3 l0_4 a1_0 l1_1 a1_2 l1_3 l1_4)) else (tinderref08_SameNode.j0 k true a0_0 l0_1 a0_2 l0_3 l0_4 a1_0 l1_1 a1_2 l1_3 l1_4)) = some r := h
  clear h
  have HC3 := Aside0.mk H
  clear H
  go_enter Tryd.func39, Tryd.ntmps39
  go_upto_region 1 with (first | ((with_reducible refine gate_dst (N := 2) rfl ?_); (try (refine gate_guard (by rfl) ?_; dsimp only)); refine box_event ?hg (N := 2) ?hd (cs := #[.string a0_0, .slice A0_1 l0_1.length c0_1, .int .i64 a0_2, .slice A0_3 l0_3.length c0_3, .slice A0_4 l0_4.length c0_4]) (t := 44) ?hr ?_; (case hd => rfl); (case hg => rfl); (case hr => first | (go_simp; done) | (go_simp; rfl)); intro gb40001 hg w4 hbox hb; have n0_ := Aside0.mk (below_step (by repeat (first | (with_reducible first | exact HB.out | apply below_alloc | apply pw_below_drewN | apply below_drew1) | exact HB.out)) hb); have n1_ := Aside0.mk (hbox); have n2_ := Aside0.mk ((by rw [hg]; exact (below_size (by repeat (first | (with_reducible first | exact HB.out | apply below_alloc | apply pw_below_drewN | apply below_drew1) | exact HB.out))) : w.heap.size ≤ gb40001)); have n3_ := Aside0.mk ((by rw [hg]; exact (below_size (by repeat (first | (with_reducible first | exact HB.out | apply below_alloc | apply pw_below_drewN | apply below_drew1) | exact HB.out))) : w.heap.size ≤ gb40001)); clear HB; have HB := n0_; have BK40001 := n1_; have GW40001 := n2_; have GE40001 := n3_; clear n0_ n1_ n2_ n3_; clear hb hbox hg) | ((with_reducible refine gate_dst (N := 3) rfl ?_); (try (refine gate_guard (by rfl) ?_; dsimp only)); refine box_event ?hg (N := 3) ?hd (cs := #[.string a1_0, .slice A1_1 l1_1.length c1_1, .int .i64 a1_2, .slice A1_3 l1_3.length c1_3, .slice A1_4 l1_4.length c1_4]) (t := 44) ?hr ?_; (case hd => rfl); (case hg => rfl); (case hr => first | (go_simp; done) | (go_simp; rfl)); intro gb40002 hg w5 hbox hb; have n0_ := Aside0.mk (blk_below (g := gb40001) (o := .cells #[.string a0_0, .slice A0_1 l0_1.length c0_1, .int .i64 a0_2, .slice A0_3 l0_3.length c0_3, .slice A0_4 l0_4.length c0_4] 44 (0, 0)) (by (with_reducible repeat (first | refine blk_drewN ?_ _ | refine blk_drew ?_ | refine blk_alloc ?_ _)); exact BK40001.out) hb); have n1_ := Aside0.mk (below_step (by repeat (first | (with_reducible first | exact HB.out | apply below_alloc | apply pw_below_drewN | apply below_drew1 | refine below_set ?_ GE40001.out) | exact HB.out)) hb); have n2_ := Aside0.mk (hbox); have n3_ := Aside0.mk ((by rw [hg]; exact (below_size (by repeat (first | (with_reducible first | exact HB.out | apply below_alloc | apply pw_below_drewN | apply below_drew1 | refine below_set ?_ GE40001.out) | exact HB.out))) : w.heap.size ≤ gb40002)); have n4_ := Aside0.mk ((by rw [hg]; exact (below_size (by repeat (first | (with_reducible first | exact HB.out | apply below_alloc | apply pw_below_drewN | apply below_drew1 | refine below_set ?_ GE40001.out) | exact HB.out))) : w.heap.size ≤ gb40002)); have n5_ := Aside0.mk ((by rw [hg]; exact Nat.ne_of_lt (blk_lt (g := gb40001) (o := .cells #[.string a0_0, .slice A0_1 l0_1.length c0_1, .int .i64 a0_2, .slice A0_3 l0_3.length c0_3, .slice A0_4 l0_4.length c0_4] 44 (0, 0)) (by (with_reducible repeat (first | refine blk_drewN ?_ _ | refine blk_drew ?_ | refine blk_alloc ?_ _)); exact BK40001.out)) : gb40001 ≠ gb40002)); have n6_ := Aside0.mk ((by rw [hg]; exact Nat.ne_of_gt (blk_lt (g := gb40001) (o := .cells #[.string a0_0, .slice A0_1 l0_1.length c0_1, .int .i64 a0_2, .slice A0_3 l0_3.length c0_3, .slice A0_4 l0_4.length c0_4] 44 (0, 0)) (by (with_reducible repeat (first | refine blk_drewN ?_ _ | refine blk_drew ?_ | refine blk_alloc ?_ _)); exact BK40001.out)) : gb40002 ≠ gb40001)); clear BK40001; clear HB; have BK40001 := n0_; have HB := n1_; have BK40002 := n2_; have GW40002 := n3_; have GE40002 := n4_; have NB40001_40002 := n5_; have NB40002_40001 := n6_; clear n0_ n1_ n2_ n3_ n4_ n5_ n6_; clear hb hbox hg))
  repeat (go_quiet (first | ((with_reducible refine gate_dst (N := 2) rfl ?_); (try (refine gate_guard (by rfl) ?_; dsimp only)); refine box_event ?hg (N := 2) ?hd (cs := #[.string a0_0, .slice A0_1 l0_1.length c0_1, .int .i64 a0_2, .slice A0_3 l0_3.length c0_3, .slice A0_4 l0_4.length c0_4]) (t := 44) ?hr ?_; (case hd => rfl); (case hg => rfl); (case hr => first | (go_simp; done) | (go_simp; rfl)); intro gb40001 hg w4 hbox hb; have n0_ := Aside0.mk (below_step (by repeat (first | (with_reducible first | exact HB.out | apply below_alloc | apply pw_below_drewN | apply below_drew1) | exact HB.out)) hb); have n1_ := Aside0.mk (hbox); have n2_ := Aside0.mk ((by rw [hg]; exact (below_size (by repeat (first | (with_reducible first | exact HB.out | apply below_alloc | apply pw_below_drewN | apply below_drew1) | exact HB.out))) : w.heap.size ≤ gb40001)); have n3_ := Aside0.mk ((by rw [hg]; exact (below_size (by repeat (first | (with_reducible first | exact HB.out | apply below_alloc | apply pw_below_drewN | apply below_drew1) | exact HB.out))) : w.heap.size ≤ gb40001)); clear HB; have HB := n0_; have BK40001 := n1_; have GW40001 := n2_; have GE40001 := n3_; clear n0_ n1_ n2_ n3_; clear hb hbox hg) | ((with_reducible refine gate_dst (N := 3) rfl ?_); (try (refine gate_guard (by rfl) ?_; dsimp only)); refine box_event ?hg (N := 3) ?hd (cs := #[.string a1_0, .slice A1_1 l1_1.length c1_1, .int .i64 a1_2, .slice A1_3 l1_3.length c1_3, .slice A1_4 l1_4.length c1_4]) (t := 44) ?hr ?_; (case hd => rfl); (case hg => rfl); (case hr => first | (go_simp; done) | (go_simp; rfl)); intro gb40002 hg w5 hbox hb; have n0_ := Aside0.mk (blk_below (g := gb40001) (o := .cells #[.string a0_0, .slice A0_1 l0_1.length c0_1, .int .i64 a0_2, .slice A0_3 l0_3.length c0_3, .slice A0_4 l0_4.length c0_4] 44 (0, 0)) (by (with_reducible repeat (first | refine blk_drewN ?_ _ | refine blk_drew ?_ | refine blk_alloc ?_ _)); exact BK40001.out) hb); have n1_ := Aside0.mk (below_step (by repeat (first | (with_reducible first | exact HB.out | apply below_alloc | apply pw_below_drewN | apply below_drew1 | refine below_set ?_ GE40001.out) | exact HB.out)) hb); have n2_ := Aside0.mk (hbox); have n3_ := Aside0.mk ((by rw [hg]; exact (below_size (by repeat (first | (with_reducible first | exact HB.out | apply below_alloc | apply pw_below_drewN | apply below_drew1 | refine below_set ?_ GE40001.out) | exact HB.out))) : w.heap.size ≤ gb40002)); have n4_ := Aside0.mk ((by rw [hg]; exact (below_size (by repeat (first | (with_reducible first | exact HB.out | apply below_alloc | apply pw_below_drewN | apply below_drew1 | refine below_set ?_ GE40001.out) | exact HB.out))) : w.heap.size ≤ gb40002)); have n5_ := Aside0.mk ((by rw [hg]; exact Nat.ne_of_lt (blk_lt (g := gb40001) (o := .cells #[.string a0_0, .slice A0_1 l0_1.length c0_1, .int .i64 a0_2, .slice A0_3 l0_3.length c0_3, .slice A0_4 l0_4.length c0_4] 44 (0, 0)) (by (with_reducible repeat (first | refine blk_drewN ?_ _ | refine blk_drew ?_ | refine blk_alloc ?_ _)); exact BK40001.out)) : gb40001 ≠ gb40002)); have n6_ := Aside0.mk ((by rw [hg]; exact Nat.ne_of_gt (blk_lt (g := gb40001) (o := .cells #[.string a0_0, .slice A0_1 l0_1.length c0_1, .int .i64 a0_2, .slice A0_3 l0_3.length c0_3, .slice A0_4 l0_4.length c0_4] 44 (0, 0)) (by (with_reducible repeat (first | refine blk_drewN ?_ _ | refine blk_drew ?_ | refine blk_alloc ?_ _)); exact BK40001.out)) : gb40002 ≠ gb40001)); clear BK40001; clear HB; have BK40001 := n0_; have HB := n1_; have BK40002 := n2_; have GW40002 := n3_; have GE40002 := n4_; have NB40001_40002 := n5_; have NB40002_40001 := n6_; clear n0_ n1_ n2_ n3_ n4_ n5_ n6_; clear hb hbox hg)); go_upto_region 1 with (first | ((with_reducible refine gate_dst (N := 2) rfl ?_); (try (refine gate_guard (by rfl) ?_; dsimp only)); refine box_event ?hg (N := 2) ?hd (cs := #[.string a0_0, .slice A0_1 l0_1.length c0_1, .int .i64 a0_2, .slice A0_3 l0_3.length c0_3, .slice A0_4 l0_4.length c0_4]) (t := 44) ?hr ?_; (case hd => rfl); (case hg => rfl); (case hr => first | (go_simp; done) | (go_simp; rfl)); intro gb40001 hg w4 hbox hb; have n0_ := Aside0.mk (below_step (by repeat (first | (with_reducible first | exact HB.out | apply below_alloc | apply pw_below_drewN | apply below_drew1) | exact HB.out)) hb); have n1_ := Aside0.mk (hbox); have n2_ := Aside0.mk ((by rw [hg]; exact (below_size (by repeat (first | (with_reducible first | exact HB.out | apply below_alloc | apply pw_below_drewN | apply below_drew1) | exact HB.out))) : w.heap.size ≤ gb40001)); have n3_ := Aside0.mk ((by rw [hg]; exact (below_size (by repeat (first | (with_reducible first | exact HB.out | apply below_alloc | apply pw_below_drewN | apply below_drew1) | exact HB.out))) : w.heap.size ≤ gb40001)); clear HB; have HB := n0_; have BK40001 := n1_; have GW40001 := n2_; have GE40001 := n3_; clear n0_ n1_ n2_ n3_; clear hb hbox hg) | ((with_reducible refine gate_dst (N := 3) rfl ?_); (try (refine gate_guard (by rfl) ?_; dsimp only)); refine box_event ?hg (N := 3) ?hd (cs := #[.string a1_0, .slice A1_1 l1_1.length c1_1, .int .i64 a1_2, .slice A1_3 l1_3.length c1_3, .slice A1_4 l1_4.length c1_4]) (t := 44) ?hr ?_; (case hd => rfl); (case hg => rfl); (case hr => first | (go_simp; done) | (go_simp; rfl)); intro gb40002 hg w5 hbox hb; have n0_ := Aside0.mk (blk_below (g := gb40001) (o := .cells #[.string a0_0, .slice A0_1 l0_1.length c0_1, .int .i64 a0_2, .slice A0_3 l0_3.length c0_3, .slice A0_4 l0_4.length c0_4] 44 (0, 0)) (by (with_reducible repeat (first | refine blk_drewN ?_ _ | refine blk_drew ?_ | refine blk_alloc ?_ _)); exact BK40001.out) hb); have n1_ := Aside0.mk (below_step (by repeat (first | (with_reducible first | exact HB.out | apply below_alloc | apply pw_below_drewN | apply below_drew1 | refine below_set ?_ GE40001.out) | exact HB.out)) hb); have n2_ := Aside0.mk (hbox); have n3_ := Aside0.mk ((by rw [hg]; exact (below_size (by repeat (first | (with_reducible first | exact HB.out | apply below_alloc | apply pw_below_drewN | apply below_drew1 | refine below_set ?_ GE40001.out) | exact HB.out))) : w.heap.size ≤ gb40002)); have n4_ := Aside0.mk ((by rw [hg]; exact (below_size (by repeat (first | (with_reducible first | exact HB.out | apply below_alloc | apply pw_below_drewN | apply below_drew1 | refine below_set ?_ GE40001.out) | exact HB.out))) : w.heap.size ≤ gb40002)); have n5_ := Aside0.mk ((by rw [hg]; exact Nat.ne_of_lt (blk_lt (g := gb40001) (o := .cells #[.string a0_0, .slice A0_1 l0_1.length c0_1, .int .i64 a0_2, .slice A0_3 l0_3.length c0_3, .slice A0_4 l0_4.length c0_4] 44 (0, 0)) (by (with_reducible repeat (first | refine blk_drewN ?_ _ | refine blk_drew ?_ | refine blk_alloc ?_ _)); exact BK40001.out)) : gb40001 ≠ gb40002)); have n6_ := Aside0.mk ((by rw [hg]; exact Nat.ne_of_gt (blk_lt (g := gb40001) (o := .cells #[.string a0_0, .slice A0_1 l0_1.length c0_1, .int .i64 a0_2, .slice A0_3 l0_3.length c0_3, .slice A0_4 l0_4.length c0_4] 44 (0, 0)) (by (with_reducible repeat (first | refine blk_drewN ?_ _ | refine blk_drew ?_ | refine blk_alloc ?_ _)); exact BK40001.out)) : gb40002 ≠ gb40001)); clear BK40001; clear HB; have BK40001 := n0_; have HB := n1_; have BK40002 := n2_; have GW40002 := n3_; have GE40002 := n4_; have NB40001_40002 := n5_; have NB40002_40001 := n6_; clear n0_ n1_ n2_ n3_ n4_ n5_ n6_; clear hb hbox hg)))
  (try simp only [Act.put, List.setIfInBounds_toArray, List.set_cons_zero, List.set_cons_succ])
  go_cut [42] (fun v42 wc => ∃ (kq : Nat) (x42_2 : Bool), v42 = .bool x42_2 ∧ Aside0 (tinderref08_SameNode.j0 kq x42_2 a0_0 l0_1 a0_2 l0_3 l0_4 a1_0 l1_1 a1_2 l1_3 l1_4 = some r) ∧ Aside0 (kq ≤ k) ∧ Aside0 (wc.heap[gb40001]? = some (.cells #[.string a0_0, (.slice A0_1 l0_1.length c0_1), .int .i64 a0_2, (.slice A0_3 l0_3.length c0_3), (.slice A0_4 l0_4.length c0_4)] 44 (0, 0))) ∧ Aside0 (wc.heap[gb40002]? = some (.cells #[.string a1_0, (.slice A1_1 l1_1.length c1_1), .int .i64 a1_2, (.slice A1_3 l1_3.length c1_3), (.slice A1_4 l1_4.length c1_4)] 44 (0, 0))) ∧ Aside0 (Below w.heap.size w wc))
  case first =>
    have H := HC3.out
    clear HC3
    by_cases c6 : a0_0.toList = a1_0.toList
    · rw [if_pos c6] at H
      have c6b0 : (a0_0.toList == a1_0.toList) = true := beq_iff_eq.mpr c6
      have c6b1 : (a0_0.toList != a1_0.toList) = false := bne_eq_false_iff_eq.mpr c6
      clear c6
      (first | rw [c6b0] | (simp only [i64_w, i32_w]; rw [c6b0]) | skip)
      by_cases c7 : a0_2 = a1_2
      · rw [if_pos c7] at H
        have c7b0 : (a0_2 == a1_2) = true := beq_iff_eq.mpr c7
        have c7b1 : (a0_2 != a1_2) = false := bne_eq_false_iff_eq.mpr c7
        clear c7
        replace H := Option.bind_eq_some_iff.mp H
        obtain ⟨t40003, A80, H⟩ := H
        replace H : (if t40003 = true then ((tinderref03_Same.f k l0_4 l1_4).bind fun t40004 => (if t40004 = true then (tinderref08_SameNode.j0 k ((l0_3.length : Int) != (l1_3.length : Int)) a0_0 l0_1 a0_2 l0_3 l0_4 a1_0 l1_1 a1_2 l1_3 l1_4) else (tinderref08_SameNode.j0 k true a0_0 l0_1 a0_2 l0_3 l0_4 a1_0 l1_1 a1_2 l1_3 l1_4))) else (tinderref08_SameNode.j0 k true a0_0 l0_1 a0_2 l0_3 l0_4 a1_0 l1_1 a1_2 l1_3 l1_4)) = some r := H
        have A8 := Aside0.mk A80
        clear A80
        by_cases c9 : t40003 = true
        · subst c9
          have H1 : ((tinderref03_Same.f k l0_4 l1_4).bind fun t40004 => (if t40004 = true then (tinderref08_SameNode.j0 k ((l0_3.length : Int) != (l1_3.length : Int)) a0_0 l0_1 a0_2 l0_3 l0_4 a1_0 l1_1 a1_2 l1_3 l1_4) else (tinderref08_SameNode.j0 k true a0_0 l0_1 a0_2 l0_3 l0_4 a1_0 l1_1 a1_2 l1_3 l1_4))) = some r := by rw [if_pos rfl] at H; exact H
          clear H
          have H := H1
          clear H1
          replace H := Option.bind_eq_some_iff.mp H
          obtain ⟨t40004, A100, H⟩ := H
          replace H : (if t40004 = true then (tinderref08_SameNode.j0 k ((l0_3.length : Int) != (l1_3.length : Int)) a0_0 l0_1 a0_2 l0_3 l0_4 a1_0 l1_1 a1_2 l1_3 l1_4) else (tinderref08_SameNode.j0 k true a0_0 l0_1 a0_2 l0_3 l0_4 a1_0 l1_1 a1_2 l1_3 l1_4)) = some r := H
          have A10 := Aside0.mk A100
          clear A100
          by_cases c11 : t40004 = true
          · subst c11
            have H1 : (tinderref08_SameNode.j0 k ((l0_3.length : Int) != (l1_3.length : Int)) a0_0 l0_1 a0_2 l0_3 l0_4 a1_0 l1_1 a1_2 l1_3 l1_4) = some r := by rw [if_pos rfl] at H; exact H
            clear H
            have H := H1
            clear H1
            have H' := Aside0.mk H
            clear H
            have hnb12 := NB40001_40002.out
            have hnc12 := NB40002_40001.out
            have hcz13_0 : w5.cell? ⟨gb40001, 0, none⟩ = some (.string a0_0) := (blk_cell BK40001.out 0).trans rfl
            have hcz13_1 : w5.cell? ⟨gb40001, 1, none⟩ = some (.slice A0_1 l0_1.length c0_1) := (blk_cell BK40001.out 1).trans rfl
            have hcz13_2 : w5.cell? ⟨gb40001, 2, none⟩ = some (.int .i64 a0_2) := (blk_cell BK40001.out 2).trans rfl
            have hcz13_3 : w5.cell? ⟨gb40001, 3, none⟩ = some (.slice A0_3 l0_3.length c0_3) := (blk_cell BK40001.out 3).trans rfl
            have hcz13_4 : w5.cell? ⟨gb40001, 4, none⟩ = some (.slice A0_4 l0_4.length c0_4) := (blk_cell BK40001.out 4).trans rfl
            have hfz13_0 := blk_frozen BK40001.out 0
            have hfz13_1 := blk_frozen BK40001.out 1
            have hfz13_2 := blk_frozen BK40001.out 2
            have hfz13_3 := blk_frozen BK40001.out 3
            have hfz13_4 := blk_frozen BK40001.out 4
            have hcz14_0 : w5.cell? ⟨gb40002, 0, none⟩ = some (.string a1_0) := (blk_cell BK40002.out 0).trans rfl
            have hcz14_1 : w5.cell? ⟨gb40002, 1, none⟩ = some (.slice A1_1 l1_1.length c1_1) := (blk_cell BK40002.out 1).trans rfl
            have hcz14_2 : w5.cell? ⟨gb40002, 2, none⟩ = some (.int .i64 a1_2) := (blk_cell BK40002.out 2).trans rfl
            have hcz14_3 : w5.cell? ⟨gb40002, 3, none⟩ = some (.slice A1_3 l1_3.length c1_3) := (blk_cell BK40002.out 3).trans rfl
            have hcz14_4 : w5.cell? ⟨gb40002, 4, none⟩ = some (.slice A1_4 l1_4.length c1_4) := (blk_cell BK40002.out 4).trans rfl
            have hfz14_0 := blk_frozen BK40002.out 0
            have hfz14_1 := blk_frozen BK40002.out 1
            have hfz14_2 := blk_frozen BK40002.out 2
            have hfz14_3 := blk_frozen BK40002.out 3
            have hfz14_4 := blk_frozen BK40002.out 4
            go_wp2_with (first | (go_at_call 26; (with_reducible refine (tinderref03_Same.calls k _ _ l0_1 _ _ l1_1 true _ ?side1 ?side2 ?side3 ?side4 A8.out).mono ?_); (case side1 => repeat (first | exact (Kd.C_below HR0_1.out HB.out) | (with_reducible refine Kd.C_alloc ?_ _) | (with_reducible refine Kd.C_drewN ?_ _) | (with_reducible refine Kd.C_drew ?_))); (case side2 => exact HC0_1.out); (case side3 => repeat (first | exact (Kd.C_below HR1_1.out HB.out) | (with_reducible refine Kd.C_alloc ?_ _) | (with_reducible refine Kd.C_drewN ?_ _) | (with_reducible refine Kd.C_drew ?_))); (case side4 => exact HC1_1.out); rintro e w' ⟨rfl, ⟨nd, rfl⟩⟩; (try first | exact ⟨rfl, _, World.drewN_drewN _ _ _⟩ | exact ⟨rfl, _, Eq.trans (World.drewN_drewN _ _ _) (congrArg (World.drewN _) (Nat.add_assoc _ _ _))⟩)) | (go_at_call 26; (with_reducible refine (tinderref03_Same.calls k _ _ l0_4 _ _ l1_4 true _ ?side1 ?side2 ?side3 ?side4 A10.out).mono ?_); (case side1 => repeat (first | exact (Kd.C_below HR0_4.out (by repeat (first | (with_reducible first | exact HB.out | apply below_alloc | apply pw_below_drewN | apply below_drew1 | refine below_set ?_ GE40001.out | refine below_set ?_ GE40002.out) | exact HB.out))) | (with_reducible refine Kd.C_alloc ?_ _) | (with_reducible refine Kd.C_drewN ?_ _) | (with_reducible refine Kd.C_drew ?_))); (case side2 => exact HC0_4.out); (case side3 => repeat (first | exact (Kd.C_below HR1_4.out (by repeat (first | (with_reducible first | exact HB.out | apply below_alloc | apply pw_below_drewN | apply below_drew1 | refine below_set ?_ GE40001.out | refine below_set ?_ GE40002.out) | exact HB.out))) | (with_reducible refine Kd.C_alloc ?_ _) | (with_reducible refine Kd.C_drewN ?_ _) | (with_reducible refine Kd.C_drew ?_))); (case side4 => exact HC1_4.out); rintro e w' ⟨rfl, ⟨nd, rfl⟩⟩; (try first | exact ⟨rfl, _, World.drewN_drewN _ _ _⟩ | exact ⟨rfl, _, Eq.trans (World.drewN_drewN _ _ _) (congrArg (World.drewN _) (Nat.add_assoc _ _ _))⟩)))
            repeat (go_quiet (first | (go_at_call 26; (with_reducible refine (tinderref03_Same.calls k _ _ l0_1 _ _ l1_1 true _ ?side1 ?side2 ?side3 ?side4 A8.out).mono ?_); (case side1 => repeat (first | exact (Kd.C_below HR0_1.out HB.out) | (with_reducible refine Kd.C_alloc ?_ _) | (with_reducible refine Kd.C_drewN ?_ _) | (with_reducible refine Kd.C_drew ?_))); (case side2 => exact HC0_1.out); (case side3 => repeat (first | exact (Kd.C_below HR1_1.out HB.out) | (with_reducible refine Kd.C_alloc ?_ _) | (with_reducible refine Kd.C_drewN ?_ _) | (with_reducible refine Kd.C_drew ?_))); (case side4 => exact HC1_1.out); rintro e w' ⟨rfl, ⟨nd, rfl⟩⟩; (try first | exact ⟨rfl, _, World.drewN_drewN _ _ _⟩ | exact ⟨rfl, _, Eq.trans (World.drewN_drewN _ _ _) (congrArg (World.drewN _) (Nat.add_assoc _ _ _))⟩)) | (go_at_call 26; (with_reducible refine (tinderref03_Same.calls k _ _ l0_4 _ _ l1_4 true _ ?side1 ?side2 ?side3 ?side4 A10.out).mono ?_); (case side1 => repeat (first | exact (Kd.C_below HR0_4.out (by repeat (first | (with_reducible first | exact HB.out | apply below_alloc | apply pw_below_drewN | apply below_drew1 | refine below_set ?_ GE40001.out | refine below_set ?_ GE40002.out) | exact HB.out))) | (with_reducible refine Kd.C_alloc ?_ _) | (with_reducible refine Kd.C_drewN ?_ _) | (with_reducible refine Kd.C_drew ?_))); (case side2 => exact HC0_4.out); (case side3 => repeat (first | exact (Kd.C_below HR1_4.out (by repeat (first | (with_reducible first | exact HB.out | apply below_alloc | apply pw_below_drewN | apply below_drew1 | refine below_set ?_ GE40001.out | refine below_set ?_ GE40002.out) | exact HB.out))) | (with_reducible refine Kd.C_alloc ?_ _) | (with_reducible refine Kd.C_drewN ?_ _) | (with_reducible refine Kd.C_drew ?_))); (case side4 => exact HC1_4.out); rintro e w' ⟨rfl, ⟨nd, rfl⟩⟩; (try first | exact ⟨rfl, _, World.drewN_drewN _ _ _⟩ | exact ⟨rfl, _, Eq.trans (World.drewN_drewN _ _ _) (congrArg (World.drewN _) (Nat.add_assoc _ _ _))⟩))); try go_wp2_with (first | (go_at_call 26; (with_reducible refine (tinderref03_Same.calls k _ _ l0_1 _ _ l1_1 true _ ?side1 ?side2 ?side3 ?side4 A8.out).mono ?_); (case side1 => repeat (first | exact (Kd.C_below HR0_1.out HB.out) | (with_reducible refine Kd.C_alloc ?_ _) | (with_reducible refine Kd.C_drewN ?_ _) | (with_reducible refine Kd.C_drew ?_))); (case side2 => exact HC0_1.out); (case side3 => repeat (first | exact (Kd.C_below HR1_1.out HB.out) | (with_reducible refine Kd.C_alloc ?_ _) | (with_reducible refine Kd.C_drewN ?_ _) | (with_reducible refine Kd.C_drew ?_))); (case side4 => exact HC1_1.out); rintro e w' ⟨rfl, ⟨nd, rfl⟩⟩; (try first | exact ⟨rfl, _, World.drewN_drewN _ _ _⟩ | exact ⟨rfl, _, Eq.trans (World.drewN_drewN _ _ _) (congrArg (World.drewN _) (Nat.add_assoc _ _ _))⟩)) | (go_at_call 26; (with_reducible refine (tinderref03_Same.calls k _ _ l0_4 _ _ l1_4 true _ ?side1 ?side2 ?side3 ?side4 A10.out).mono ?_); (case side1 => repeat (first | exact (Kd.C_below HR0_4.out (by repeat (first | (with_reducible first | exact HB.out | apply below_alloc | apply pw_below_drewN | apply below_drew1 | refine below_set ?_ GE40001.out | refine below_set ?_ GE40002.out) | exact HB.out))) | (with_reducible refine Kd.C_alloc ?_ _) | (with_reducible refine Kd.C_drewN ?_ _) | (with_reducible refine Kd.C_drew ?_))); (case side2 => exact HC0_4.out); (case side3 => repeat (first | exact (Kd.C_below HR1_4.out (by repeat (first | (with_reducible first | exact HB.out | apply below_alloc | apply pw_below_drewN | apply below_drew1 | refine below_set ?_ GE40001.out | refine below_set ?_ GE40002.out) | exact HB.out))) | (with_reducible refine Kd.C_alloc ?_ _) | (with_reducible refine Kd.C_drewN ?_ _) | (with_reducible refine Kd.C_drew ?_))); (case side4 => exact HC1_4.out); rintro e w' ⟨rfl, ⟨nd, rfl⟩⟩; (try first | exact ⟨rfl, _, World.drewN_drewN _ _ _⟩ | exact ⟨rfl, _, Eq.trans (World.drewN_drewN _ _ _) (congrArg (World.drewN _) (Nat.add_assoc _ _ _))⟩))))
            go_meet
            case rel => exact ⟨_, (((l0_3.length : Int) != (l1_3.length : Int))), (by first | rfl | (simp; done) | (simp [*]; done)), H', ⟨by first | omega | exact Nat.le_refl _⟩, ⟨by (with_reducible repeat (first | refine blk_drewN ?_ _ | refine blk_drew ?_ | refine blk_alloc ?_ _)); exact BK40001.out⟩, ⟨by (with_reducible repeat (first | refine blk_drewN ?_ _ | refine blk_drew ?_ | refine blk_alloc ?_ _)); exact BK40002.out⟩, ⟨by repeat (first | (with_reducible first | exact HB.out | apply below_alloc | apply pw_below_drewN | apply below_drew1 | refine below_set ?_ GE40001.out | refine below_set ?_ GE40002.out) | exact HB.out)⟩⟩
          · replace c11 := Bool.eq_false_iff.mpr c11
            subst c11
            have H1 : (tinderref08_SameNode.j0 k true a0_0 l0_1 a0_2 l0_3 l0_4 a1_0 l1_1 a1_2 l1_3 l1_4) = some r := by rw [if_neg (show ¬ (false = true) by decide)] at H; exact H
            clear H
            have H := H1
            clear H1
            have H' := Aside0.mk H
            clear H
            have hnb15 := NB40001_40002.out
            have hnc15 := NB40002_40001.out
            have hcz16_0 : w5.cell? ⟨gb40001, 0, none⟩ = some (.string a0_0) := (blk_cell BK40001.out 0).trans rfl
            have hcz16_1 : w5.cell? ⟨gb40001, 1, none⟩ = some (.slice A0_1 l0_1.length c0_1) := (blk_cell BK40001.out 1).trans rfl
            have hcz16_2 : w5.cell? ⟨gb40001, 2, none⟩ = some (.int .i64 a0_2) := (blk_cell BK40001.out 2).trans rfl
            have hcz16_3 : w5.cell? ⟨gb40001, 3, none⟩ = some (.slice A0_3 l0_3.length c0_3) := (blk_cell BK40001.out 3).trans rfl
            have hcz16_4 : w5.cell? ⟨gb40001, 4, none⟩ = some (.slice A0_4 l0_4.length c0_4) := (blk_cell BK40001.out 4).trans rfl
            have hfz16_0 := blk_frozen BK40001.out 0
            have hfz16_1 := blk_frozen BK40001.out 1
            have hfz16_2 := blk_frozen BK40001.out 2
            have hfz16_3 := blk_frozen BK40001.out 3
            have hfz16_4 := blk_frozen BK40001.out 4
            have hcz17_0 : w5.cell? ⟨gb40002, 0, none⟩ = some (.string a1_0) := (blk_cell BK40002.out 0).trans rfl
            have hcz17_1 : w5.cell? ⟨gb40002, 1, none⟩ = some (.slice A1_1 l1_1.length c1_1) := (blk_cell BK40002.out 1).trans rfl
            have hcz17_2 : w5.cell? ⟨gb40002, 2, none⟩ = some (.int .i64 a1_2) := (blk_cell BK40002.out 2).trans rfl
            have hcz17_3 : w5.cell? ⟨gb40002, 3, none⟩ = some (.slice A1_3 l1_3.length c1_3) := (blk_cell BK40002.out 3).trans rfl
            have hcz17_4 : w5.cell? ⟨gb40002, 4, none⟩ = some (.slice A1_4 l1_4.length c1_4) := (blk_cell BK40002.out 4).trans rfl
            have hfz17_0 := blk_frozen BK40002.out 0
            have hfz17_1 := blk_frozen BK40002.out 1
            have hfz17_2 := blk_frozen BK40002.out 2
            have hfz17_3 := blk_frozen BK40002.out 3
            have hfz17_4 := blk_frozen BK40002.out 4
            go_wp2_with (first | (go_at_call 26; (with_reducible refine (tinderref03_Same.calls k _ _ l0_1 _ _ l1_1 true _ ?side1 ?side2 ?side3 ?side4 A8.out).mono ?_); (case side1 => repeat (first | exact (Kd.C_below HR0_1.out HB.out) | (with_reducible refine Kd.C_alloc ?_ _) | (with_reducible refine Kd.C_drewN ?_ _) | (with_reducible refine Kd.C_drew ?_))); (case side2 => exact HC0_1.out); (case side3 => repeat (first | exact (Kd.C_below HR1_1.out HB.out) | (with_reducible refine Kd.C_alloc ?_ _) | (with_reducible refine Kd.C_drewN ?_ _) | (with_reducible refine Kd.C_drew ?_))); (case side4 => exact HC1_1.out); rintro e w' ⟨rfl, ⟨nd, rfl⟩⟩; (try first | exact ⟨rfl, _, World.drewN_drewN _ _ _⟩ | exact ⟨rfl, _, Eq.trans (World.drewN_drewN _ _ _) (congrArg (World.drewN _) (Nat.add_assoc _ _ _))⟩)) | (go_at_call 26; (with_reducible refine (tinderref03_Same.calls k _ _ l0_4 _ _ l1_4 false _ ?side1 ?side2 ?side3 ?side4 A10.out).mono ?_); (case side1 => repeat (first | exact (Kd.C_below HR0_4.out (by repeat (first | (with_reducible first | exact HB.out | apply below_alloc | apply pw_below_drewN | apply below_drew1 | refine below_set ?_ GE40001.out | refine below_set ?_ GE40002.out) | exact HB.out))) | (with_reducible refine Kd.C_alloc ?_ _) | (with_reducible refine Kd.C_drewN ?_ _) | (with_reducible refine Kd.C_drew ?_))); (case side2 => exact HC0_4.out); (case side3 => repeat (first | exact (Kd.C_below HR1_4.out (by repeat (first | (with_reducible first | exact HB.out | apply below_alloc | apply pw_below_drewN | apply below_drew1 | refine below_set ?_ GE40001.out | refine below_set ?_ GE40002.out) | exact HB.out))) | (with_reducible refine Kd.C_alloc ?_ _) | (with_reducible refine Kd.C_drewN ?_ _) | (with_reducible refine Kd.C_drew ?_))); (case side4 => exact HC1_4.out); rintro e w' ⟨rfl, ⟨nd, rfl⟩⟩; (try first | exact ⟨rfl, _, World.drewN_drewN _ _ _⟩ | exact ⟨rfl, _, Eq.trans (World.drewN_drewN _ _ _) (congrArg (World.drewN _) (Nat.add_assoc _ _ _))⟩)))
            repeat (go_quiet (first | (go_at_call 26; (with_reducible refine (tinderref03_Same.calls k _ _ l0_1 _ _ l1_1 true _ ?side1 ?side2 ?side3 ?side4 A8.out).mono ?_); (case side1 => repeat (first | exact (Kd.C_below HR0_1.out HB.out) | (with_reducible refine Kd.C_alloc ?_ _) | (with_reducible refine Kd.C_drewN ?_ _) | (with_reducible refine Kd.C_drew ?_))); (case side2 => exact HC0_1.out); (case side3 => repeat (first | exact (Kd.C_below HR1_1.out HB.out) | (with_reducible refine Kd.C_alloc ?_ _) | (with_reducible refine Kd.C_drewN ?_ _) | (with_reducible refine Kd.C_drew ?_))); (case side4 => exact HC1_1.out); rintro e w' ⟨rfl, ⟨nd, rfl⟩⟩; (try first | exact ⟨rfl, _, World.drewN_drewN _ _ _⟩ | exact ⟨rfl, _, Eq.trans (World.drewN_drewN _ _ _) (congrArg (World.drewN _) (Nat.add_assoc _ _ _))⟩)) | (go_at_call 26; (with_reducible refine (tinderref03_Same.calls k _ _ l0_4 _ _ l1_4 false _ ?side1 ?side2 ?side3 ?side4 A10.out).mono ?_); (case side1 => repeat (first | exact (Kd.C_below HR0_4.out (by repeat (first | (with_reducible first | exact HB.out | apply below_alloc | apply pw_below_drewN | apply below_drew1 | refine below_set ?_ GE40001.out | refine below_set ?_ GE40002.out) | exact HB.out))) | (with_reducible refine Kd.C_alloc ?_ _) | (with_reducible refine Kd.C_drewN ?_ _) | (with_reducible refine Kd.C_drew ?_))); (case side2 => exact HC0_4.out); (case side3 => repeat (first | exact (Kd.C_below HR1_4.out (by repeat (first | (with_reducible first | exact HB.out | apply below_alloc | apply pw_below_drewN | apply below_drew1 | refine below_set ?_ GE40001.out | refine below_set ?_ GE40002.out) | exact HB.out))) | (with_reducible refine Kd.C_alloc ?_ _) | (with_reducible refine Kd.C_drewN ?_ _) | (with_reducible refine Kd.C_drew ?_))); (case side4 => exact HC1_4.out); rintro e w' ⟨rfl, ⟨nd, rfl⟩⟩; (try first | exact ⟨rfl, _, World.drewN_drewN _ _ _⟩ | exact ⟨rfl, _, Eq.trans (World.drewN_drewN _ _ _) (congrArg (World.drewN _) (Nat.add_assoc _ _ _))⟩))); try go_wp2_with (first | (go_at_call 26; (with_reducible refine (tinderref03_Same.calls k _ _ l0_1 _ _ l1_1 true _ ?side1 ?side2 ?side3 ?side4 A8.out).mono ?_); (case side1 => repeat (first | exact (Kd.C_below HR0_1.out HB.out) | (with_reducible refine Kd.C_alloc ?_ _) | (with_reducible refine Kd.C_drewN ?_ _) | (with_reducible refine Kd.C_drew ?_))); (case side2 => exact HC0_1.out); (case side3 => repeat (first | exact (Kd.C_below HR1_1.out HB.out) | (with_reducible refine Kd.C_alloc ?_ _) | (with_reducible refine Kd.C_drewN ?_ _) | (with_reducible refine Kd.C_drew ?_))); (case side4 => exact HC1_1.out); rintro e w' ⟨rfl, ⟨nd, rfl⟩⟩; (try first | exact ⟨rfl, _, World.drewN_drewN _ _ _⟩ | exact ⟨rfl, _, Eq.trans (World.drewN_drewN _ _ _) (congrArg (World.drewN _) (Nat.add_assoc _ _ _))⟩)) | (go_at_call 26; (with_reducible refine (tinderref03_Same.calls k _ _ l0_4 _ _ l1_4 false _ ?side1 ?side2 ?side3 ?side4 A10.out).mono ?_); (case side1 => repeat (first | exact (Kd.C_below HR0_4.out (by repeat (first | (with_reducible first | exact HB.out | apply below_alloc | apply pw_below_drewN | apply below_drew1 | refine below_set ?_ GE40001.out | refine below_set ?_ GE40002.out) | exact HB.out))) | (with_reducible refine Kd.C_alloc ?_ _) | (with_reducible refine Kd.C_drewN ?_ _) | (with_reducible refine Kd.C_drew ?_))); (case side2 => exact HC0_4.out); (case side3 => repeat (first | exact (Kd.C_below HR1_4.out (by repeat (first | (with_reducible first | exact HB.out | apply below_alloc | apply pw_below_drewN | apply below_drew1 | refine below_set ?_ GE40001.out | refine below_set ?_ GE40002.out) | exact HB.out))) | (with_reducible refine Kd.C_alloc ?_ _) | (with_reducible refine Kd.C_drewN ?_ _) | (with_reducible refine Kd.C_drew ?_))); (case side4 => exact HC1_4.out); rintro e w' ⟨rfl, ⟨nd, rfl⟩⟩; (try first | exact ⟨rfl, _, World.drewN_drewN _ _ _⟩ | exact ⟨rfl, _, Eq.trans (World.drewN_drewN _ _ _) (congrArg (World.drewN _) (Nat.add_assoc _ _ _))⟩))))
            go_meet
            case rel => exact ⟨_, (true), (by first | rfl | (simp; done) | (simp [*]; done)), H', ⟨by first | omega | exact Nat.le_refl _⟩, ⟨by (with_reducible repeat (first | refine blk_drewN ?_ _ | refine blk_drew ?_ | refine blk_alloc ?_ _)); exact BK40001.out⟩, ⟨by (with_reducible repeat (first | refine blk_drewN ?_ _ | refine blk_drew ?_ | refine blk_alloc ?_ _)); exact BK40002.out⟩, ⟨by repeat (first | (with_reducible first | exact HB.out | apply below_alloc | apply pw_below_drewN | apply below_drew1 | refine below_set ?_ GE40001.out | refine below_set ?_ GE40002.out) | exact HB.out)⟩⟩
        · replace c9 := Bool.eq_false_iff.mpr c9
          subst c9
          have H1 : (tinderref08_SameNode.j0 k true a0_0 l0_1 a0_2 l0_3 l0_4 a1_0 l1_1 a1_2 l1_3 l1_4) = some r := by rw [if_neg (show ¬ (false = true) by decide)] at H; exact H
          clear H
          have H := H1
          clear H1
          have H' := Aside0.mk H
          clear H
          have hnb18 := NB40001_40002.out
          have hnc18 := NB40002_40001.out
          have hcz19_0 : w5.cell? ⟨gb40001, 0, none⟩ = some (.string a0_0) := (blk_cell BK40001.out 0).trans rfl
          have hcz19_1 : w5.cell? ⟨gb40001, 1, none⟩ = some (.slice A0_1 l0_1.length c0_1) := (blk_cell BK40001.out 1).trans rfl
          have hcz19_2 : w5.cell? ⟨gb40001, 2, none⟩ = some (.int .i64 a0_2) := (blk_cell BK40001.out 2).trans rfl
          have hcz19_3 : w5.cell? ⟨gb40001, 3, none⟩ = some (.slice A0_3 l0_3.length c0_3) := (blk_cell BK40001.out 3).trans rfl
          have hcz19_4 : w5.cell? ⟨gb40001, 4, none⟩ = some (.slice A0_4 l0_4.length c0_4) := (blk_cell BK40001.out 4).trans rfl
          have hfz19_0 := blk_frozen BK40001.out 0
          have hfz19_1 := blk_frozen BK40001.out 1
          have hfz19_2 := blk_frozen BK40001.out 2
          have hfz19_3 := blk_frozen BK40001.out 3
          have hfz19_4 := blk_frozen BK40001.out 4
          have hcz20_0 : w5.cell? ⟨gb40002, 0, none⟩ = some (.string a1_0) := (blk_cell BK40002.out 0).trans rfl
          have hcz20_1 : w5.cell? ⟨gb40002, 1, none⟩ = some (.slice A1_1 l1_1.length c1_1) := (blk_cell BK40002.out 1).trans rfl
          have hcz20_2 : w5.cell? ⟨gb40002, 2, none⟩ = some (.int .i64 a1_2) := (blk_cell BK40002.out 2).trans rfl
          have hcz20_3 : w5.cell? ⟨gb40002, 3, none⟩ = some (.slice A1_3 l1_3.length c1_3) := (blk_cell BK40002.out 3).trans rfl
          have hcz20_4 : w5.cell? ⟨gb40002, 4, none⟩ = some (.slice A1_4 l1_4.length c1_4) := (blk_cell BK40002.out 4).trans rfl
          have hfz20_0 := blk_frozen BK40002.out 0
          have hfz20_1 := blk_frozen BK40002.out 1
          have hfz20_2 := blk_frozen BK40002.out 2
          have hfz20_3 := blk_frozen BK40002.out 3
          have hfz20_4 := blk_frozen BK40002.out 4
          go_wp2_with (first | (go_at_call 26; (with_reducible refine (tinderref03_Same.calls k _ _ l0_1 _ _ l1_1 false _ ?side1 ?side2 ?side3 ?side4 A8.out).mono ?_); (case side1 => repeat (first | exact (Kd.C_below HR0_1.out HB.out) | (with_reducible refine Kd.C_alloc ?_ _) | (with_reducible refine Kd.C_drewN ?_ _) | (with_reducible refine Kd.C_drew ?_))); (case side2 => exact HC0_1.out); (case side3 => repeat (first | exact (Kd.C_below HR1_1.out HB.out) | (with_reducible refine Kd.C_alloc ?_ _) | (with_reducible refine Kd.C_drewN ?_ _) | (with_reducible refine Kd.C_drew ?_))); (case side4 => exact HC1_1.out); rintro e w' ⟨rfl, ⟨nd, rfl⟩⟩; (try first | exact ⟨rfl, _, World.drewN_drewN _ _ _⟩ | exact ⟨rfl, _, Eq.trans (World.drewN_drewN _ _ _) (congrArg (World.drewN _) (Nat.add_assoc _ _ _))⟩)))
          repeat (go_quiet (first | (go_at_call 26; (with_reducible refine (tinderref03_Same.calls k _ _ l0_1 _ _ l1_1 false _ ?side1 ?side2 ?side3 ?side4 A8.out).mono ?_); (case side1 => repeat (first | exact (Kd.C_below HR0_1.out HB.out) | (with_reducible refine Kd.C_alloc ?_ _) | (with_reducible refine Kd.C_drewN ?_ _) | (with_reducible refine Kd.C_drew ?_))); (case side2 => exact HC0_1.out); (case side3 => repeat (first | exact (Kd.C_below HR1_1.out HB.out) | (with_reducible refine Kd.C_alloc ?_ _) | (with_reducible refine Kd.C_drewN ?_ _) | (with_reducible refine Kd.C_drew ?_))); (case side4 => exact HC1_1.out); rintro e w' ⟨rfl, ⟨nd, rfl⟩⟩; (try first | exact ⟨rfl, _, World.drewN_drewN _ _ _⟩ | exact ⟨rfl, _, Eq.trans (World.drewN_drewN _ _ _) (congrArg (World.drewN _) (Nat.add_assoc _ _ _))⟩))); try go_wp2_with (first | (go_at_call 26; (with_reducible refine (tinderref03_Same.calls k _ _ l0_1 _ _ l1_1 false _ ?side1 ?side2 ?side3 ?side4 A8.out).mono ?_); (case side1 => repeat (first | exact (Kd.C_below HR0_1.out HB.out) | (with_reducible refine Kd.C_alloc ?_ _) | (with_reducible refine Kd.C_drewN ?_ _) | (with_reducible refine Kd.C_drew ?_))); (case side2 => exact HC0_1.out); (case side3 => repeat (first | exact (Kd.C_below HR1_1.out HB.out) | (with_reducible refine Kd.C_alloc ?_ _) | (with_reducible refine Kd.C_drewN ?_ _) | (with_reducible refine Kd.C_drew ?_))); (case side4 => exact HC1_1.out); rintro e w' ⟨rfl, ⟨nd, rfl⟩⟩; (try first | exact ⟨rfl, _, World.drewN_drewN _ _ _⟩ | exact ⟨rfl, _, Eq.trans (World.drewN_drewN _ _ _) (congrArg (World.drewN _) (Nat.add_assoc _ _ _))⟩))))
          go_meet
          case rel => exact ⟨_, (true), (by first | rfl | (simp; done) | (simp [*]; done)), H', ⟨by first | omega | exact Nat.le_refl _⟩, ⟨by (with_reducible repeat (first | refine blk_drewN ?_ _ | refine blk_drew ?_ | refine blk_alloc ?_ _)); exact BK40001.out⟩, ⟨by (with_reducible repeat (first | refine blk_drewN ?_ _ | refine blk_drew ?_ | refine blk_alloc ?_ _)); exact BK40002.out⟩, ⟨by repeat (first | (with_reducible first | exact HB.out | apply below_alloc | apply pw_below_drewN | apply below_drew1 | refine below_set ?_ GE40001.out | refine below_set ?_ GE40002.out) | exact HB.out)⟩⟩
      · rw [if_neg c7] at H
        have c7b0 : (a0_2 == a1_2) = false := beq_eq_false_iff_ne.mpr c7
        have c7b1 : (a0_2 != a1_2) = true := bne_iff_ne.mpr c7
        have H' := Aside0.mk H
        clear H
        have hnb21 := NB40001_40002.out
        have hnc21 := NB40002_40001.out
        have hcz22_0 : w5.cell? ⟨gb40001, 0, none⟩ = some (.string a0_0) := (blk_cell BK40001.out 0).trans rfl
        have hcz22_1 : w5.cell? ⟨gb40001, 1, none⟩ = some (.slice A0_1 l0_1.length c0_1) := (blk_cell BK40001.out 1).trans rfl
        have hcz22_2 : w5.cell? ⟨gb40001, 2, none⟩ = some (.int .i64 a0_2) := (blk_cell BK40001.out 2).trans rfl
        have hcz22_3 : w5.cell? ⟨gb40001, 3, none⟩ = some (.slice A0_3 l0_3.length c0_3) := (blk_cell BK40001.out 3).trans rfl
        have hcz22_4 : w5.cell? ⟨gb40001, 4, none⟩ = some (.slice A0_4 l0_4.length c0_4) := (blk_cell BK40001.out 4).trans rfl
        have hfz22_0 := blk_frozen BK40001.out 0
        have hfz22_1 := blk_frozen BK40001.out 1
        have hfz22_2 := blk_frozen BK40001.out 2
        have hfz22_3 := blk_frozen BK40001.out 3
        have hfz22_4 := blk_frozen BK40001.out 4
        have hcz23_0 : w5.cell? ⟨gb40002, 0, none⟩ = some (.string a1_0) := (blk_cell BK40002.out 0).trans rfl
        have hcz23_1 : w5.cell? ⟨gb40002, 1, none⟩ = some (.slice A1_1 l1_1.length c1_1) := (blk_cell BK40002.out 1).trans rfl
        have hcz23_2 : w5.cell? ⟨gb40002, 2, none⟩ = some (.int .i64 a1_2) := (blk_cell BK40002.out 2).trans rfl
        have hcz23_3 : w5.cell? ⟨gb40002, 3, none⟩ = some (.slice A1_3 l1_3.length c1_3) := (blk_cell BK40002.out 3).trans rfl
        have hcz23_4 : w5.cell? ⟨gb40002, 4, none⟩ = some (.slice A1_4 l1_4.length c1_4) := (blk_cell BK40002.out 4).trans rfl
        have hfz23_0 := blk_frozen BK40002.out 0
        have hfz23_1 := blk_frozen BK40002.out 1
        have hfz23_2 := blk_frozen BK40002.out 2
        have hfz23_3 := blk_frozen BK40002.out 3
        have hfz23_4 := blk_frozen BK40002.out 4
        go_wp2
        repeat (go_quiet (fail); try go_wp2)
        go_meet
        case rel => exact ⟨_, (true), (by first | rfl | (simp; done) | (simp [*]; done)), H', ⟨by first | omega | exact Nat.le_refl _⟩, ⟨by (with_reducible repeat (first | refine blk_drewN ?_ _ | refine blk_drew ?_ | refine blk_alloc ?_ _)); exact BK40001.out⟩, ⟨by (with_reducible repeat (first | refine blk_drewN ?_ _ | refine blk_drew ?_ | refine blk_alloc ?_ _)); exact BK40002.out⟩, ⟨by repeat (first | (with_reducible first | exact HB.out | apply below_alloc | apply pw_below_drewN | apply below_drew1 | refine below_set ?_ GE40001.out | refine below_set ?_ GE40002.out) | exact HB.out)⟩⟩
    · rw [if_neg c6] at H
      have c6b0 : (a0_0.toList == a1_0.toList) = false := beq_eq_false_iff_ne.mpr c6
      have c6b1 : (a0_0.toList != a1_0.toList) = true := bne_iff_ne.mpr c6
      (first | rw [c6b0] | (simp only [i64_w, i32_w]; rw [c6b0]) | skip)
      have H' := Aside0.mk H
      clear H
      have hnb24 := NB40001_40002.out
      have hnc24 := NB40002_40001.out
      have hcz25_0 : w5.cell? ⟨gb40001, 0, none⟩ = some (.string a0_0) := (blk_cell BK40001.out 0).trans rfl
      have hcz25_1 : w5.cell? ⟨gb40001, 1, none⟩ = some (.slice A0_1 l0_1.length c0_1) := (blk_cell BK40001.out 1).trans rfl
      have hcz25_2 : w5.cell? ⟨gb40001, 2, none⟩ = some (.int .i64 a0_2) := (blk_cell BK40001.out 2).trans rfl
      have hcz25_3 : w5.cell? ⟨gb40001, 3, none⟩ = some (.slice A0_3 l0_3.length c0_3) := (blk_cell BK40001.out 3).trans rfl
      have hcz25_4 : w5.cell? ⟨gb40001, 4, none⟩ = some (.slice A0_4 l0_4.length c0_4) := (blk_cell BK40001.out 4).trans rfl
      have hfz25_0 := blk_frozen BK40001.out 0
      have hfz25_1 := blk_frozen BK40001.out 1
      have hfz25_2 := blk_frozen BK40001.out 2
      have hfz25_3 := blk_frozen BK40001.out 3
      have hfz25_4 := blk_frozen BK40001.out 4
      have hcz26_0 : w5.cell? ⟨gb40002, 0, none⟩ = some (.string a1_0) := (blk_cell BK40002.out 0).trans rfl
      have hcz26_1 : w5.cell? ⟨gb40002, 1, none⟩ = some (.slice A1_1 l1_1.length c1_1) := (blk_cell BK40002.out 1).trans rfl
      have hcz26_2 : w5.cell? ⟨gb40002, 2, none⟩ = some (.int .i64 a1_2) := (blk_cell BK40002.out 2).trans rfl
      have hcz26_3 : w5.cell? ⟨gb40002, 3, none⟩ = some (.slice A1_3 l1_3.length c1_3) := (blk_cell BK40002.out 3).trans rfl
      have hcz26_4 : w5.cell? ⟨gb40002, 4, none⟩ = some (.slice A1_4 l1_4.length c1_4) := (blk_cell BK40002.out 4).trans rfl
      have hfz26_0 := blk_frozen BK40002.out 0
      have hfz26_1 := blk_frozen BK40002.out 1
      have hfz26_2 := blk_frozen BK40002.out 2
      have hfz26_3 := blk_frozen BK40002.out 3
      have hfz26_4 := blk_frozen BK40002.out 4
      go_wp2
      repeat (go_quiet (fail); try go_wp2)
      go_meet
      case rel => exact ⟨_, (true), (by first | rfl | (simp; done) | (simp [*]; done)), H', ⟨by first | omega | exact Nat.le_refl _⟩, ⟨by (with_reducible repeat (first | refine blk_drewN ?_ _ | refine blk_drew ?_ | refine blk_alloc ?_ _)); exact BK40001.out⟩, ⟨by (with_reducible repeat (first | refine blk_drewN ?_ _ | refine blk_drew ?_ | refine blk_alloc ?_ _)); exact BK40002.out⟩, ⟨by repeat (first | (with_reducible first | exact HB.out | apply below_alloc | apply pw_below_drewN | apply below_drew1 | refine below_set ?_ GE40001.out | refine below_set ?_ GE40002.out) | exact HB.out)⟩⟩
  case rest =>
    clear HC3
    try clear c1
    try clear c2
    try clear p2
    try clear c3
    try clear c6
    try clear c6b0
    try clear c6b1
    try clear c7
    try clear c7b0
    try clear c7b1
    try clear c9
    try clear c11
    try clear c12
    try clear c15
    try clear c18
    try clear c21
    try clear c24
    try clear hcz13_0
    try clear hcz13_1
    try clear hcz13_2
    try clear hcz13_3
    try clear hcz13_4
    try clear hcz14_0
    try clear hcz14_1
    try clear hcz14_2
    try clear hcz14_3
    try clear hcz14_4
    try clear hcz16_0
    try clear hcz16_1
    try clear hcz16_2
    try clear hcz16_3
    try clear hcz16_4
    try clear hcz17_0
    try clear hcz17_1
    try clear hcz17_2
    try clear hcz17_3
    try clear hcz17_4
    try clear hcz19_0
    try clear hcz19_1
    try clear hcz19_2
    try clear hcz19_3
    try clear hcz19_4
    try clear hcz20_0
    try clear hcz20_1
    try clear hcz20_2
    try clear hcz20_3
    try clear hcz20_4
    try clear hcz22_0
    try clear hcz22_1
    try clear hcz22_2
    try clear hcz22_3
    try clear hcz22_4
    try clear hcz23_0
    try clear hcz23_1
    try clear hcz23_2
    try clear hcz23_3
    try clear hcz23_4
    try clear hcz25_0
    try clear hcz25_1
    try clear hcz25_2
    try clear hcz25_3
    try clear hcz25_4
    try clear hcz26_0
    try clear hcz26_1
    try clear hcz26_2
    try clear hcz26_3
    try clear hcz26_4
    try clear hfz13_0
    try clear hfz13_1
    try clear hfz13_2
    try clear hfz13_3
    try clear hfz13_4
    try clear hfz14_0
    try clear hfz14_1
    try clear hfz14_2
    try clear hfz14_3
    try clear hfz14_4
    try clear hfz16_0
    try clear hfz16_1
    try clear hfz16_2
    try clear hfz16_3
    try clear hfz16_4
    try clear hfz17_0
    try clear hfz17_1
    try clear hfz17_2
    try clear hfz17_3
    try clear hfz17_4
    try clear hfz19_0
    try clear hfz19_1
    try clear hfz19_2
    try clear hfz19_3
    try clear hfz19_4
    try clear hfz20_0
    try clear hfz20_1
    try clear hfz20_2
    try clear hfz20_3
    try clear hfz20_4
    try clear hfz22_0
    try clear hfz22_1
    try clear hfz22_2
    try clear hfz22_3
    try clear hfz22_4
    try clear hfz23_0
    try clear hfz23_1
    try clear hfz23_2
    try clear hfz23_3
    try clear hfz23_4
    try clear hfz25_0
    try clear hfz25_1
    try clear hfz25_2
    try clear hfz25_3
    try clear hfz25_4
    try clear hfz26_0
    try clear hfz26_1
    try clear hfz26_2
    try clear hfz26_3
    try clear hfz26_4
    obtain ⟨kq, x42_2, rfl, HA, HJ2, BK40001, BK40002, HB⟩ := hcut
    cases kq with
    | zero => exact absurd HA.out (by simp [tinderref08_SameNode.j0])
    | succ kj2 =>
      have H := HA.out
      clear HA
      simp only [tinderref08_SameNode.j0] at H
      by_cases c27 : x42_2 = true
      · subst c27
        have H1 : (some false) = some r := by rw [if_pos rfl] at H; exact H
        clear H
        have H := H1
        clear H1
        obtain rfl := Option.some.inj H
        go_wp2
        repeat (go_quiet (fail); try go_wp2)
        go_ret
        exact ⟨by first | rfl | (simp [errW_none, errW_some] <;> rfl) | (simp [*, errW_none, errW_some] <;> rfl), by repeat (first | (with_reducible first | exact HB.out | apply below_alloc | apply pw_below_drewN | apply below_drew1 | refine below_set ?_ GE40001.out | refine below_set ?_ GE40002.out) | exact HB.out)⟩
      · replace c27 := Bool.eq_false_iff.mpr c27
        subst c27
        have H1 : (tinderref08_SameNode.l0 kj2 0 a0_0 l0_1 a0_2 l0_3 l0_4 a1_0 l1_1 a1_2 l1_3 l1_4) = some r := by rw [if_neg (show ¬ (false = true) by decide)] at H; exact H
        clear H
        have H := H1
        clear H1
        have H' := Aside0.mk H
        clear H
        go_wp2
        repeat (go_quiet (fail); try go_wp2)
        go_loopg [5] kj2 (fun kq v5 w' => ∃ (x5_2 : Int), v5 = .int .i64 x5_2 ∧ Aside0 (tinderref08_SameNode.l0 kq x5_2 a0_0 l0_1 a0_2 l0_3 l0_4 a1_0 l1_1 a1_2 l1_3 l1_4 = some r) ∧ Aside0 (kq ≤ kj2) ∧ Aside0 (w'.heap[gb40001]? = some (.cells #[.string a0_0, (.slice A0_1 l0_1.length c0_1), .int .i64 a0_2, (.slice A0_3 l0_3.length c0_3), (.slice A0_4 l0_4.length c0_4)] 44 (0, 0))) ∧ Aside0 (w'.heap[gb40002]? = some (.cells #[.string a1_0, (.slice A1_1 l1_1.length c1_1), .int .i64 a1_2, (.slice A1_3 l1_3.length c1_3), (.slice A1_4 l1_4.length c1_4)] 44 (0, 0))) ∧ Aside0 (Below w.heap.size w w'))
        case atStart => exact ⟨(0), (by first | rfl | (simp; done) | (simp [*]; done)), H', ⟨Nat.le_refl _⟩, ⟨by (with_reducible repeat (first | refine blk_drewN ?_ _ | refine blk_drew ?_ | refine blk_alloc ?_ _)); exact BK40001.out⟩, ⟨by (with_reducible repeat (first | refine blk_drewN ?_ _ | refine blk_drew ?_ | refine blk_alloc ?_ _)); exact BK40002.out⟩, ⟨by repeat (first | (with_reducible first | exact HB.out | apply below_alloc | apply pw_below_drewN | apply below_drew1 | refine below_set ?_ GE40001.out | refine below_set ?_ GE40002.out) | exact HB.out)⟩⟩
        case round =>
          clear H'
          try clear c1
          try clear c2
          try clear p2
          try clear c3
          try clear c6
          try clear c6b0
          try clear c6b1
          try clear c7
          try clear c7b0
          try clear c7b1
          try clear c9
          try clear c11
          try clear c12
          try clear c15
          try clear c18
          try clear c21
          try clear c24
          try clear c27
          try clear hcz13_0
          try clear hcz13_1
          try clear hcz13_2
          try clear hcz13_3
          try clear hcz13_4
          try clear hcz14_0
          try clear hcz14_1
          try clear hcz14_2
          try clear hcz14_3
          try clear hcz14_4
          try clear hcz16_0
          try clear hcz16_1
          try clear hcz16_2
          try clear hcz16_3
          try clear hcz16_4
          try clear hcz17_0
          try clear hcz17_1
          try clear hcz17_2
          try clear hcz17_3
          try clear hcz17_4
          try clear hcz19_0
          try clear hcz19_1
          try clear hcz19_2
          try clear hcz19_3
          try clear hcz19_4
          try clear hcz20_0
          try clear hcz20_1
          try clear hcz20_2
          try clear hcz20_3
          try clear hcz20_4
          try clear hcz22_0
          try clear hcz22_1
          try clear hcz22_2
          try clear hcz22_3
          try clear hcz22_4
          try clear hcz23_0
          try clear hcz23_1
          try clear hcz23_2
          try clear hcz23_3
          try clear hcz23_4
          try clear hcz25_0
          try clear hcz25_1
          try clear hcz25_2
          try clear hcz25_3
          try clear hcz25_4
          try clear hcz26_0
          try clear hcz26_1
          try clear hcz26_2
          try clear hcz26_3
          try clear hcz26_4
          try clear hfz13_0
          try clear hfz13_1
          try clear hfz13_2
          try clear hfz13_3
          try clear hfz13_4
          try clear hfz14_0
          try clear hfz14_1
          try clear hfz14_2
          try clear hfz14_3
          try clear hfz14_4
          try clear hfz16_0
          try clear hfz16_1
          try clear hfz16_2
          try clear hfz16_3
          try clear hfz16_4
          try clear hfz17_0
          try clear hfz17_1
          try clear hfz17_2
          try clear hfz17_3
          try clear hfz17_4
          try clear hfz19_0
          try clear hfz19_1
          try clear hfz19_2
          try clear hfz19_3
          try clear hfz19_4
          try clear hfz20_0
          try clear hfz20_1
          try clear hfz20_2
          try clear hfz20_3
          try clear hfz20_4
          try clear hfz22_0
          try clear hfz22_1
          try clear hfz22_2
          try clear hfz22_3
          try clear hfz22_4
          try clear hfz23_0
          try clear hfz23_1
          try clear hfz23_2
          try clear hfz23_3
          try clear hfz23_4
          try clear hfz25_0
          try clear hfz25_1
          try clear hfz25_2
          try clear hfz25_3
          try clear hfz25_4
          try clear hfz26_0
          try clear hfz26_1
          try clear hfz26_2
          try clear hfz26_3
          try clear hfz26_4
          try clear p2
          obtain ⟨x5_2, rfl, HA, HK2, BK40001, BK40002, HB⟩ := hrel
          cases gk with
          | zero => exact absurd HA.out (by simp [tinderref08_SameNode.l0])
          | succ k2 =>
            have H := HA.out
            clear HA
            simp only [tinderref08_SameNode.l0] at H
            by_cases c28 : x5_2 < (l0_3.length : Int)
            · rw [if_pos c28] at H
              have c28b0 : decide (x5_2 < (l0_3.length : Int)) = true := decide_eq_true c28
              clear c28
              by_cases c29 : 0 ≤ x5_2
              · rw [if_pos c29] at H
                have c29b0 : decide (0 ≤ x5_2) = true := decide_eq_true c29
                clear c29
                by_cases c30 : x5_2 < (l1_3.length : Int)
                · rw [if_pos c30] at H
                  have c30b0 : decide (x5_2 < (l1_3.length : Int)) = true := decide_eq_true c30
                  clear c30
                  by_cases c31 : ((rd_T53 l0_3 x5_2).f0).toList = ((rd_T53 l1_3 x5_2).f0).toList
                  · rw [if_pos c31] at H
                    have c31b0 : (((rd_T53 l0_3 x5_2).f0).toList == ((rd_T53 l1_3 x5_2).f0).toList) = true := beq_iff_eq.mpr c31
                    have c31b1 : (((rd_T53 l0_3 x5_2).f0).toList != ((rd_T53 l1_3 x5_2).f0).toList) = false := bne_eq_false_iff_eq.mpr c31
                    clear c31
                    replace H := Option.bind_eq_some_iff.mp H
                    obtain ⟨t40009, A320, H⟩ := H
                    replace H : (if t40009 = true then (tinderref08_SameNode.l0 k2 (wrap64 (x5_2 + 1)) a0_0 l0_1 a0_2 l0_3 l0_4 a1_0 l1_1 a1_2 l1_3 l1_4) else (some false)) = some r := H
                    have A32 := Aside0.mk A320
                    clear A320
                    by_cases c33 : t40009 = true
                    · subst c33
                      have H1 : (tinderref08_SameNode.l0 k2 (wrap64 (x5_2 + 1)) a0_0 l0_1 a0_2 l0_3 l0_4 a1_0 l1_1 a1_2 l1_3 l1_4) = some r := by rw [if_pos rfl] at H; exact H
                      clear H
                      have H := H1
                      clear H1
                      have H' := Aside0.mk H
                      clear H
                      have hnb34 := NB40001_40002.out
                      have hnc34 := NB40002_40001.out
                      have hcz35_0 : wr.cell? ⟨gb40001, 0, none⟩ = some (.string a0_0) := (blk_cell BK40001.out 0).trans rfl
                      have hcz35_1 : wr.cell? ⟨gb40001, 1, none⟩ = some (.slice A0_1 l0_1.length c0_1) := (blk_cell BK40001.out 1).trans rfl
                      have hcz35_2 : wr.cell? ⟨gb40001, 2, none⟩ = some (.int .i64 a0_2) := (blk_cell BK40001.out 2).trans rfl
                      have hcz35_3 : wr.cell? ⟨gb40001, 3, none⟩ = some (.slice A0_3 l0_3.length c0_3) := (blk_cell BK40001.out 3).trans rfl
                      have hcz35_4 : wr.cell? ⟨gb40001, 4, none⟩ = some (.slice A0_4 l0_4.length c0_4) := (blk_cell BK40001.out 4).trans rfl
                      have hfz35_0 := blk_frozen BK40001.out 0
                      have hfz35_1 := blk_frozen BK40001.out 1
                      have hfz35_2 := blk_frozen BK40001.out 2
                      have hfz35_3 := blk_frozen BK40001.out 3
                      have hfz35_4 := blk_frozen BK40001.out 4
                      have p40005 : 0 ≤ (x5_2 : Int) := of_decide_eq_true (by first | (with_reducible assumption) | assumption)
                      have q40005 : x5_2 < (l0_3.length : Int) := of_decide_eq_true (by first | (with_reducible assumption) | assumption)
                      obtain ⟨ad40005, A40005_1, c40005_1, e40005, hx40005_0, hx40005_1, hl40005_1, hi40005_1⟩ := at_T53 HR0_3.out x5_2 p40005 q40005
                      cases e40005
                      replace hx40005_0 := (HB.out.cell (World.block_lt_of_cell? w _ hx40005_0)).trans hx40005_0
                      replace hx40005_1 := (HB.out.cell (World.block_lt_of_cell? w _ hx40005_1)).trans hx40005_1
                      have HR40005_1 := Aside0.mk hi40005_1
                      have HC40005_1 := Aside0.mk hl40005_1
                      clear hi40005_1 hl40005_1
                      replace p40005 := eq_true p40005
                      replace q40005 := eq_true q40005
                      have hcz36_0 : wr.cell? ⟨gb40002, 0, none⟩ = some (.string a1_0) := (blk_cell BK40002.out 0).trans rfl
                      have hcz36_1 : wr.cell? ⟨gb40002, 1, none⟩ = some (.slice A1_1 l1_1.length c1_1) := (blk_cell BK40002.out 1).trans rfl
                      have hcz36_2 : wr.cell? ⟨gb40002, 2, none⟩ = some (.int .i64 a1_2) := (blk_cell BK40002.out 2).trans rfl
                      have hcz36_3 : wr.cell? ⟨gb40002, 3, none⟩ = some (.slice A1_3 l1_3.length c1_3) := (blk_cell BK40002.out 3).trans rfl
                      have hcz36_4 : wr.cell? ⟨gb40002, 4, none⟩ = some (.slice A1_4 l1_4.length c1_4) := (blk_cell BK40002.out 4).trans rfl
                      have hfz36_0 := blk_frozen BK40002.out 0
                      have hfz36_1 := blk_frozen BK40002.out 1
                      have hfz36_2 := blk_frozen BK40002.out 2
                      have hfz36_3 := blk_frozen BK40002.out 3
                      have hfz36_4 := blk_frozen BK40002.out 4
                      have p40006 : 0 ≤ (x5_2 : Int) := of_decide_eq_true (by first | (with_reducible assumption) | assumption)
                      have q40006 : x5_2 < (l1_3.length : Int) := of_decide_eq_true (by first | (with_reducible assumption) | assumption)
                      obtain ⟨ad40006, A40006_1, c40006_1, e40006, hx40006_0, hx40006_1, hl40006_1, hi40006_1⟩ := at_T53 HR1_3.out x5_2 p40006 q40006
                      cases e40006
                      replace hx40006_0 := (HB.out.cell (World.block_lt_of_cell? w _ hx40006_0)).trans hx40006_0
                      replace hx40006_1 := (HB.out.cell (World.block_lt_of_cell? w _ hx40006_1)).trans hx40006_1
                      have HR40006_1 := Aside0.mk hi40006_1
                      have HC40006_1 := Aside0.mk hl40006_1
                      clear hi40006_1 hl40006_1
                      replace p40006 := eq_true p40006
                      replace q40006 := eq_true q40006
                      have p40007 : 0 ≤ (x5_2 : Int) := of_decide_eq_true (by first | (with_reducible assumption) | assumption)
                      have q40007 : x5_2 < (l0_3.length : Int) := of_decide_eq_true (by first | (with_reducible assumption) | assumption)
                      obtain ⟨ad40007, A40007_1, c40007_1, e40007, hx40007_0, hx40007_1, hl40007_1, hi40007_1⟩ := at_T53 HR0_3.out x5_2 p40007 q40007
                      obtain rfl : ad40005 = ad40007 := (by injection e40007)
                      replace hx40007_0 := (HB.out.cell (World.block_lt_of_cell? w _ hx40007_0)).trans hx40007_0
                      replace hx40007_1 := (HB.out.cell (World.block_lt_of_cell? w _ hx40007_1)).trans hx40007_1
                      have HR40007_1 := Aside0.mk hi40007_1
                      have HC40007_1 := Aside0.mk hl40007_1
                      clear hi40007_1 hl40007_1
                      replace p40007 := eq_true p40007
                      replace q40007 := eq_true q40007
                      have ea_ := Option.some.inj (hx40005_1.symm.trans hx40007_1)
                      injection ea_ with ea_ en_ ec_
                      subst ea_
                      subst ec_
                      clear en_
                      have p40008 : 0 ≤ (x5_2 : Int) := of_decide_eq_true (by first | (with_reducible assumption) | assumption)
                      have q40008 : x5_2 < (l1_3.length : Int) := of_decide_eq_true (by first | (with_reducible assumption) | assumption)
                      obtain ⟨ad40008, A40008_1, c40008_1, e40008, hx40008_0, hx40008_1, hl40008_1, hi40008_1⟩ := at_T53 HR1_3.out x5_2 p40008 q40008
                      obtain rfl : ad40006 = ad40008 := (by injection e40008)
                      replace hx40008_0 := (HB.out.cell (World.block_lt_of_cell? w _ hx40008_0)).trans hx40008_0
                      replace hx40008_1 := (HB.out.cell (World.block_lt_of_cell? w _ hx40008_1)).trans hx40008_1
                      have HR40008_1 := Aside0.mk hi40008_1
                      have HC40008_1 := Aside0.mk hl40008_1
                      clear hi40008_1 hl40008_1
                      replace p40008 := eq_true p40008
                      replace q40008 := eq_true q40008
                      have ea_ := Option.some.inj (hx40006_1.symm.trans hx40008_1)
                      injection ea_ with ea_ en_ ec_
                      subst ea_
                      subst ec_
                      clear en_
                      go_wp2_with (first | (go_at_call 31; (with_reducible refine (tinderref04_Same.calls _ _ ((rd_T53 l0_3 x5_2).f1) _ _ ((rd_T53 l1_3 x5_2).f1) true _ ?side1 ?side2 ?side3 ?side4 A32.out).mono ?_); (case side1 => repeat (first | exact (Kd.C_below HR40007_1.out HB.out) | (with_reducible refine Kd.C_alloc ?_ _) | (with_reducible refine Kd.C_drewN ?_ _) | (with_reducible refine Kd.C_drew ?_))); (case side2 => exact HC40007_1.out); (case side3 => repeat (first | exact (Kd.C_below HR40008_1.out HB.out) | (with_reducible refine Kd.C_alloc ?_ _) | (with_reducible refine Kd.C_drewN ?_ _) | (with_reducible refine Kd.C_drew ?_))); (case side4 => exact HC40008_1.out); rintro e w' ⟨rfl, ⟨nd, rfl⟩⟩; (try first | exact ⟨rfl, _, World.drewN_drewN _ _ _⟩ | exact ⟨rfl, _, Eq.trans (World.drewN_drewN _ _ _) (congrArg (World.drewN _) (Nat.add_assoc _ _ _))⟩)))
                      repeat (go_quiet (first | (go_at_call 31; (with_reducible refine (tinderref04_Same.calls _ _ ((rd_T53 l0_3 x5_2).f1) _ _ ((rd_T53 l1_3 x5_2).f1) true _ ?side1 ?side2 ?side3 ?side4 A32.out).mono ?_); (case side1 => repeat (first | exact (Kd.C_below HR40007_1.out HB.out) | (with_reducible refine Kd.C_alloc ?_ _) | (with_reducible refine Kd.C_drewN ?_ _) | (with_reducible refine Kd.C_drew ?_))); (case side2 => exact HC40007_1.out); (case side3 => repeat (first | exact (Kd.C_below HR40008_1.out HB.out) | (with_reducible refine Kd.C_alloc ?_ _) | (with_reducible refine Kd.C_drewN ?_ _) | (with_reducible refine Kd.C_drew ?_))); (case side4 => exact HC40008_1.out); rintro e w' ⟨rfl, ⟨nd, rfl⟩⟩; (try first | exact ⟨rfl, _, World.drewN_drewN _ _ _⟩ | exact ⟨rfl, _, Eq.trans (World.drewN_drewN _ _ _) (congrArg (World.drewN _) (Nat.add_assoc _ _ _))⟩))); try go_wp2_with (first | (go_at_call 31; (with_reducible refine (tinderref04_Same.calls _ _ ((rd_T53 l0_3 x5_2).f1) _ _ ((rd_T53 l1_3 x5_2).f1) true _ ?side1 ?side2 ?side3 ?side4 A32.out).mono ?_); (case side1 => repeat (first | exact (Kd.C_below HR40007_1.out HB.out) | (with_reducible refine Kd.C_alloc ?_ _) | (with_reducible refine Kd.C_drewN ?_ _) | (with_reducible refine Kd.C_drew ?_))); (case side2 => exact HC40007_1.out); (case side3 => repeat (first | exact (Kd.C_below HR40008_1.out HB.out) | (with_reducible refine Kd.C_alloc ?_ _) | (with_reducible refine Kd.C_drewN ?_ _) | (with_reducible refine Kd.C_drew ?_))); (case side4 => exact HC40008_1.out); rintro e w' ⟨rfl, ⟨nd, rfl⟩⟩; (try first | exact ⟨rfl, _, World.drewN_drewN _ _ _⟩ | exact ⟨rfl, _, Eq.trans (World.drewN_drewN _ _ _) (congrArg (World.drewN _) (Nat.add_assoc _ _ _))⟩))))
                      go_roundg k2
                      case measure => have := HJ2.out; have := HK2.out; omega
                      case rel => exact ⟨(wrap64 (x5_2 + 1)), (by first | rfl | (simp; done) | (simp [*]; done)), H', ⟨by have := HJ2.out; have := HK2.out; omega⟩, ⟨by (with_reducible repeat (first | refine blk_drewN ?_ _ | refine blk_drew ?_ | refine blk_alloc ?_ _)); exact BK40001.out⟩, ⟨by (with_reducible repeat (first | refine blk_drewN ?_ _ | refine blk_drew ?_ | refine blk_alloc ?_ _)); exact BK40002.out⟩, ⟨by repeat (first | (with_reducible first | exact HB.out | apply below_alloc | apply pw_below_drewN | apply below_drew1 | refine below_set ?_ GE40001.out | refine below_set ?_ GE40002.out) | exact HB.out)⟩⟩
                    · replace c33 := Bool.eq_false_iff.mpr c33
                      subst c33
                      have H1 : (some false) = some r := by rw [if_neg (show ¬ (false = true) by decide)] at H; exact H
                      clear H
                      have H := H1
                      clear H1
                      obtain rfl := Option.some.inj H
                      have hnb37 := NB40001_40002.out
                      have hnc37 := NB40002_40001.out
                      have hcz38_0 : wr.cell? ⟨gb40001, 0, none⟩ = some (.string a0_0) := (blk_cell BK40001.out 0).trans rfl
                      have hcz38_1 : wr.cell? ⟨gb40001, 1, none⟩ = some (.slice A0_1 l0_1.length c0_1) := (blk_cell BK40001.out 1).trans rfl
                      have hcz38_2 : wr.cell? ⟨gb40001, 2, none⟩ = some (.int .i64 a0_2) := (blk_cell BK40001.out 2).trans rfl
                      have hcz38_3 : wr.cell? ⟨gb40001, 3, none⟩ = some (.slice A0_3 l0_3.length c0_3) := (blk_cell BK40001.out 3).trans rfl
                      have hcz38_4 : wr.cell? ⟨gb40001, 4, none⟩ = some (.slice A0_4 l0_4.length c0_4) := (blk_cell BK40001.out 4).trans rfl
                      have hfz38_0 := blk_frozen BK40001.out 0
                      have hfz38_1 := blk_frozen BK40001.out 1
                      have hfz38_2 := blk_frozen BK40001.out 2
                      have hfz38_3 := blk_frozen BK40001.out 3
                      have hfz38_4 := blk_frozen BK40001.out 4
                      have p40005 : 0 ≤ (x5_2 : Int) := of_decide_eq_true (by first | (with_reducible assumption) | assumption)
                      have q40005 : x5_2 < (l0_3.length : Int) := of_decide_eq_true (by first | (with_reducible assumption) | assumption)
                      obtain ⟨ad40005, A40005_1, c40005_1, e40005, hx40005_0, hx40005_1, hl40005_1, hi40005_1⟩ := at_T53 HR0_3.out x5_2 p40005 q40005
                      cases e40005
                      replace hx40005_0 := (HB.out.cell (World.block_lt_of_cell? w _ hx40005_0)).trans hx40005_0
                      replace hx40005_1 := (HB.out.cell (World.block_lt_of_cell? w _ hx40005_1)).trans hx40005_1
                      have HR40005_1 := Aside0.mk hi40005_1
                      have HC40005_1 := Aside0.mk hl40005_1
                      clear hi40005_1 hl40005_1
                      replace p40005 := eq_true p40005
                      replace q40005 := eq_true q40005
                      have hcz39_0 : wr.cell? ⟨gb40002, 0, none⟩ = some (.string a1_0) := (blk_cell BK40002.out 0).trans rfl
                      have hcz39_1 : wr.cell? ⟨gb40002, 1, none⟩ = some (.slice A1_1 l1_1.length c1_1) := (blk_cell BK40002.out 1).trans rfl
                      have hcz39_2 : wr.cell? ⟨gb40002, 2, none⟩ = some (.int .i64 a1_2) := (blk_cell BK40002.out 2).trans rfl
                      have hcz39_3 : wr.cell? ⟨gb40002, 3, none⟩ = some (.slice A1_3 l1_3.length c1_3) := (blk_cell BK40002.out 3).trans rfl
                      have hcz39_4 : wr.cell? ⟨gb40002, 4, none⟩ = some (.slice A1_4 l1_4.length c1_4) := (blk_cell BK40002.out 4).trans rfl
                      have hfz39_0 := blk_frozen BK40002.out 0
                      have hfz39_1 := blk_frozen BK40002.out 1
                      have hfz39_2 := blk_frozen BK40002.out 2
                      have hfz39_3 := blk_frozen BK40002.out 3
                      have hfz39_4 := blk_frozen BK40002.out 4
                      have p40006 : 0 ≤ (x5_2 : Int) := of_decide_eq_true (by first | (with_reducible assumption) | assumption)
                      have q40006 : x5_2 < (l1_3.length : Int) := of_decide_eq_true (by first | (with_reducible assumption) | assumption)
                      obtain ⟨ad40006, A40006_1, c40006_1, e40006, hx40006_0, hx40006_1, hl40006_1, hi40006_1⟩ := at_T53 HR1_3.out x5_2 p40006 q40006
                      cases e40006
                      replace hx40006_0 := (HB.out.cell (World.block_lt_of_cell? w _ hx40006_0)).trans hx40006_0
                      replace hx40006_1 := (HB.out.cell (World.block_lt_of_cell? w _ hx40006_1)).trans hx40006_1
                      have HR40006_1 := Aside0.mk hi40006_1
                      have HC40006_1 := Aside0.mk hl40006_1
                      clear hi40006_1 hl40006_1
                      replace p40006 := eq_true p40006
                      replace q40006 := eq_true q40006
                      have p40007 : 0 ≤ (x5_2 : Int) := of_decide_eq_true (by first | (with_reducible assumption) | assumption)
                      have q40007 : x5_2 < (l0_3.length : Int) := of_decide_eq_true (by first | (with_reducible assumption) | assumption)
                      obtain ⟨ad40007, A40007_1, c40007_1, e40007, hx40007_0, hx40007_1, hl40007_1, hi40007_1⟩ := at_T53 HR0_3.out x5_2 p40007 q40007
                      obtain rfl : ad40005 = ad40007 := (by injection e40007)
                      replace hx40007_0 := (HB.out.cell (World.block_lt_of_cell? w _ hx40007_0)).trans hx40007_0
                      replace hx40007_1 := (HB.out.cell (World.block_lt_of_cell? w _ hx40007_1)).trans hx40007_1
                      have HR40007_1 := Aside0.mk hi40007_1
                      have HC40007_1 := Aside0.mk hl40007_1
                      clear hi40007_1 hl40007_1
                      replace p40007 := eq_true p40007
                      replace q40007 := eq_true q40007
                      have ea_ := Option.some.inj (hx40005_1.symm.trans hx40007_1)
                      injection ea_ with ea_ en_ ec_
                      subst ea_
                      subst ec_
                      clear en_
                      have p40008 : 0 ≤ (x5_2 : Int) := of_decide_eq_true (by first | (with_reducible assumption) | assumption)
                      have q40008 : x5_2 < (l1_3.length : Int) := of_decide_eq_true (by first | (with_reducible assumption) | assumption)
                      obtain ⟨ad40008, A40008_1, c40008_1, e40008, hx40008_0, hx40008_1, hl40008_1, hi40008_1⟩ := at_T53 HR1_3.out x5_2 p40008 q40008
                      obtain rfl : ad40006 = ad40008 := (by injection e40008)
                      replace hx40008_0 := (HB.out.cell (World.block_lt_of_cell? w _ hx40008_0)).trans hx40008_0
                      replace hx40008_1 := (HB.out.cell (World.block_lt_of_cell? w _ hx40008_1)).trans hx40008_1
                      have HR40008_1 := Aside0.mk hi40008_1
                      have HC40008_1 := Aside0.mk hl40008_1
                      clear hi40008_1 hl40008_1
                      replace p40008 := eq_true p40008
                      replace q40008 := eq_true q40008
                      have ea_ := Option.some.inj (hx40006_1.symm.trans hx40008_1)
                      injection ea_ with ea_ en_ ec_
                      subst ea_
                      subst ec_
                      clear en_
                      go_wp2_with (first | (go_at_call 31; (with_reducible refine (tinderref04_Same.calls _ _ ((rd_T53 l0_3 x5_2).f1) _ _ ((rd_T53 l1_3 x5_2).f1) false _ ?side1 ?side2 ?side3 ?side4 A32.out).mono ?_); (case side1 => repeat (first | exact (Kd.C_below HR40007_1.out HB.out) | (with_reducible refine Kd.C_alloc ?_ _) | (with_reducible refine Kd.C_drewN ?_ _) | (with_reducible refine Kd.C_drew ?_))); (case side2 => exact HC40007_1.out); (case side3 => repeat (first | exact (Kd.C_below HR40008_1.out HB.out) | (with_reducible refine Kd.C_alloc ?_ _) | (with_reducible refine Kd.C_drewN ?_ _) | (with_reducible refine Kd.C_drew ?_))); (case side4 => exact HC40008_1.out); rintro e w' ⟨rfl, ⟨nd, rfl⟩⟩; (try first | exact ⟨rfl, _, World.drewN_drewN _ _ _⟩ | exact ⟨rfl, _, Eq.trans (World.drewN_drewN _ _ _) (congrArg (World.drewN _) (Nat.add_assoc _ _ _))⟩)))
                      repeat (go_quiet (first | (go_at_call 31; (with_reducible refine (tinderref04_Same.calls _ _ ((rd_T53 l0_3 x5_2).f1) _ _ ((rd_T53 l1_3 x5_2).f1) false _ ?side1 ?side2 ?side3 ?side4 A32.out).mono ?_); (case side1 => repeat (first | exact (Kd.C_below HR40007_1.out HB.out) | (with_reducible refine Kd.C_alloc ?_ _) | (with_reducible refine Kd.C_drewN ?_ _) | (with_reducible refine Kd.C_drew ?_))); (case side2 => exact HC40007_1.out); (case side3 => repeat (first | exact (Kd.C_below HR40008_1.out HB.out) | (with_reducible refine Kd.C_alloc ?_ _) | (with_reducible refine Kd.C_drewN ?_ _) | (with_reducible refine Kd.C_drew ?_))); (case side4 => exact HC40008_1.out); rintro e w' ⟨rfl, ⟨nd, rfl⟩⟩; (try first | exact ⟨rfl, _, World.drewN_drewN _ _ _⟩ | exact ⟨rfl, _, Eq.trans (World.drewN_drewN _ _ _) (congrArg (World.drewN _) (Nat.add_assoc _ _ _))⟩))); try go_wp2_with (first | (go_at_call 31; (with_reducible refine (tinderref04_Same.calls _ _ ((rd_T53 l0_3 x5_2).f1) _ _ ((rd_T53 l1_3 x5_2).f1) false _ ?side1 ?side2 ?side3 ?side4 A32.out).mono ?_); (case side1 => repeat (first | exact (Kd.C_below HR40007_1.out HB.out) | (with_reducible refine Kd.C_alloc ?_ _) | (with_reducible refine Kd.C_drewN ?_ _) | (with_reducible refine Kd.C_drew ?_))); (case side2 => exact HC40007_1.out); (case side3 => repeat (first | exact (Kd.C_below HR40008_1.out HB.out) | (with_reducible refine Kd.C_alloc ?_ _) | (with_reducible refine Kd.C_drewN ?_ _) | (with_reducible refine Kd.C_drew ?_))); (case side4 => exact HC40008_1.out); rintro e w' ⟨rfl, ⟨nd, rfl⟩⟩; (try first | exact ⟨rfl, _, World.drewN_drewN _ _ _⟩ | exact ⟨rfl, _, Eq.trans (World.drewN_drewN _ _ _) (congrArg (World.drewN _) (Nat.add_assoc _ _ _))⟩))))
                      go_ret
                      exact ⟨by first | rfl | (simp [errW_none, errW_some] <;> rfl) | (simp [*, errW_none, errW_some] <;> rfl), by repeat (first | (with_reducible first | exact HB.out | apply below_alloc | apply pw_below_drewN | apply below_drew1 | refine below_set ?_ GE40001.out | refine below_set ?_ GE40002.out) | exact HB.out)⟩
                  · rw [if_neg c31] at H
                    have c31b0 : (((rd_T53 l0_3 x5_2).f0).toList == ((rd_T53 l1_3 x5_2).f0).toList) = false := beq_eq_false_iff_ne.mpr c31
                    have c31b1 : (((rd_T53 l0_3 x5_2).f0).toList != ((rd_T53 l1_3 x5_2).f0).toList) = true := bne_iff_ne.mpr c31
                    obtain rfl := Option.some.inj H
                    have hnb40 := NB40001_40002.out
                    have hnc40 := NB40002_40001.out
                    have hcz41_0 : wr.cell? ⟨gb40001, 0, none⟩ = some (.string a0_0) := (blk_cell BK40001.out 0).trans rfl
                    have hcz41_1 : wr.cell? ⟨gb40001, 1, none⟩ = some (.slice A0_1 l0_1.length c0_1) := (blk_cell BK40001.out 1).trans rfl
                    have hcz41_2 : wr.cell? ⟨gb40001, 2, none⟩ = some (.int .i64 a0_2) := (blk_cell BK40001.out 2).trans rfl
                    have hcz41_3 : wr.cell? ⟨gb40001, 3, none⟩ = some (.slice A0_3 l0_3.length c0_3) := (blk_cell BK40001.out 3).trans rfl
                    have hcz41_4 : wr.cell? ⟨gb40001, 4, none⟩ = some (.slice A0_4 l0_4.length c0_4) := (blk_cell BK40001.out 4).trans rfl
                    have hfz41_0 := blk_frozen BK40001.out 0
                    have hfz41_1 := blk_frozen BK40001.out 1
                    have hfz41_2 := blk_frozen BK40001.out 2
                    have hfz41_3 := blk_frozen BK40001.out 3
                    have hfz41_4 := blk_frozen BK40001.out 4
                    have p40005 : 0 ≤ (x5_2 : Int) := of_decide_eq_true (by first | (with_reducible assumption) | assumption)
                    have q40005 : x5_2 < (l0_3.length : Int) := of_decide_eq_true (by first | (with_reducible assumption) | assumption)
                    obtain ⟨ad40005, A40005_1, c40005_1, e40005, hx40005_0, hx40005_1, hl40005_1, hi40005_1⟩ := at_T53 HR0_3.out x5_2 p40005 q40005
                    cases e40005
                    replace hx40005_0 := (HB.out.cell (World.block_lt_of_cell? w _ hx40005_0)).trans hx40005_0
                    replace hx40005_1 := (HB.out.cell (World.block_lt_of_cell? w _ hx40005_1)).trans hx40005_1
                    have HR40005_1 := Aside0.mk hi40005_1
                    have HC40005_1 := Aside0.mk hl40005_1
                    clear hi40005_1 hl40005_1
                    replace p40005 := eq_true p40005
                    replace q40005 := eq_true q40005
                    have hcz42_0 : wr.cell? ⟨gb40002, 0, none⟩ = some (.string a1_0) := (blk_cell BK40002.out 0).trans rfl
                    have hcz42_1 : wr.cell? ⟨gb40002, 1, none⟩ = some (.slice A1_1 l1_1.length c1_1) := (blk_cell BK40002.out 1).trans rfl
                    have hcz42_2 : wr.cell? ⟨gb40002, 2, none⟩ = some (.int .i64 a1_2) := (blk_cell BK40002.out 2).trans rfl
                    have hcz42_3 : wr.cell? ⟨gb40002, 3, none⟩ = some (.slice A1_3 l1_3.length c1_3) := (blk_cell BK40002.out 3).trans rfl
                    have hcz42_4 : wr.cell? ⟨gb40002, 4, none⟩ = some (.slice A1_4 l1_4.length c1_4) := (blk_cell BK40002.out 4).trans rfl
                    have hfz42_0 := blk_frozen BK40002.out 0
                    have hfz42_1 := blk_frozen BK40002.out 1
                    have hfz42_2 := blk_frozen BK40002.out 2
                    have hfz42_3 := blk_frozen BK40002.out 3
                    have hfz42_4 := blk_frozen BK40002.out 4
                    have p40006 : 0 ≤ (x5_2 : Int) := of_decide_eq_true (by first | (with_reducible assumption) | assumption)
                    have q40006 : x5_2 < (l1_3.length : Int) := of_decide_eq_true (by first | (with_reducible assumption) | assumption)
                    obtain ⟨ad40006, A40006_1, c40006_1, e40006, hx40006_0, hx40006_1, hl40006_1, hi40006_1⟩ := at_T53 HR1_3.out x5_2 p40006 q40006
                    cases e40006
                    replace hx40006_0 := (HB.out.cell (World.block_lt_of_cell? w _ hx40006_0)).trans hx40006_0
                    replace hx40006_1 := (HB.out.cell (World.block_lt_of_cell? w _ hx40006_1)).trans hx40006_1
                    have HR40006_1 := Aside0.mk hi40006_1
                    have HC40006_1 := Aside0.mk hl40006_1
                    clear hi40006_1 hl40006_1
                    replace p40006 := eq_true p40006
                    replace q40006 := eq_true q40006
                    go_wp2
                    repeat (go_quiet (fail); try go_wp2)
                    go_ret
                    exact ⟨by first | rfl | (simp [errW_none, errW_some] <;> rfl) | (simp [*, errW_none, errW_some] <;> rfl), by repeat (first | (with_reducible first | exact HB.out | apply below_alloc | apply pw_below_drewN | apply below_drew1 | refine below_set ?_ GE40001.out | refine below_set ?_ GE40002.out) | exact HB.out)⟩
                · rw [if_neg c30] at H
                  exact absurd H (by simp)
              · rw [if_neg c29] at H
                exact absurd H (by simp)
            · rw [if_neg c28] at H
              have c28b0 : decide (x5_2 < (l0_3.length : Int)) = false := decide_eq_false c28
              clear c28
              obtain rfl := Option.some.inj H
              have hnb43 := NB40001_40002.out
              have hnc43 := NB40002_40001.out
              have hcz44_0 : wr.cell? ⟨gb40001, 0, none⟩ = some (.string a0_0) := (blk_cell BK40001.out 0).trans rfl
              have hcz44_1 : wr.cell? ⟨gb40001, 1, none⟩ = some (.slice A0_1 l0_1.length c0_1) := (blk_cell BK40001.out 1).trans rfl
              have hcz44_2 : wr.cell? ⟨gb40001, 2, none⟩ = some (.int .i64 a0_2) := (blk_cell BK40001.out 2).trans rfl
              have hcz44_3 : wr.cell? ⟨gb40001, 3, none⟩ = some (.slice A0_3 l0_3.length c0_3) := (blk_cell BK40001.out 3).trans rfl
              have hcz44_4 : wr.cell? ⟨gb40001, 4, none⟩ = some (.slice A0_4 l0_4.length c0_4) := (blk_cell BK40001.out 4).trans rfl
              have hfz44_0 := blk_frozen BK40001.out 0
              have hfz44_1 := blk_frozen BK40001.out 1
              have hfz44_2 := blk_frozen BK40001.out 2
              have hfz44_3 := blk_frozen BK40001.out 3
              have hfz44_4 := blk_frozen BK40001.out 4
              go_wp2
              repeat (go_quiet (fail); try go_wp2)
              go_ret
              exact ⟨by first | rfl | (simp [errW_none, errW_some] <;> rfl) | (simp [*, errW_none, errW_some] <;> rfl), by repeat (first | (with_reducible first | exact HB.out | apply below_alloc | apply pw_below_drewN | apply below_drew1 | refine below_set ?_ GE40001.out | refine below_set ?_ GE40002.out) | exact HB.out)⟩

end Go.Proofs.YtnalcjgefbelnaaDoor.Q
end
section
namespace Go.Proofs.YtnalcjgefbelnaaDoor.Q
open Go.RowKit Go.Proofs.YtnalcjgefbelnaaDoorW.PrintWords Go.Proofs.YtnalcjgefbelnaaDoorW.PrintLast Go.Proofs.YtnalcjgefbelnaaDoorW.PrintMore
set_option linter.unusedVariables false
set_option linter.unusedSimpArgs false

attribute [local go_sem] max2_int min2_int max_two min_two max_three min_three max_four min_four
/-! ### tinderref08_Same: function 14 -/
def tinderref08_Same.l0 : Nat → List (S44) → List (S44) → Int → Option (Bool)
  | 0, _, _, _ => none
  | k + 1, x0, x1, x5 => if x5 < (x0.length : Int) then (if 0 ≤ x5 then (if x5 < (x1.length : Int) then ((tinderref08_SameNode.f k ((rd_T44 x0 x5).f0) ((rd_T44 x0 x5).f1) ((rd_T44 x0 x5).f2) ((rd_T44 x0 x5).f3) ((rd_T44 x0 x5).f4) ((rd_T44 x1 x5).f0) ((rd_T44 x1 x5).f1) ((rd_T44 x1 x5).f2) ((rd_T44 x1 x5).f3) ((rd_T44 x1 x5).f4)).bind fun t15003 => (if t15003 = true then (tinderref08_Same.l0 k x0 x1 (wrap64 (x5 + 1))) else (some false))) else (none)) else (none)) else (some true)
def tinderref08_Same.f (k : Nat) (l0 : List (S44)) (l1 : List (S44)) : Option (Bool) := if (l0.length : Int) = (l1.length : Int) then (tinderref08_Same.l0 k l0 l1 0) else (some false)
def tinderref08_Same.T6 : Bool × List (List Nat × List Nat) := (true, [([], []), ([], []), ([0, 1], [0, 1]), ([2], [2]), ([], []), ([], []), ([4, 5], [4, 5]), ([6], [6]), ([3, 7], [3, 7]), ([8], [8])])
def tinderref08_Same.B6 : List Nat := [0, 0, 3, 7, 0, 0, 48, 112, 255, 511]
theorem tinderref08_Same.tab6 : rtab .any (opsOf Tryd.f14 6) = tinderref08_Same.T6 := by kernel_rfl
theorem tinderref08_Same.bits6 : waitsOk tinderref08_Same.T6.2 tinderref08_Same.B6 = true := by kernel_rfl
set_option maxHeartbeats 8000000 in
set_option maxRecDepth 100000 in
theorem tinderref08_Same.calls (k : Nat) (A0 : Option Addr) (c0 : Nat) (l0 : List (S44)) (A1 : Option Addr) (c1 : Nat) (l1 : List (S44)) (r : Bool) (w : World) (hr0 : Kd.C k44 w A0 l0.length l0) (hc0 : l0.length ≤ c0) (hr1 : Kd.C k44 w A1 l1.length l1) (hc1 : l1.length ≤ c1) (h : tinderref08_Same.f k l0 l1 = some r) :
    Calls Tryd.prog 14 #[.slice A0 l0.length c0, .slice A1 l1.length c1] w fun e w' => e = .returned (.bool r) ∧ Below w.heap.size w w' := by
  have hu44 := Tryd.underlying44
  have HR0 := Aside0.mk hr0
  have HC0 := Aside0.mk hc0
  clear hr0 hc0
  have HR1 := Aside0.mk hr1
  have HC1 := Aside0.mk hc1
  clear hr1 hc1
  have HB := Aside0.mk (Below.refl w.heap.size w)
  have H : (if (l0.length : Int) = (l1.length : Int) then (tinderref08_Same.l0 k l0 l1 0) else (some false)) = some r := h
  clear h
  by_cases c3 : (l0.length : Int) = (l1.length : Int)
  · rw [if_pos c3] at H
    have c3b0 : ((l0.length : Int) == (l1.length : Int)) = true := beq_iff_eq.mpr c3
    have c3b1 : ((l0.length : Int) != (l1.length : Int)) = false := bne_eq_false_iff_eq.mpr c3
    have c3b2 : (l0.length == l1.length) = true := by first | simpa using c3 | (simp at c3 ⊢; omega)
    clear c3
    have H' := Aside0.mk H
    clear H
    go_enter Tryd.func14, Tryd.ntmps14
    go_wp2
    go_loopg [5] k (fun kq v5 w' => ∃ (x5_1 : Int), v5 = .int .i64 x5_1 ∧ Aside0 (tinderref08_Same.l0 kq l0 l1 x5_1 = some r) ∧ Aside0 (kq ≤ k) ∧ Aside0 (Below w.heap.size w w'))
    case atStart => exact ⟨(0), (by first | rfl | (simp; done) | (simp [*]; done)), H', ⟨Nat.le_refl _⟩, ⟨by repeat (first | (with_reducible first | exact HB.out | apply below_alloc | apply pw_below_drewN | apply below_drew1) | exact HB.out)⟩⟩
    case round =>
      clear H'
      try clear c1
      try clear p2
      try clear c3
      try clear c3b0
      try clear c3b1
      try clear c3b2
      obtain ⟨x5_1, rfl, HA, HK1, HB⟩ := hrel
      cases gk with
      | zero => exact absurd HA.out (by simp [tinderref08_Same.l0])
      | succ k1 =>
        have H := HA.out
        clear HA
        simp only [tinderref08_Same.l0] at H
        by_cases c4 : x5_1 < (l0.length : Int)
        · rw [if_pos c4] at H
          have c4b0 : decide (x5_1 < (l0.length : Int)) = true := decide_eq_true c4
          clear c4
          by_cases c5 : 0 ≤ x5_1
          · rw [if_pos c5] at H
            have c5b0 : decide (0 ≤ x5_1) = true := decide_eq_true c5
            clear c5
            by_cases c6 : x5_1 < (l1.length : Int)
            · rw [if_pos c6] at H
              have c6b0 : decide (x5_1 < (l1.length : Int)) = true := decide_eq_true c6
              clear c6
              replace H := Option.bind_eq_some_iff.mp H
              obtain ⟨t15003, A70, H⟩ := H
              replace H : (if t15003 = true then (tinderref08_Same.l0 k1 l0 l1 (wrap64 (x5_1 + 1))) else (some false)) = some r := H
              have A7 := Aside0.mk A70
              clear A70
              by_cases c8 : t15003 = true
              · subst c8
                have H1 : (tinderref08_Same.l0 k1 l0 l1 (wrap64 (x5_1 + 1))) = some r := by rw [if_pos rfl] at H; exact H
                clear H
                have H := H1
                clear H1
                have H' := Aside0.mk H
                clear H
                try go_wp2
                have n0_ := Aside0.mk (below_drew1 HB.out)
                clear HB
                have HB := n0_
                clear n0_
                have p15001 : 0 ≤ (x5_1 : Int) := of_decide_eq_true (by first | (with_reducible assumption) | assumption)
                have q15001 : x5_1 < (l0.length : Int) := of_decide_eq_true (by first | (with_reducible assumption) | assumption)
                obtain ⟨ad15001, A15001_1, c15001_1, A15001_3, c15001_3, A15001_4, c15001_4, e15001, hx15001_0, hx15001_1, hx15001_2, hx15001_3, hx15001_4, hl15001_1, hi15001_1, hl15001_3, hi15001_3, hl15001_4, hi15001_4⟩ := at_T44 HR0.out x5_1 p15001 q15001
                have hw15001_4 := hx15001_4
                have hw15001_3 := hx15001_3
                have hw15001_2 := hx15001_2
                have hw15001_1 := hx15001_1
                have hw15001_0 := hx15001_0
                cases e15001
                replace hx15001_0 := (HB.out.cell (World.block_lt_of_cell? w _ hx15001_0)).trans hx15001_0
                replace hx15001_1 := (HB.out.cell (World.block_lt_of_cell? w _ hx15001_1)).trans hx15001_1
                replace hx15001_2 := (HB.out.cell (World.block_lt_of_cell? w _ hx15001_2)).trans hx15001_2
                replace hx15001_3 := (HB.out.cell (World.block_lt_of_cell? w _ hx15001_3)).trans hx15001_3
                replace hx15001_4 := (HB.out.cell (World.block_lt_of_cell? w _ hx15001_4)).trans hx15001_4
                have HR15001_1 := Aside0.mk hi15001_1
                have HC15001_1 := Aside0.mk hl15001_1
                clear hi15001_1 hl15001_1
                have HR15001_3 := Aside0.mk hi15001_3
                have HC15001_3 := Aside0.mk hl15001_3
                clear hi15001_3 hl15001_3
                have HR15001_4 := Aside0.mk hi15001_4
                have HC15001_4 := Aside0.mk hl15001_4
                clear hi15001_4 hl15001_4
                replace p15001 := eq_true p15001
                replace q15001 := eq_true q15001
                have p15002 : 0 ≤ (x5_1 : Int) := of_decide_eq_true (by first | (with_reducible assumption) | assumption)
                have q15002 : x5_1 < (l1.length : Int) := of_decide_eq_true (by first | (with_reducible assumption) | assumption)
                obtain ⟨ad15002, A15002_1, c15002_1, A15002_3, c15002_3, A15002_4, c15002_4, e15002, hx15002_0, hx15002_1, hx15002_2, hx15002_3, hx15002_4, hl15002_1, hi15002_1, hl15002_3, hi15002_3, hl15002_4, hi15002_4⟩ := at_T44 HR1.out x5_1 p15002 q15002
                have hw15002_4 := hx15002_4
                have hw15002_3 := hx15002_3
                have hw15002_2 := hx15002_2
                have hw15002_1 := hx15002_1
                have hw15002_0 := hx15002_0
                cases e15002
                replace hx15002_0 := (HB.out.cell (World.block_lt_of_cell? w _ hx15002_0)).trans hx15002_0
                replace hx15002_1 := (HB.out.cell (World.block_lt_of_cell? w _ hx15002_1)).trans hx15002_1
                replace hx15002_2 := (HB.out.cell (World.block_lt_of_cell? w _ hx15002_2)).trans hx15002_2
                replace hx15002_3 := (HB.out.cell (World.block_lt_of_cell? w _ hx15002_3)).trans hx15002_3
                replace hx15002_4 := (HB.out.cell (World.block_lt_of_cell? w _ hx15002_4)).trans hx15002_4
                have HR15002_1 := Aside0.mk hi15002_1
                have HC15002_1 := Aside0.mk hl15002_1
                clear hi15002_1 hl15002_1
                have HR15002_3 := Aside0.mk hi15002_3
                have HC15002_3 := Aside0.mk hl15002_3
                clear hi15002_3 hl15002_3
                have HR15002_4 := Aside0.mk hi15002_4
                have HC15002_4 := Aside0.mk hl15002_4
                clear hi15002_4 hl15002_4
                replace p15002 := eq_true p15002
                replace q15002 := eq_true q15002
                refine start_ (n := 10) (S := fun w' => w'.cell? (ad15001.add ((x5_1).toNat * 5)) = some (.string ((rd_T44 l0 x5_1).f0)) ∧ w'.cell? ⟨(ad15001.add ((x5_1).toNat * 5)).block, (ad15001.add ((x5_1).toNat * 5)).off + 1, none⟩ = some (.slice A15001_1 ((rd_T44 l0 x5_1).f1).length c15001_1) ∧ w'.cell? ⟨(ad15001.add ((x5_1).toNat * 5)).block, (ad15001.add ((x5_1).toNat * 5)).off + 2, none⟩ = some (.int .i64 ((rd_T44 l0 x5_1).f2)) ∧ w'.cell? ⟨(ad15001.add ((x5_1).toNat * 5)).block, (ad15001.add ((x5_1).toNat * 5)).off + 3, none⟩ = some (.slice A15001_3 ((rd_T44 l0 x5_1).f3).length c15001_3) ∧ w'.cell? ⟨(ad15001.add ((x5_1).toNat * 5)).block, (ad15001.add ((x5_1).toNat * 5)).off + 4, none⟩ = some (.slice A15001_4 ((rd_T44 l0 x5_1).f4).length c15001_4) ∧ w'.cell? (ad15002.add ((x5_1).toNat * 5)) = some (.string ((rd_T44 l1 x5_1).f0)) ∧ w'.cell? ⟨(ad15002.add ((x5_1).toNat * 5)).block, (ad15002.add ((x5_1).toNat * 5)).off + 1, none⟩ = some (.slice A15002_1 ((rd_T44 l1 x5_1).f1).length c15002_1) ∧ w'.cell? ⟨(ad15002.add ((x5_1).toNat * 5)).block, (ad15002.add ((x5_1).toNat * 5)).off + 2, none⟩ = some (.int .i64 ((rd_T44 l1 x5_1).f2)) ∧ w'.cell? ⟨(ad15002.add ((x5_1).toNat * 5)).block, (ad15002.add ((x5_1).toNat * 5)).off + 3, none⟩ = some (.slice A15002_3 ((rd_T44 l1 x5_1).f3).length c15002_3) ∧ w'.cell? ⟨(ad15002.add ((x5_1).toNat * 5)).block, (ad15002.add ((x5_1).toNat * 5)).off + 4, none⟩ = some (.slice A15002_4 ((rd_T44 l1 x5_1).f4).length c15002_4)) (ds := []) #[false, false, false, false, false, false, false, false, false, false] (by kernel_rfl) rfl rfl ⟨((HB.out.cell (World.block_lt_of_cell? w _ hw15001_0)).trans hw15001_0), ((HB.out.cell (World.block_lt_of_cell? w _ hw15001_1)).trans hw15001_1), ((HB.out.cell (World.block_lt_of_cell? w _ hw15001_2)).trans hw15001_2), ((HB.out.cell (World.block_lt_of_cell? w _ hw15001_3)).trans hw15001_3), ((HB.out.cell (World.block_lt_of_cell? w _ hw15001_4)).trans hw15001_4), ((HB.out.cell (World.block_lt_of_cell? w _ hw15002_0)).trans hw15002_0), ((HB.out.cell (World.block_lt_of_cell? w _ hw15002_1)).trans hw15002_1), ((HB.out.cell (World.block_lt_of_cell? w _ hw15002_2)).trans hw15002_2), ((HB.out.cell (World.block_lt_of_cell? w _ hw15002_3)).trans hw15002_3), ((HB.out.cell (World.block_lt_of_cell? w _ hw15002_4)).trans hw15002_4)⟩ (fun hHeld => ?_); refine with_tabW tinderref08_Same.tab6 tinderref08_Same.bits6 (fun HT_ HW_ => ?_)
                generalize wr.drew = w9 at HB HR15001_1 HR15001_3 HR15001_4 HR15002_1 HR15002_3 HR15002_4 hx15001_0 hx15001_1 hx15001_2 hx15001_3 hx15001_4 hx15002_0 hx15002_1 hx15002_2 hx15002_3 hx15002_4 hHeld ⊢
                refine pure_ (i := 0) (N := some 17) (v := ?_) (a' := ?_) #[true, false, false, false, false, false, false, false, false, false] rfl rfl (any_of HT_.out (by kernel_rfl)) (fun _ _ _ h => h) (Or.inl ⟨by rfl, ?_⟩) ?_ ?_
                rotate_left
                · intro w'
                  go_simp
                  with_reducible rfl
                rotate_left
                · simp only [Act.put, List.setIfInBounds_toArray, List.set_cons_zero, List.set_cons_succ, i64_w, i32_w]
                  rfl
                refine pure_ (i := 1) (N := some 18) (v := ?_) (a' := ?_) #[true, true, false, false, false, false, false, false, false, false] rfl rfl (any_of HT_.out (by kernel_rfl)) (fun _ _ _ h => h) (Or.inl ⟨by rfl, ?_⟩) ?_ ?_
                rotate_left
                · intro w'
                  go_simp
                  with_reducible rfl
                rotate_left
                · simp only [Act.put, List.setIfInBounds_toArray, List.set_cons_zero, List.set_cons_succ, i64_w, i32_w]
                  rfl
                refine pure_ (i := 2) (N := some 19) (v := ?_) (a' := ?_) #[true, true, true, false, false, false, false, false, false, false] rfl rfl (any_of HT_.out (by kernel_rfl)) (fun _ _ _ h => h) (Or.inl ⟨by rfl, ?_⟩) ?_ ?_
                rotate_left
                · intro w'
                  go_simp
                  with_reducible rfl
                rotate_left
                · simp only [Act.put, List.setIfInBounds_toArray, List.set_cons_zero, List.set_cons_succ, i64_w, i32_w]
                  rfl
                refine pure_ (i := 4) (N := some 21) (v := ?_) (a' := ?_) #[true, true, true, false, true, false, false, false, false, false] rfl rfl (any_of HT_.out (by kernel_rfl)) (fun _ _ _ h => h) (Or.inl ⟨by rfl, ?_⟩) ?_ ?_
                rotate_left
                · intro w'
                  go_simp
                  with_reducible rfl
                rotate_left
                · simp only [Act.put, List.setIfInBounds_toArray, List.set_cons_zero, List.set_cons_succ, i64_w, i32_w]
                  rfl
                refine pure_ (i := 5) (N := some 22) (v := ?_) (a' := ?_) #[true, true, true, false, true, true, false, false, false, false] rfl rfl (any_of HT_.out (by kernel_rfl)) (fun _ _ _ h => h) (Or.inl ⟨by rfl, ?_⟩) ?_ ?_
                rotate_left
                · intro w'
                  go_simp
                  with_reducible rfl
                rotate_left
                · simp only [Act.put, List.setIfInBounds_toArray, List.set_cons_zero, List.set_cons_succ, i64_w, i32_w]
                  rfl
                refine pure_ (i := 6) (N := some 23) (v := ?_) (a' := ?_) #[true, true, true, false, true, true, true, false, false, false] rfl rfl (any_of HT_.out (by kernel_rfl)) (fun _ _ _ h => h) (Or.inl ⟨by rfl, ?_⟩) ?_ ?_
                rotate_left
                · intro w'
                  go_simp
                  with_reducible rfl
                rotate_left
                · simp only [Act.put, List.setIfInBounds_toArray, List.set_cons_zero, List.set_cons_succ, i64_w, i32_w]
                  rfl
                refine take_ (i := 3) (N := some 20) (v := ?_) (a' := ?_) #[true, true, true, true, true, true, true, false, false, false] rfl rfl (take_ofW HT_.out HW_.out (by kernel_rfl)) (fun _ _ _ h => h) (Or.inl ⟨by rfl, ?_⟩) hHeld ?_ ?_
                rotate_left
                · rintro w' ⟨s0, s1, s2, s3, s4, s5, s6, s7, s8, s9⟩
                  go_simp
                  with_reducible rfl
                rotate_left
                · simp only [Act.put, List.setIfInBounds_toArray, List.set_cons_zero, List.set_cons_succ, i64_w, i32_w]
                  rfl
                refine take_ (i := 7) (N := some 24) (v := ?_) (a' := ?_) #[true, true, true, true, true, true, true, true, false, false] rfl rfl (take_ofW HT_.out HW_.out (by kernel_rfl)) (fun _ _ _ h => h) (Or.inl ⟨by rfl, ?_⟩) hHeld ?_ ?_
                rotate_left
                · rintro w' ⟨s0, s1, s2, s3, s4, s5, s6, s7, s8, s9⟩
                  go_simp
                  with_reducible rfl
                rotate_left
                · simp only [Act.put, List.setIfInBounds_toArray, List.set_cons_zero, List.set_cons_succ, i64_w, i32_w]
                  rfl
                refine one_ (i := 8) (N := some 25) #[true, true, true, true, true, true, true, true, true, false] rfl rfl (one_of HT_.out (by kernel_rfl)) (by decide) (fun K hK => ?_)
                refine goes_ Tryd.func39 (by kernel_rfl) rfl #[.agg #[.string ((rd_T44 l0 x5_1).f0), .slice A15001_1 ((rd_T44 l0 x5_1).f1).length c15001_1, .int .i64 ((rd_T44 l0 x5_1).f2), .slice A15001_3 ((rd_T44 l0 x5_1).f3).length c15001_3, .slice A15001_4 ((rd_T44 l0 x5_1).f4).length c15001_4], .agg #[.string ((rd_T44 l1 x5_1).f0), .slice A15002_1 ((rd_T44 l1 x5_1).f1).length c15002_1, .int .i64 ((rd_T44 l1 x5_1).f2), .slice A15002_3 ((rd_T44 l1 x5_1).f3).length c15002_3, .slice A15002_4 ((rd_T44 l1 x5_1).f4).length c15002_4]] (by rfl) rfl rfl (by (try simp only [List.map_toArray, List.map_cons, List.map_nil]); first | done | rfl | (simp only [List.length_drop, List.length_take]; rfl)) ?_
                with_reducible refine (tinderref08_SameNode.calls k1 ((rd_T44 l0 x5_1).f0) _ _ ((rd_T44 l0 x5_1).f1) ((rd_T44 l0 x5_1).f2) _ _ ((rd_T44 l0 x5_1).f3) _ _ ((rd_T44 l0 x5_1).f4) ((rd_T44 l1 x5_1).f0) _ _ ((rd_T44 l1 x5_1).f1) ((rd_T44 l1 x5_1).f2) _ _ ((rd_T44 l1 x5_1).f3) _ _ ((rd_T44 l1 x5_1).f4) true _ ?side1 ?side2 ?side3 ?side4 ?side5 ?side6 ?side7 ?side8 ?side9 ?side10 ?side11 ?side12 A7.out).mono ?_
                (case side1 => repeat (first | exact (Kd.C_below HR15001_1.out HB.out) | (with_reducible refine Kd.C_alloc ?_ _) | (with_reducible refine Kd.C_drewN ?_ _) | (with_reducible refine Kd.C_drew ?_)))
                (case side2 => exact HC15001_1.out)
                (case side3 => repeat (first | exact (Kd.C_below HR15001_3.out HB.out) | (with_reducible refine Kd.C_alloc ?_ _) | (with_reducible refine Kd.C_drewN ?_ _) | (with_reducible refine Kd.C_drew ?_)))
                (case side4 => exact HC15001_3.out)
                (case side5 => repeat (first | exact (Kd.C_below HR15001_4.out HB.out) | (with_reducible refine Kd.C_alloc ?_ _) | (with_reducible refine Kd.C_drewN ?_ _) | (with_reducible refine Kd.C_drew ?_)))
                (case side6 => exact HC15001_4.out)
                (case side7 => repeat (first | exact (Kd.C_below HR15002_1.out HB.out) | (with_reducible refine Kd.C_alloc ?_ _) | (with_reducible refine Kd.C_drewN ?_ _) | (with_reducible refine Kd.C_drew ?_)))
                (case side8 => exact HC15002_1.out)
                (case side9 => repeat (first | exact (Kd.C_below HR15002_3.out HB.out) | (with_reducible refine Kd.C_alloc ?_ _) | (with_reducible refine Kd.C_drewN ?_ _) | (with_reducible refine Kd.C_drew ?_)))
                (case side10 => exact HC15002_3.out)
                (case side11 => repeat (first | exact (Kd.C_below HR15002_4.out HB.out) | (with_reducible refine Kd.C_alloc ?_ _) | (with_reducible refine Kd.C_drewN ?_ _) | (with_reducible refine Kd.C_drew ?_)))
                (case side12 => exact HC15002_4.out)
                rintro e w10 ⟨rfl, hb⟩
                refine ⟨_, rfl, ?_⟩
                have n0_ := Aside0.mk (below_step (by repeat (first | (with_reducible first | exact HB.out | apply below_alloc | apply pw_below_drewN | apply below_drew1) | exact HB.out)) hb)
                clear HB
                have HB := n0_
                clear n0_
                (try clear hb)
                (try clear hb2)
                (try clear hk)
                (try clear hi)
                refine hK.out _ _ ⟨((HB.out.cell (World.block_lt_of_cell? w _ hw15001_0)).trans hw15001_0), ((HB.out.cell (World.block_lt_of_cell? w _ hw15001_1)).trans hw15001_1), ((HB.out.cell (World.block_lt_of_cell? w _ hw15001_2)).trans hw15001_2), ((HB.out.cell (World.block_lt_of_cell? w _ hw15001_3)).trans hw15001_3), ((HB.out.cell (World.block_lt_of_cell? w _ hw15001_4)).trans hw15001_4), ((HB.out.cell (World.block_lt_of_cell? w _ hw15002_0)).trans hw15002_0), ((HB.out.cell (World.block_lt_of_cell? w _ hw15002_1)).trans hw15002_1), ((HB.out.cell (World.block_lt_of_cell? w _ hw15002_2)).trans hw15002_2), ((HB.out.cell (World.block_lt_of_cell? w _ hw15002_3)).trans hw15002_3), ((HB.out.cell (World.block_lt_of_cell? w _ hw15002_4)).trans hw15002_4)⟩ (fun hHeld => ?_)
                clear hK K
                refine norm_ (a' := ?_) ?_ ?_
                rotate_left
                · show Act.put _ (some 25) _ = _
                  simp only [Act.put, List.setIfInBounds_toArray, List.set_cons_zero, List.set_cons_succ, i64_w, i32_w]
                  rfl
                refine pure_ (i := 9) (N := some 26) (v := ?_) (a' := ?_) #[true, true, true, true, true, true, true, true, true, true] rfl rfl (any_of HT_.out (by kernel_rfl)) (fun _ _ _ h => h) (Or.inl ⟨by rfl, ?_⟩) ?_ ?_
                rotate_left
                · intro w'
                  go_simp
                  with_reducible rfl
                rotate_left
                · simp only [Act.put, List.setIfInBounds_toArray, List.set_cons_zero, List.set_cons_succ, i64_w, i32_w]
                  rfl
                refine done_ (done_of HT_.out (by kernel_rfl)) ?_
                try go_wp2
                go_roundg k1
                case measure => have := HK1.out; omega
                case rel => exact ⟨(wrap64 (x5_1 + 1)), (by first | rfl | (simp; done) | (simp [*]; done)), H', ⟨by have := HK1.out; omega⟩, ⟨by repeat (first | (with_reducible first | exact HB.out | apply below_alloc | apply pw_below_drewN | apply below_drew1) | exact HB.out)⟩⟩
              · replace c8 := Bool.eq_false_iff.mpr c8
                subst c8
                have H1 : (some false) = some r := by rw [if_neg (show ¬ (false = true) by decide)] at H; exact H
                clear H
                have H := H1
                clear H1
                obtain rfl := Option.some.inj H
                try go_wp2
                have n0_ := Aside0.mk (below_drew1 HB.out)
                clear HB
                have HB := n0_
                clear n0_
                have p15001 : 0 ≤ (x5_1 : Int) := of_decide_eq_true (by first | (with_reducible assumption) | assumption)
                have q15001 : x5_1 < (l0.length : Int) := of_decide_eq_true (by first | (with_reducible assumption) | assumption)
                obtain ⟨ad15001, A15001_1, c15001_1, A15001_3, c15001_3, A15001_4, c15001_4, e15001, hx15001_0, hx15001_1, hx15001_2, hx15001_3, hx15001_4, hl15001_1, hi15001_1, hl15001_3, hi15001_3, hl15001_4, hi15001_4⟩ := at_T44 HR0.out x5_1 p15001 q15001
                have hw15001_4 := hx15001_4
                have hw15001_3 := hx15001_3
                have hw15001_2 := hx15001_2
                have hw15001_1 := hx15001_1
                have hw15001_0 := hx15001_0
                cases e15001
                replace hx15001_0 := (HB.out.cell (World.block_lt_of_cell? w _ hx15001_0)).trans hx15001_0
                replace hx15001_1 := (HB.out.cell (World.block_lt_of_cell? w _ hx15001_1)).trans hx15001_1
                replace hx15001_2 := (HB.out.cell (World.block_lt_of_cell? w _ hx15001_2)).trans hx15001_2
                replace hx15001_3 := (HB.out.cell (World.block_lt_of_cell? w _ hx15001_3)).trans hx15001_3
                replace hx15001_4 := (HB.out.cell (World.block_lt_of_cell? w _ hx15001_4)).trans hx15001_4
                have HR15001_1 := Aside0.mk hi15001_1
                have HC15001_1 := Aside0.mk hl15001_1
                clear hi15001_1 hl15001_1
                have HR15001_3 := Aside0.mk hi15001_3
                have HC15001_3 := Aside0.mk hl15001_3
                clear hi15001_3 hl15001_3
                have HR15001_4 := Aside0.mk hi15001_4
                have HC15001_4 := Aside0.mk hl15001_4
                clear hi15001_4 hl15001_4
                replace p15001 := eq_true p15001
                replace q15001 := eq_true q15001
                have p15002 : 0 ≤ (x5_1 : Int) := of_decide_eq_true (by first | (with_reducible assumption) | assumption)
                have q15002 : x5_1 < (l1.length : Int) := of_decide_eq_true (by first | (with_reducible assumption) | assumption)
                obtain ⟨ad15002, A15002_1, c15002_1, A15002_3, c15002_3, A15002_4, c15002_4, e15002, hx15002_0, hx15002_1, hx15002_2, hx15002_3, hx15002_4, hl15002_1, hi15002_1, hl15002_3, hi15002_3, hl15002_4, hi15002_4⟩ := at_T44 HR1.out x5_1 p15002 q15002
                have hw15002_4 := hx15002_4
                have hw15002_3 := hx15002_3
                have hw15002_2 := hx15002_2
                have hw15002_1 := hx15002_1
                have hw15002_0 := hx15002_0
                cases e15002
                replace hx15002_0 := (HB.out.cell (World.block_lt_of_cell? w _ hx15002_0)).trans hx15002_0
                replace hx15002_1 := (HB.out.cell (World.block_lt_of_cell? w _ hx15002_1)).trans hx15002_1
                replace hx15002_2 := (HB.out.cell (World.block_lt_of_cell? w _ hx15002_2)).trans hx15002_2
                replace hx15002_3 := (HB.out.cell (World.block_lt_of_cell? w _ hx15002_3)).trans hx15002_3
                replace hx15002_4 := (HB.out.cell (World.block_lt_of_cell? w _ hx15002_4)).trans hx15002_4
                have HR15002_1 := Aside0.mk hi15002_1
                have HC15002_1 := Aside0.mk hl15002_1
                clear hi15002_1 hl15002_1
                have HR15002_3 := Aside0.mk hi15002_3
                have HC15002_3 := Aside0.mk hl15002_3
                clear hi15002_3 hl15002_3
                have HR15002_4 := Aside0.mk hi15002_4
                have HC15002_4 := Aside0.mk hl15002_4
                clear hi15002_4 hl15002_4
                replace p15002 := eq_true p15002
                replace q15002 := eq_true q15002
                refine start_ (n := 10) (S := fun w' => w'.cell? (ad15001.add ((x5_1).toNat * 5)) = some (.string ((rd_T44 l0 x5_1).f0)) ∧ w'.cell? ⟨(ad15001.add ((x5_1).toNat * 5)).block, (ad15001.add ((x5_1).toNat * 5)).off + 1, none⟩ = some (.slice A15001_1 ((rd_T44 l0 x5_1).f1).length c15001_1) ∧ w'.cell? ⟨(ad15001.add ((x5_1).toNat * 5)).block, (ad15001.add ((x5_1).toNat * 5)).off + 2, none⟩ = some (.int .i64 ((rd_T44 l0 x5_1).f2)) ∧ w'.cell? ⟨(ad15001.add ((x5_1).toNat * 5)).block, (ad15001.add ((x5_1).toNat * 5)).off + 3, none⟩ = some (.slice A15001_3 ((rd_T44 l0 x5_1).f3).length c15001_3) ∧ w'.cell? ⟨(ad15001.add ((x5_1).toNat * 5)).block, (ad15001.add ((x5_1).toNat * 5)).off + 4, none⟩ = some (.slice A15001_4 ((rd_T44 l0 x5_1).f4).length c15001_4) ∧ w'.cell? (ad15002.add ((x5_1).toNat * 5)) = some (.string ((rd_T44 l1 x5_1).f0)) ∧ w'.cell? ⟨(ad15002.add ((x5_1).toNat * 5)).block, (ad15002.add ((x5_1).toNat * 5)).off + 1, none⟩ = some (.slice A15002_1 ((rd_T44 l1 x5_1).f1).length c15002_1) ∧ w'.cell? ⟨(ad15002.add ((x5_1).toNat * 5)).block, (ad15002.add ((x5_1).toNat * 5)).off + 2, none⟩ = some (.int .i64 ((rd_T44 l1 x5_1).f2)) ∧ w'.cell? ⟨(ad15002.add ((x5_1).toNat * 5)).block, (ad15002.add ((x5_1).toNat * 5)).off + 3, none⟩ = some (.slice A15002_3 ((rd_T44 l1 x5_1).f3).length c15002_3) ∧ w'.cell? ⟨(ad15002.add ((x5_1).toNat * 5)).block, (ad15002.add ((x5_1).toNat * 5)).off + 4, none⟩ = some (.slice A15002_4 ((rd_T44 l1 x5_1).f4).length c15002_4)) (ds := []) #[false, false, false, false, false, false, false, false, false, false] (by kernel_rfl) rfl rfl ⟨((HB.out.cell (World.block_lt_of_cell? w _ hw15001_0)).trans hw15001_0), ((HB.out.cell (World.block_lt_of_cell? w _ hw15001_1)).trans hw15001_1), ((HB.out.cell (World.block_lt_of_cell? w _ hw15001_2)).trans hw15001_2), ((HB.out.cell (World.block_lt_of_cell? w _ hw15001_3)).trans hw15001_3), ((HB.out.cell (World.block_lt_of_cell? w _ hw15001_4)).trans hw15001_4), ((HB.out.cell (World.block_lt_of_cell? w _ hw15002_0)).trans hw15002_0), ((HB.out.cell (World.block_lt_of_cell? w _ hw15002_1)).trans hw15002_1), ((HB.out.cell (World.block_lt_of_cell? w _ hw15002_2)).trans hw15002_2), ((HB.out.cell (World.block_lt_of_cell? w _ hw15002_3)).trans hw15002_3), ((HB.out.cell (World.block_lt_of_cell? w _ hw15002_4)).trans hw15002_4)⟩ (fun hHeld => ?_); refine with_tabW tinderref08_Same.tab6 tinderref08_Same.bits6 (fun HT_ HW_ => ?_)
                generalize wr.drew = w11 at HB HR15001_1 HR15001_3 HR15001_4 HR15002_1 HR15002_3 HR15002_4 hx15001_0 hx15001_1 hx15001_2 hx15001_3 hx15001_4 hx15002_0 hx15002_1 hx15002_2 hx15002_3 hx15002_4 hHeld ⊢
                refine pure_ (i := 0) (N := some 17) (v := ?_) (a' := ?_) #[true, false, false, false, false, false, false, false, false, false] rfl rfl (any_of HT_.out (by kernel_rfl)) (fun _ _ _ h => h) (Or.inl ⟨by rfl, ?_⟩) ?_ ?_
                rotate_left
                · intro w'
                  go_simp
                  with_reducible rfl
                rotate_left
                · simp only [Act.put, List.setIfInBounds_toArray, List.set_cons_zero, List.set_cons_succ, i64_w, i32_w]
                  rfl
                refine pure_ (i := 1) (N := some 18) (v := ?_) (a' := ?_) #[true, true, false, false, false, false, false, false, false, false] rfl rfl (any_of HT_.out (by kernel_rfl)) (fun _ _ _ h => h) (Or.inl ⟨by rfl, ?_⟩) ?_ ?_
                rotate_left
                · intro w'
                  go_simp
                  with_reducible rfl
                rotate_left
                · simp only [Act.put, List.setIfInBounds_toArray, List.set_cons_zero, List.set_cons_succ, i64_w, i32_w]
                  rfl
                refine pure_ (i := 2) (N := some 19) (v := ?_) (a' := ?_) #[true, true, true, false, false, false, false, false, false, false] rfl rfl (any_of HT_.out (by kernel_rfl)) (fun _ _ _ h => h) (Or.inl ⟨by rfl, ?_⟩) ?_ ?_
                rotate_left
                · intro w'
                  go_simp
                  with_reducible rfl
                rotate_left
                · simp only [Act.put, List.setIfInBounds_toArray, List.set_cons_zero, List.set_cons_succ, i64_w, i32_w]
                  rfl
                refine pure_ (i := 4) (N := some 21) (v := ?_) (a' := ?_) #[true, true, true, false, true, false, false, false, false, false] rfl rfl (any_of HT_.out (by kernel_rfl)) (fun _ _ _ h => h) (Or.inl ⟨by rfl, ?_⟩) ?_ ?_
                rotate_left
                · intro w'
                  go_simp
                  with_reducible rfl
                rotate_left
                · simp only [Act.put, List.setIfInBounds_toArray, List.set_cons_zero, List.set_cons_succ, i64_w, i32_w]
                  rfl
                refine pure_ (i := 5) (N := some 22) (v := ?_) (a' := ?_) #[true, true, true, false, true, true, false, false, false, false] rfl rfl (any_of HT_.out (by kernel_rfl)) (fun _ _ _ h => h) (Or.inl ⟨by rfl, ?_⟩) ?_ ?_
                rotate_left
                · intro w'
                  go_simp
                  with_reducible rfl
                rotate_left
                · simp only [Act.put, List.setIfInBounds_toArray, List.set_cons_zero, List.set_cons_succ, i64_w, i32_w]
                  rfl
                refine pure_ (i := 6) (N := some 23) (v := ?_) (a' := ?_) #[true, true, true, false, true, true, true, false, false, false] rfl rfl (any_of HT_.out (by kernel_rfl)) (fun _ _ _ h => h) (Or.inl ⟨by rfl, ?_⟩) ?_ ?_
                rotate_left
                · intro w'
                  go_simp
                  with_reducible rfl
                rotate_left
                · simp only [Act.put, List.setIfInBounds_toArray, List.set_cons_zero, List.set_cons_succ, i64_w, i32_w]
                  rfl
                refine take_ (i := 3) (N := some 20) (v := ?_) (a' := ?_) #[true, true, true, true, true, true, true, false, false, false] rfl rfl (take_ofW HT_.out HW_.out (by kernel_rfl)) (fun _ _ _ h => h) (Or.inl ⟨by rfl, ?_⟩) hHeld ?_ ?_
                rotate_left
                · rintro w' ⟨s0, s1, s2, s3, s4, s5, s6, s7, s8, s9⟩
                  go_simp
                  with_reducible rfl
                rotate_left
                · simp only [Act.put, List.setIfInBounds_toArray, List.set_cons_zero, List.set_cons_succ, i64_w, i32_w]
                  rfl
                refine take_ (i := 7) (N := some 24) (v := ?_) (a' := ?_) #[true, true, true, true, true, true, true, true, false, false] rfl rfl (take_ofW HT_.out HW_.out (by kernel_rfl)) (fun _ _ _ h => h) (Or.inl ⟨by rfl, ?_⟩) hHeld ?_ ?_
                rotate_left
                · rintro w' ⟨s0, s1, s2, s3, s4, s5, s6, s7, s8, s9⟩
                  go_simp
                  with_reducible rfl
                rotate_left
                · simp only [Act.put, List.setIfInBounds_toArray, List.set_cons_zero, List.set_cons_succ, i64_w, i32_w]
                  rfl
                refine one_ (i := 8) (N := some 25) #[true, true, true, true, true, true, true, true, true, false] rfl rfl (one_of HT_.out (by kernel_rfl)) (by decide) (fun K hK => ?_)
                refine goes_ Tryd.func39 (by kernel_rfl) rfl #[.agg #[.string ((rd_T44 l0 x5_1).f0), .slice A15001_1 ((rd_T44 l0 x5_1).f1).length c15001_1, .int .i64 ((rd_T44 l0 x5_1).f2), .slice A15001_3 ((rd_T44 l0 x5_1).f3).length c15001_3, .slice A15001_4 ((rd_T44 l0 x5_1).f4).length c15001_4], .agg #[.string ((rd_T44 l1 x5_1).f0), .slice A15002_1 ((rd_T44 l1 x5_1).f1).length c15002_1, .int .i64 ((rd_T44 l1 x5_1).f2), .slice A15002_3 ((rd_T44 l1 x5_1).f3).length c15002_3, .slice A15002_4 ((rd_T44 l1 x5_1).f4).length c15002_4]] (by rfl) rfl rfl (by (try simp only [List.map_toArray, List.map_cons, List.map_nil]); first | done | rfl | (simp only [List.length_drop, List.length_take]; rfl)) ?_
                with_reducible refine (tinderref08_SameNode.calls k1 ((rd_T44 l0 x5_1).f0) _ _ ((rd_T44 l0 x5_1).f1) ((rd_T44 l0 x5_1).f2) _ _ ((rd_T44 l0 x5_1).f3) _ _ ((rd_T44 l0 x5_1).f4) ((rd_T44 l1 x5_1).f0) _ _ ((rd_T44 l1 x5_1).f1) ((rd_T44 l1 x5_1).f2) _ _ ((rd_T44 l1 x5_1).f3) _ _ ((rd_T44 l1 x5_1).f4) false _ ?side1 ?side2 ?side3 ?side4 ?side5 ?side6 ?side7 ?side8 ?side9 ?side10 ?side11 ?side12 A7.out).mono ?_
                (case side1 => repeat (first | exact (Kd.C_below HR15001_1.out HB.out) | (with_reducible refine Kd.C_alloc ?_ _) | (with_reducible refine Kd.C_drewN ?_ _) | (with_reducible refine Kd.C_drew ?_)))
                (case side2 => exact HC15001_1.out)
                (case side3 => repeat (first | exact (Kd.C_below HR15001_3.out HB.out) | (with_reducible refine Kd.C_alloc ?_ _) | (with_reducible refine Kd.C_drewN ?_ _) | (with_reducible refine Kd.C_drew ?_)))
                (case side4 => exact HC15001_3.out)
                (case side5 => repeat (first | exact (Kd.C_below HR15001_4.out HB.out) | (with_reducible refine Kd.C_alloc ?_ _) | (with_reducible refine Kd.C_drewN ?_ _) | (with_reducible refine Kd.C_drew ?_)))
                (case side6 => exact HC15001_4.out)
                (case side7 => repeat (first | exact (Kd.C_below HR15002_1.out HB.out) | (with_reducible refine Kd.C_alloc ?_ _) | (with_reducible refine Kd.C_drewN ?_ _) | (with_reducible refine Kd.C_drew ?_)))
                (case side8 => exact HC15002_1.out)
                (case side9 => repeat (first | exact (Kd.C_below HR15002_3.out HB.out) | (with_reducible refine Kd.C_alloc ?_ _) | (with_reducible refine Kd.C_drewN ?_ _) | (with_reducible refine Kd.C_drew ?_)))
                (case side10 => exact HC15002_3.out)
                (case side11 => repeat (first | exact (Kd.C_below HR15002_4.out HB.out) | (with_reducible refine Kd.C_alloc ?_ _) | (with_reducible refine Kd.C_drewN ?_ _) | (with_reducible refine Kd.C_drew ?_)))
                (case side12 => exact HC15002_4.out)
                rintro e w12 ⟨rfl, hb⟩
                refine ⟨_, rfl, ?_⟩
                have n0_ := Aside0.mk (below_step (by repeat (first | (with_reducible first | exact HB.out | apply below_alloc | apply pw_below_drewN | apply below_drew1) | exact HB.out)) hb)
                clear HB
                have HB := n0_
                clear n0_
                (try clear hb)
                (try clear hb2)
                (try clear hk)
                (try clear hi)
                refine hK.out _ _ ⟨((HB.out.cell (World.block_lt_of_cell? w _ hw15001_0)).trans hw15001_0), ((HB.out.cell (World.block_lt_of_cell? w _ hw15001_1)).trans hw15001_1), ((HB.out.cell (World.block_lt_of_cell? w _ hw15001_2)).trans hw15001_2), ((HB.out.cell (World.block_lt_of_cell? w _ hw15001_3)).trans hw15001_3), ((HB.out.cell (World.block_lt_of_cell? w _ hw15001_4)).trans hw15001_4), ((HB.out.cell (World.block_lt_of_cell? w _ hw15002_0)).trans hw15002_0), ((HB.out.cell (World.block_lt_of_cell? w _ hw15002_1)).trans hw15002_1), ((HB.out.cell (World.block_lt_of_cell? w _ hw15002_2)).trans hw15002_2), ((HB.out.cell (World.block_lt_of_cell? w _ hw15002_3)).trans hw15002_3), ((HB.out.cell (World.block_lt_of_cell? w _ hw15002_4)).trans hw15002_4)⟩ (fun hHeld => ?_)
                clear hK K
                refine norm_ (a' := ?_) ?_ ?_
                rotate_left
                · show Act.put _ (some 25) _ = _
                  simp only [Act.put, List.setIfInBounds_toArray, List.set_cons_zero, List.set_cons_succ, i64_w, i32_w]
                  rfl
                refine pure_ (i := 9) (N := some 26) (v := ?_) (a' := ?_) #[true, true, true, true, true, true, true, true, true, true] rfl rfl (any_of HT_.out (by kernel_rfl)) (fun _ _ _ h => h) (Or.inl ⟨by rfl, ?_⟩) ?_ ?_
                rotate_left
                · intro w'
                  go_simp
                  with_reducible rfl
                rotate_left
                · simp only [Act.put, List.setIfInBounds_toArray, List.set_cons_zero, List.set_cons_succ, i64_w, i32_w]
                  rfl
                refine done_ (done_of HT_.out (by kernel_rfl)) ?_
                try go_wp2
                go_ret
                exact ⟨by first | rfl | (simp [errW_none, errW_some] <;> rfl) | (simp [*, errW_none, errW_some] <;> rfl), by repeat (first | (with_reducible first | exact HB.out | apply below_alloc | apply pw_below_drewN | apply below_drew1) | exact HB.out)⟩
            · rw [if_neg c6] at H
              exact absurd H (by simp)
          · rw [if_neg c5] at H
            exact absurd H (by simp)
        · rw [if_neg c4] at H
          have c4b0 : decide (x5_1 < (l0.length : Int)) = false := decide_eq_false c4
          clear c4
          obtain rfl := Option.some.inj H
          go_wp2
          go_ret
          exact ⟨by first | rfl | (simp [errW_none, errW_some] <;> rfl) | (simp [*, errW_none, errW_some] <;> rfl), by repeat (first | (with_reducible first | exact HB.out | apply below_alloc | apply pw_below_drewN | apply below_drew1) | exact HB.out)⟩
  · rw [if_neg c3] at H
    have c3b0 : ((l0.length : Int) == (l1.length : Int)) = false := beq_eq_false_iff_ne.mpr c3
    have c3b1 : ((l0.length : Int) != (l1.length : Int)) = true := bne_iff_ne.mpr c3
    have c3b2 : (l0.length == l1.length) = false := by first | simpa using c3 | (simp at c3 ⊢; omega)
    obtain rfl := Option.some.inj H
    go_enter Tryd.func14, Tryd.ntmps14
    go_wp2
    go_ret
    exact ⟨by first | rfl | (simp [errW_none, errW_some] <;> rfl) | (simp [*, errW_none, errW_some] <;> rfl), by repeat (first | (with_reducible first | exact HB.out | apply below_alloc | apply pw_below_drewN | apply below_drew1) | exact HB.out)⟩

end Go.Proofs.YtnalcjgefbelnaaDoor.Q
end
section
set_option linter.unusedSimpArgs false
set_option linter.unusedVariables false
namespace Go.Proofs.YtnalcjgefbelnaaDoor.Q
open Go.RowKit Go.Proofs.YtnalcjgefbelnaaDoorW.PrintWords Go.Proofs.YtnalcjgefbelnaaDoorW.PrintLast
theorem same3_go (a b : List Int) (hl : a.length = b.length) (hm : a.length ≤ 9223372036854775807) : ∀ (d k : Nat) (i : Int), 0 ≤ i → i + d = a.length → d < k → tinderref03_Same.l0 k a b i = some (decide (a.drop i.toNat = b.drop i.toNat))
  | 0, k, i, h0, h1, hk => by
    obtain ⟨k, rfl⟩ : ∃ m, k = m + 1 := ⟨k - 1, by omega⟩
    rw [tinderref03_Same.l0, if_neg (by omega), List.drop_eq_nil_of_le (by omega), List.drop_eq_nil_of_le (by omega), decide_eq_true rfl]
  | d + 1, k, i, h0, h1, hk => by
    obtain ⟨k, rfl⟩ : ∃ m, k = m + 1 := ⟨k - 1, by omega⟩
    have hw : wrap64 (i + 1) = i + 1 := by unfold wrap64; omega
    rw [tinderref03_Same.l0, if_pos (by omega), if_pos h0, if_pos (by omega), hw, same3_go a b hl hm d k (i + 1) (by omega) (by omega) (by omega), int_drop a i h0 (by omega), int_drop b i h0 (by omega)]
    by_cases he : rd a i = rd b i
    · rw [if_pos he]
      congr 1
      refine decide_eq_decide.2 ⟨fun h => by rw [he, h], fun h => (List.cons.inj h).2⟩
    · rw [if_neg he, decide_eq_false (fun h => he (List.cons.inj h).1)]
theorem same3_eq (a b : List Int) (hm : a.length ≤ 9223372036854775807) (k : Nat) (hk : a.length < k) : tinderref03_Same.f k a b = some (decide (a = b)) := by
  unfold tinderref03_Same.f
  by_cases hl : a.length = b.length
  · rw [if_pos (by omega), same3_go a b hl hm a.length k 0 (Int.le_refl _) (by omega) hk]
    rfl
  · rw [if_neg (by omega), decide_eq_false (fun h => hl (by rw [h]))]
theorem any_take {α : Type} (P : α → Bool) (z : α) (l : List α) (n i : Nat) (hi : i < n) (hn : n ≤ l.length) : ((l.take n).drop i).any P = (P (l.getD i z) || ((l.take n).drop (i + 1)).any P) := by
  rw [List.drop_eq_getElem_cons (show i < (l.take n).length by rw [List.length_take]; omega), List.any_cons]
  congr 2
  rw [List.getElem_take, List.getD_eq_getElem?_getD, List.getElem?_eq_getElem (show i < l.length by omega)]
  rfl
theorem twin_go (t : List S44) (p : Int) (s : ByteArray) (u : List Int) (n : Nat) (hn : n ≤ t.length) (ht : t.length ≤ 1000) (hU : ∀ x ∈ t, x.f1.length ≤ 9223372036854775807) (F : Nat) (hF : ∀ x ∈ t, x.f1.length < F) : ∀ (d k : Nat) (i : Int), 0 ≤ i → i + d = n → d + F + 1 ≤ k → tinderref08_twin.l0 k t n p s u i = some (((t.take n).drop i.toNat).any (isN p s u))
  | 0, k, i, h0, h1, hk => by
    obtain ⟨k, rfl⟩ : ∃ m, k = m + 1 := ⟨k - 1, by omega⟩
    rw [tinderref08_twin.l0, if_neg (by omega), List.drop_eq_nil_of_le (by rw [List.length_take]; omega)]
    rfl
  | d + 1, k, i, h0, h1, hk => by
    obtain ⟨k, rfl⟩ : ∃ m, k = m + 1 := ⟨k - 1, by omega⟩
    have hw : wrap64 (i + 1) = i + 1 := by unfold wrap64; omega
    have hx : rd_T44 t i ∈ t := by
      unfold rd_T44
      rw [List.getD_eq_getElem?_getD, List.getElem?_eq_getElem (show i.toNat < t.length by omega)]
      exact List.getElem_mem _
    have ih := twin_go t p s u n hn ht hU F hF d k (i + 1) (by omega) (by omega) (by omega)
    rw [tinderref08_twin.l0, if_pos (by omega), if_pos h0, if_pos (by omega), hw, ih, same3_eq _ _ (hU _ hx) k (by have := hF _ hx; omega), Option.bind_some, any_take (isN p s u) z44 t n i.toNat (by omega) hn, show (i + 1).toNat = i.toNat + 1 by omega]
    rw [show t.getD i.toNat z44 = rd_T44 t i from rfl, isN]
    by_cases h2 : (rd_T44 t i).f2 = p
    · rw [if_pos h2]
      by_cases h3 : (rd_T44 t i).f0.toList = s.toList
      · rw [if_pos h3]
        by_cases h4 : (rd_T44 t i).f1 = u
        · simp [h2, h3, h4]
        · simp [h2, h3, h4]
      · rw [if_neg h3]
        simp [h3]
    · rw [if_neg h2]
      simp [h2]
theorem pfind_go (l : List S53) (s : ByteArray) (hl : l.length ≤ 1000000) : ∀ (d k : Nat) (i : Int), 0 ≤ i → i + d = l.length → d < k → tinderref08_find.l0 k l s i = some (if idxP (isP s) (l.drop i.toNat) < 0 then -1 else idxP (isP s) (l.drop i.toNat) + i)
  | 0, k, i, h0, h1, hk => by
    obtain ⟨k, rfl⟩ : ∃ m, k = m + 1 := ⟨k - 1, by omega⟩
    rw [tinderref08_find.l0, if_neg (by omega), List.drop_eq_nil_of_le (by omega)]
    rfl
  | d + 1, k, i, h0, h1, hk => by
    obtain ⟨k, rfl⟩ : ∃ m, k = m + 1 := ⟨k - 1, by omega⟩
    have hw : wrap64 (i + 1) = i + 1 := by unfold wrap64; omega
    have hr := idxP_range (isP s) (l.drop (i + 1).toNat)
    have he : l.drop i.toNat = rd_T53 l i :: l.drop (i + 1).toNat := by
      rw [List.drop_eq_getElem_cons (show i.toNat < l.length by omega), show (i + 1).toNat = i.toNat + 1 by omega]
      simp [rd_T53, List.getD_eq_getElem?_getD, List.getElem?_eq_getElem (show i.toNat < l.length by omega)]
    rw [tinderref08_find.l0, if_pos (by omega), if_pos h0, hw, pfind_go l s hl d k (i + 1) (by omega) (by omega) (by omega), he, idxP]
    by_cases h2 : (rd_T53 l i).f0.toList = s.toList
    · have hp : isP s (rd_T53 l i) = true := beq_iff_eq.2 h2
      rw [if_pos h2, if_pos hp, if_neg (by decide), Int.zero_add]
    · have hp : isP s (rd_T53 l i) = false := beq_eq_false_iff_ne.2 h2
      rw [if_neg h2, if_neg (show ¬ isP s (rd_T53 l i) = true by rw [hp]; exact Bool.false_ne_true)]
      by_cases h3 : idxP (isP s) (l.drop (i + 1).toNat) < 0
      · rw [if_pos h3, if_pos h3, if_pos (by decide)]
      · rw [if_neg h3, if_neg h3, if_neg (by omega)]
        congr 1
        omega
theorem pfind_eq (l : List S53) (s : ByteArray) (hl : l.length ≤ 1000000) (k : Nat) (hk : l.length < k) : tinderref08_find.f k l s = some (idxP (isP s) l) := by
  have hr := idxP_range (isP s) l
  unfold tinderref08_find.f
  rw [pfind_go l s hl l.length k 0 (Int.le_refl _) (by omega) hk]
  rw [show l.drop (0 : Int).toNat = l from rfl]
  congr 1
  split <;> omega
theorem range_at (n i : Nat) (h : i < n) (p : Nat → Bool) : ((List.range n).drop i).all p = (p i && ((List.range n).drop (i + 1)).all p) := by
  rw [List.drop_eq_getElem_cons (show i < (List.range n).length by rw [List.length_range]; exact h), List.all_cons, List.getElem_range]
theorem range_end (n i : Nat) (h : n ≤ i) (p : Nat → Bool) : ((List.range n).drop i).all p = true := by
  rw [List.drop_eq_nil_of_le (by rw [List.length_range]; exact h)]
  rfl
/-- The round over a device's properties. -/
theorem props_go (t : List S44) (n : Int) (nm : ByteArray) (u : List Int) (p : Int) (l : List S53) (ce : List Int) (hl : l.length ≤ 16) (R : Bool) (K : Nat) (hR : ∀ k, K ≤ k → tinderref08_Formed.l0 k t (wrap64 (n + 1)) = some R) : ∀ (d k : Nat) (i : Int), 0 ≤ i → i + d = l.length → d + K + 500 ≤ k → tinderref08_Formed.l1 k t n i nm u p l ce = some (((List.range l.length).drop i.toNat).all (pOk l) && R)
  | 0, k, i, h0, h1, hk => by
    obtain ⟨k, rfl⟩ : ∃ m, k = m + 1 := ⟨k - 1, by omega⟩
    rw [tinderref08_Formed.l1, if_neg (by omega), hR k (by omega), range_end _ _ (by omega), Bool.true_and]
  | d + 1, k, i, h0, h1, hk => by
    obtain ⟨k, rfl⟩ : ∃ m, k = m + 1 := ⟨k - 1, by omega⟩
    have hw : wrap64 (i + 1) = i + 1 := by unfold wrap64; omega
    have ih := props_go t n nm u p l ce hl R K hR d k (i + 1) (by omega) (by omega) (by omega)
    have hr := idxP_range (isP (rd_T53 l i).f0) (l.take i.toNat)
    have ha := idxP_any (isP (rd_T53 l i).f0) (l.take i.toNat)
    rw [tinderref08_Formed.l1, if_pos (by omega), if_pos h0, refnamed_eq k (by omega), Option.bind_some, if_pos (show i ≤ (l.length : Int) by omega), pfind_eq _ _ (by rw [List.length_take]; omega) k (by rw [List.length_take]; omega), Option.bind_some, hw, ih, range_at l.length i.toNat (by omega) (pOk l), show (i + 1).toNat = i.toNat + 1 by omega]
    rw [show pOk l i.toNat = (namedF (rd_T53 l i).f0 && (decide ((rd_T53 l i).f1.length ≤ 256) && !(l.take i.toNat).any (isP (rd_T53 l i).f0))) from rfl, ← ha]
    by_cases h2 : namedF (rd_T53 l i).f0 = true
    · rw [if_pos h2, h2]
      by_cases h3 : ((rd_T53 l i).f1.length : Int) > 256
      · rw [if_pos h3, decide_eq_false (show ¬ (rd_T53 l i).f1.length ≤ 256 by omega)]
        rfl
      · rw [if_neg h3, decide_eq_true (show (rd_T53 l i).f1.length ≤ 256 by omega)]
        by_cases h4 : 0 ≤ idxP (isP (rd_T53 l i).f0) (l.take i.toNat)
        · rw [if_pos h4, decide_eq_true h4]
          rfl
        · rw [if_neg h4, decide_eq_false h4]
          rfl
    · rw [if_neg h2, Bool.eq_false_iff.2 h2]
      rfl
def nodeR (t : List S44) (i : Nat) : Bool := (!decide (16 < ((t.getD i z44).f4.length : Int)) && propsF (t.getD i z44).f3) && (if (i : Int) == 0 then true else kidOk (t.take i) i (t.getD i z44))
/-- From the device's second part on. -/
theorem node_tail (t : List S44) (i : Int) (x : S44) (R : Bool) (K : Nat) (hR : ∀ k, K ≤ k → tinderref08_Formed.l0 k t (wrap64 (i + 1)) = some R) (b : Bool) (k : Nat) (hk : K + 600 ≤ k) : tinderref08_Formed.j2 k t i b x.f0 x.f1 x.f2 x.f3 x.f4 = some (!b && ((!decide (16 < (x.f4.length : Int)) && propsF x.f3) && R)) := by
  obtain ⟨k, rfl⟩ : ∃ m, k = m + 1 + 1 := ⟨k - 2, by omega⟩
  rw [tinderref08_Formed.j2]
  cases b
  · rw [if_neg (by decide), tinderref08_Formed.j3, tinderref08_Formed.j3]
    unfold propsF
    by_cases h3 : (x.f3.length : Int) > 16
    · rw [if_pos h3, if_pos rfl, decide_eq_false (show ¬ x.f3.length ≤ 16 by omega)]
      simp
    · rw [if_neg h3]
      by_cases h4 : (x.f4.length : Int) > 16
      · rw [decide_eq_true h4, if_pos rfl]
        simp
      · rw [decide_eq_false h4, if_neg (by decide), props_go t i _ _ _ x.f3 _ (by omega) R K hR x.f3.length k 0 (Int.le_refl _) (by omega) (by omega), decide_eq_true (show x.f3.length ≤ 16 by omega)]
        simp
  · rw [if_pos rfl]
    rfl
theorem nodes_go (t : List S44) (ht : t.length ≤ 1000) (hU : ∀ x ∈ t, x.f1.length ≤ 9223372036854775807) (F : Nat) (hF : ∀ x ∈ t, x.f1.length < F) (B : Nat) (hB : F + 3000 ≤ B) : ∀ (d k : Nat) (i : Int), 0 ≤ i → i + d = t.length → d * B + 1 ≤ k → tinderref08_Formed.l0 k t i = some (((List.range t.length).drop i.toNat).all (nodeR t))
  | 0, k, i, h0, h1, hk => by
    obtain ⟨k, rfl⟩ : ∃ m, k = m + 1 := ⟨k - 1, by omega⟩
    rw [tinderref08_Formed.l0, if_neg (by omega), range_end _ _ (by omega)]
  | d + 1, k, i, h0, h1, hk => by
    obtain ⟨k, rfl⟩ : ∃ m, k = m + 1 := ⟨k - 1, by omega⟩
    rw [Nat.add_mul, Nat.one_mul] at hk
    have hw : wrap64 (i + 1) = i + 1 := by unfold wrap64; omega
    have ei : ((i.toNat : Nat) : Int) = i := by omega
    obtain ⟨R, hRe⟩ : ∃ R, R = ((List.range t.length).drop (i + 1).toNat).all (nodeR t) := ⟨_, rfl⟩
    have hR : ∀ k', d * B + 1 ≤ k' → tinderref08_Formed.l0 k' t (wrap64 (i + 1)) = some R := fun k' hk' => by
      rw [hw, nodes_go t ht hU F hF B hB d k' (i + 1) (by omega) (by omega) hk', hRe]
    have tail := fun b => node_tail t i (rd_T44 t i) R _ hR b k (by omega)
    rw [range_at t.length i.toNat (by omega) (nodeR t), show i.toNat + 1 = (i + 1).toNat by omega, ← hRe]
    rw [show nodeR t i.toNat = ((!decide (16 < ((rd_T44 t i).f4.length : Int)) && propsF (rd_T44 t i).f3) && (if i == 0 then true else kidOk (t.take i.toNat) i (rd_T44 t i))) by
      unfold nodeR
      rw [ei]
      rfl]
    rw [tinderref08_Formed.l0, if_pos (by omega), if_pos h0]
    by_cases hi : i > 0
    · rw [if_pos hi, refnamed_eq k (by omega), Option.bind_some, if_neg (show ¬ (i == 0) = true by rw [beq_eq_false_iff_ne.2 (by omega)]; exact Bool.false_ne_true)]
      have htw : tinderref08_twin.f k t i (rd_T44 t i).f2 (rd_T44 t i).f0 (rd_T44 t i).f1 = some ((t.take i.toNat).any (isN (rd_T44 t i).f2 (rd_T44 t i).f0 (rd_T44 t i).f1)) := by
        have h := twin_go t (rd_T44 t i).f2 (rd_T44 t i).f0 (rd_T44 t i).f1 i.toNat (by omega) ht hU F hF i.toNat k 0 (Int.le_refl _) (by omega) (by omega)
        rw [ei] at h
        exact h
      rw [htw, Option.bind_some, tail, tail, kidOk]
      generalize (!decide (16 < ((rd_T44 t i).f4.length : Int)) && propsF (rd_T44 t i).f3) = q
      generalize (t.take i.toNat).any (isN (rd_T44 t i).f2 (rd_T44 t i).f0 (rd_T44 t i).f1) = a
      by_cases h2 : namedF (rd_T44 t i).f0 = true
      · rw [if_pos h2, h2]
        by_cases h3 : ((rd_T44 t i).f1.length : Int) > 4
        · rw [if_pos h3, decide_eq_true (show (4 : Int) < (rd_T44 t i).f1.length from h3)]
          simp
        · rw [if_neg h3, decide_eq_false (show ¬ (4 : Int) < (rd_T44 t i).f1.length from h3)]
          by_cases h4 : (rd_T44 t i).f2 < 0
          · rw [if_pos h4, decide_eq_true h4]
            simp
          · rw [if_neg h4, decide_eq_false h4]
            by_cases h5 : (rd_T44 t i).f2 ≥ i
            · rw [if_pos h5, decide_eq_true (show i ≤ (rd_T44 t i).f2 from h5)]
              simp
            · rw [if_neg h5, decide_eq_false (show ¬ i ≤ (rd_T44 t i).f2 from h5)]
              cases a <;> cases q <;> rfl
      · rw [if_neg h2, Bool.eq_false_iff.2 h2]
        simp
    · rw [if_neg hi, tail, if_pos (show (i == 0) = true by rw [beq_iff_eq]; omega)]
      simp
theorem node_first (t : List S44) (h : 0 < t.length) : (List.range t.length).all (nodeOk t) = (rootOk (rd_T44 t 0) && (List.range t.length).all (nodeR t)) := by
  have e1 := range_at t.length 0 h (nodeOk t)
  have e2 := range_at t.length 0 h (nodeR t)
  rw [List.drop_zero] at e1 e2
  rw [e1, e2]
  have e3 : ((List.range t.length).drop 1).all (nodeOk t) = ((List.range t.length).drop 1).all (nodeR t) := by
    rw [Bool.eq_iff_iff, List.all_eq_true, List.all_eq_true]
    have key : ∀ j ∈ (List.range t.length).drop 1, nodeOk t j = nodeR t j := by
      intro j hj
      have h1 : 1 ≤ j := by
        obtain ⟨m, hm, rfl⟩ := List.getElem_of_mem hj
        rw [List.getElem_drop, List.getElem_range]
        omega
      unfold nodeOk nodeR
      rw [if_neg (show ¬ ((j : Int) == 0) = true by rw [beq_eq_false_iff_ne.2 (by omega)]; exact Bool.false_ne_true), if_neg (show ¬ ((j : Int) == 0) = true by rw [beq_eq_false_iff_ne.2 (by omega)]; exact Bool.false_ne_true)]
    exact ⟨fun hh j hj => by rw [← key j hj]; exact hh j hj, fun hh j hj => by rw [key j hj]; exact hh j hj⟩
  rw [show (0 + 1 : Nat) = 1 from rfl, e3]
  have e4 : nodeOk t 0 = (rootOk (rd_T44 t 0) && nodeR t 0) := by
    unfold nodeOk nodeR
    rw [show rd_T44 t 0 = t.getD 0 z44 from rfl]
    simp [Bool.and_comm]
  rw [e4, Bool.and_assoc]
theorem refFormed_eq (t : List S44) (hU : ∀ x ∈ t, x.f1.length ≤ 9223372036854775807) (F : Nat) (hF : ∀ x ∈ t, x.f1.length < F) (B : Nat) (hB : F + 3000 ≤ B) (k : Nat) (hk : 32 * B + 10 ≤ k) : tinderref08_Formed.f k t = some (treeF t) := by
  obtain ⟨k, rfl⟩ : ∃ m, k = m + 1 := ⟨k - 1, by omega⟩
  have hT : ∀ b, tinderref08_Formed.j0 (k + 1) t b = if b = true then some false else tinderref08_Formed.l0 k t 0 := fun b => by rw [tinderref08_Formed.j0]
  unfold tinderref08_Formed.f treeF
  by_cases h1 : (t.length : Int) < 1
  · rw [if_pos h1, hT, if_pos rfl, beq_iff_eq.2 (show (t.length : Int) = 0 by omega)]
    rfl
  · rw [if_neg h1, beq_eq_false_iff_ne.2 (show (t.length : Int) ≠ 0 by omega)]
    by_cases h2 : (t.length : Int) > 32
    · rw [if_pos h2, hT, if_pos rfl, decide_eq_true (show (32 : Int) < t.length from h2)]
      rfl
    · rw [if_neg h2, decide_eq_false (show ¬ (32 : Int) < t.length from h2), if_pos (by omega), node_first t (by omega)]
      have hn : tinderref08_Formed.l0 k t 0 = some ((List.range t.length).all (nodeR t)) := by
        have hm : t.length * B ≤ 32 * B := Nat.mul_le_mul_right _ (by omega)
        have h := nodes_go t (by omega) hU F hF B hB t.length k 0 (Int.le_refl _) (by omega) (by omega)
        exact h
      rw [hT, hT, hn, rootOk]
      generalize (List.range t.length).all (nodeR t) = q
      by_cases h3 : (rd_T44 t 0).f0.toList = ([] : List UInt8)
      · rw [if_pos h3, beq_iff_eq.2 h3]
        by_cases h4 : ((rd_T44 t 0).f1.length : Int) > 0
        · rw [if_pos h4, beq_eq_false_iff_ne.2 (show ((rd_T44 t 0).f1.length : Int) ≠ 0 by omega), if_pos rfl]
          simp
        · rw [if_neg h4, beq_iff_eq.2 (show ((rd_T44 t 0).f1.length : Int) = 0 by omega)]
          rw [bne]
          cases (rd_T44 t 0).f2 == -1 <;> simp
      · rw [if_neg h3, beq_eq_false_iff_ne.2 h3, if_pos rfl]
        simp
end Go.Proofs.YtnalcjgefbelnaaDoor.Q
end
section
set_option linter.unusedSimpArgs false
set_option linter.unusedVariables false
namespace Go.Proofs.YtnalcjgefbelnaaDoor.Q
open Go.RowKit Go.Proofs.YtnalcjgefbelnaaDoorW.PrintWords Go.Proofs.YtnalcjgefbelnaaDoorW.PrintLast
theorem same4_self (x : List Int) : tinderref04_Same.f x x = some true := by
  unfold tinderref04_Same.f
  rw [beq_self_eq_true]
theorem sameprops_go (n : ByteArray) (u : List Int) (p : Int) (l : List S53) (ce : List Int) (hl : l.length ≤ 1000000000000000) : ∀ (d k : Nat) (i : Int), 0 ≤ i → i + d = l.length → d < k → tinderref08_SameNode.l0 k i n u p l ce n u p l ce = some true
  | 0, k, i, h0, h1, hk => by
    obtain ⟨k, rfl⟩ : ∃ m, k = m + 1 := ⟨k - 1, by omega⟩
    rw [tinderref08_SameNode.l0, if_neg (by omega)]
  | d + 1, k, i, h0, h1, hk => by
    obtain ⟨k, rfl⟩ : ∃ m, k = m + 1 := ⟨k - 1, by omega⟩
    have hw : wrap64 (i + 1) = i + 1 := by unfold wrap64; omega
    rw [tinderref08_SameNode.l0, if_pos (by omega), if_pos h0, if_pos (by omega), if_pos rfl, same4_self, Option.bind_some, if_pos rfl, hw]
    exact sameprops_go n u p l ce hl d k (i + 1) (by omega) (by omega) (by omega)
/-- Lists of a device that are no longer than B. -/
def LenN (B : Nat) (x : S44) : Prop := x.f1.length ≤ B ∧ x.f4.length ≤ B ∧ x.f3.length ≤ B
theorem samenode_eq (x : S44) (B : Nat) (hB : B ≤ 1000000000000000) (h : LenN B x) (k : Nat) (hk : B + 3 ≤ k) : tinderref08_SameNode.f k x.f0 x.f1 x.f2 x.f3 x.f4 x.f0 x.f1 x.f2 x.f3 x.f4 = some true := by
  obtain ⟨k, rfl⟩ : ∃ m, k = m + 1 := ⟨k - 1, by omega⟩
  obtain ⟨h1, h4, h3⟩ := h
  unfold tinderref08_SameNode.f
  rw [if_pos rfl, if_pos rfl, same3_eq _ _ (by omega) _ (by omega), Option.bind_some, decide_eq_true rfl, if_pos rfl, same3_eq _ _ (by omega) _ (by omega), Option.bind_some, decide_eq_true rfl, if_pos rfl, tinderref08_SameNode.j0, show ((x.f3.length : Int) != (x.f3.length : Int)) = false by simp, if_neg (by decide)]
  exact sameprops_go _ _ _ _ _ (by omega) x.f3.length k 0 (Int.le_refl _) (by omega) (by omega)
theorem same8_go (t : List S44) (B : Nat) (hB : B ≤ 1000000000000000) (ht : t.length ≤ 1000000000000000) (hL : ∀ x ∈ t, LenN B x) : ∀ (d k : Nat) (i : Int), 0 ≤ i → i + d = t.length → d + B + 4 ≤ k → tinderref08_Same.l0 k t t i = some true
  | 0, k, i, h0, h1, hk => by
    obtain ⟨k, rfl⟩ : ∃ m, k = m + 1 := ⟨k - 1, by omega⟩
    rw [tinderref08_Same.l0, if_neg (by omega)]
  | d + 1, k, i, h0, h1, hk => by
    obtain ⟨k, rfl⟩ : ∃ m, k = m + 1 := ⟨k - 1, by omega⟩
    have hw : wrap64 (i + 1) = i + 1 := by unfold wrap64; omega
    have hx : rd_T44 t i ∈ t := by
      unfold rd_T44
      rw [List.getD_eq_getElem?_getD, List.getElem?_eq_getElem (show i.toNat < t.length by omega)]
      exact List.getElem_mem _
    rw [tinderref08_Same.l0, if_pos (by omega), if_pos h0, if_pos (by omega), samenode_eq _ B hB (hL _ hx) k (by omega), Option.bind_some, if_pos rfl, hw]
    exact same8_go t B hB ht hL d k (i + 1) (by omega) (by omega) (by omega)
theorem same8_eq (t : List S44) (B : Nat) (hB : B ≤ 1000000000000000) (ht : t.length ≤ 1000000000000000) (hL : ∀ x ∈ t, LenN B x) (k : Nat) (hk : t.length + B + 4 ≤ k) : tinderref08_Same.f k t t = some true := by
  unfold tinderref08_Same.f
  rw [if_pos rfl]
  exact same8_go t B hB ht hL t.length k 0 (Int.le_refl _) (by omega) hk
end Go.Proofs.YtnalcjgefbelnaaDoor.Q
end
section
namespace Go.Proofs.YtnalcjgefbelnaaDoor.Q
open Go.RowKit Go.Proofs.YtnalcjgefbelnaaDoorW.PrintWords Go.Proofs.YtnalcjgefbelnaaDoorW.PrintLast Go.Proofs.YtnalcjgefbelnaaDoorW.PrintMore
set_option linter.unusedVariables false
set_option linter.unusedSimpArgs false

attribute [local go_sem] max2_int min2_int max_two min_two max_three min_three max_four min_four
/-! ### tinderref03_Copy: function 51 -/
def tinderref03_Copy.f (l0 : List Int) : Option (List Int) := if ([] : List Int).length + l0.length < 35184372088832 then (some (([] : List Int) ++ l0)) else (none)

end Go.Proofs.YtnalcjgefbelnaaDoor.Q
end
section
namespace Go.Proofs.YtnalcjgefbelnaaDoor.Q
open Go.RowKit Go.Proofs.YtnalcjgefbelnaaDoorW.PrintWords Go.Proofs.YtnalcjgefbelnaaDoorW.PrintLast Go.Proofs.YtnalcjgefbelnaaDoorW.PrintMore
set_option linter.unusedVariables false
set_option linter.unusedSimpArgs false

attribute [local go_sem] max2_int min2_int max_two min_two max_three min_three max_four min_four
/-! ### tinderref04_Copy: function 52 -/
def tinderref04_Copy.f (l0 : List Int) : Option (List Int) := if ([] : List Int).length + l0.length < 140737488355328 then (some (([] : List Int) ++ l0)) else (none)

end Go.Proofs.YtnalcjgefbelnaaDoor.Q
end
section
namespace Go.Proofs.YtnalcjgefbelnaaDoor.Q
open Go.RowKit Go.Proofs.YtnalcjgefbelnaaDoorW.PrintWords Go.Proofs.YtnalcjgefbelnaaDoorW.PrintLast Go.Proofs.YtnalcjgefbelnaaDoorW.PrintMore
set_option linter.unusedVariables false
set_option linter.unusedSimpArgs false

attribute [local go_sem] max2_int min2_int max_two min_two max_three min_three max_four min_four
/-! ### tinderref08_Copy: function 18 -/
mutual
def tinderref08_Copy.l0 : Nat → List (S44) → List (S44) → Int → Option ((List (S44)))
  | 0, _, _, _ => none
  | k + 1, x0, x3, x4 => if x4 < (x0.length : Int) then (if 0 ≤ x4 then ((tinderref03_Copy.f ((rd_T44 x0 x4).f1)).bind fun t19004 => ((tinderref03_Copy.f ((rd_T44 x0 x4).f4)).bind fun t19008 => (tinderref08_Copy.l1 k x0 x3 x4 0 ((rd_T44 x0 x4).f0) t19004 ((rd_T44 x0 x4).f2) ([] : List (S53)) t19008))) else (none)) else (some x3)
def tinderref08_Copy.l1 : Nat → List (S44) → List (S44) → Int → Int → ByteArray → List Int → Int → List (S53) → List Int → Option ((List (S44)))
  | 0, _, _, _, _, _, _, _, _, _ => none
  | k + 1, x0, x3, x4, x6, x19012000, x19012001, x19012002, x19012003, x19012004 => if 0 ≤ x4 then (if x4 < (x0.length : Int) then (if x6 < (((rd_T44 x0 x4).f3).length : Int) then (if 0 ≤ x6 then ((tinderref04_Copy.f ((rd_T53 ((rd_T44 x0 x4).f3) x6).f1)).bind fun t19017 => (if x19012003.length < 3518437208883 then (tinderref08_Copy.l1 k x0 x3 x4 (wrap64 (x6 + 1)) x19012000 x19012001 x19012002 (x19012003 ++ [(⟨(rd_T53 ((rd_T44 x0 x4).f3) x6).f0, t19017⟩ : S53)]) x19012004) else (none))) else (none)) else (if x3.length < 1466015503701 then (tinderref08_Copy.l0 k x0 (x3 ++ [(⟨x19012000, x19012001, x19012002, x19012003, x19012004⟩ : S44)]) (wrap64 (x4 + 1))) else (none))) else (none)) else (none)
end
def tinderref08_Copy.f (k : Nat) (l0 : List (S44)) : Option ((List (S44))) := tinderref08_Copy.l0 k l0 ([] : List (S44)) 0
def tinderref08_Copy.T5 : Bool × List (List Nat × List Nat) := (true, [([], []), ([], []), ([0, 1], [0, 1]), ([2], [2]), ([3], [3]), ([], []), ([], []), ([5, 6], [5, 6]), ([7], [7]), ([8], [8]), ([], []), ([], []), ([10, 11], [10, 11]), ([12], [12]), ([13], [13]), ([14], [14]), ([], []), ([], []), ([16, 17], [16, 17]), ([18], [18]), ([19], [19]), ([20, 15], [20]), ([4, 9, 15, 21], [4, 9, 15, 21]), ([], []), ([23, 22, 21, 0, 1, 2, 3, 4, 5, 6, 7, 8, 9, 10, 11, 12, 13, 14, 15, 16, 17, 18, 19, 20, 21, 22, 23], [22, 23])])
def tinderref08_Copy.B5 : List Nat := [0, 0, 3, 7, 15, 0, 0, 96, 224, 480, 0, 0, 3072, 7168, 15360, 31744, 0, 0, 196608, 458752, 983040, 2096128, 4194303, 0, 16777215]
def tinderref08_Copy.T9 : Bool × List (List Nat × List Nat) := (true, [([], []), ([0], [0]), ([], []), ([], []), ([2, 3], [2, 3]), ([4], [4]), ([5], [5]), ([], []), ([6, 7], [6, 7]), ([8], [8]), ([9], [9]), ([], []), ([], []), ([11, 12], [11, 12]), ([13], [13]), ([14], [14]), ([], []), ([15, 16], [15, 16]), ([17], [17]), ([18], [18]), ([19], [19]), ([10, 20], [10, 20]), ([21], [21]), ([1, 22, 20], [1, 22]), ([0, 1, 2, 3, 4, 5, 6, 7, 8, 9, 10, 11, 12, 13, 14, 15, 16, 17, 18, 19, 20, 21, 22, 23], []), ([24, 23, 23, 0, 1, 2, 3, 4, 5, 6, 7, 8, 9, 10, 11, 12, 13, 14, 15, 16, 17, 18, 19, 20, 21, 22, 23], [23, 24])])
def tinderref08_Copy.B9 : List Nat := [0, 1, 0, 0, 12, 28, 60, 0, 252, 508, 1020, 0, 0, 6144, 14336, 30720, 0, 129024, 260096, 522240, 1046528, 2097148, 4194300, 8388607, 16777215, 33554431]

end Go.Proofs.YtnalcjgefbelnaaDoor.Q
end
section
namespace Go.Proofs.YtnalcjgefbelnaaDoor.Q
open Go.RowKit Go.Proofs.YtnalcjgefbelnaaDoorW.PrintWords Go.Proofs.YtnalcjgefbelnaaDoorW.PrintLast Go.Proofs.YtnalcjgefbelnaaDoorW.PrintMore
set_option linter.unusedVariables false
set_option linter.unusedSimpArgs false

attribute [local go_sem] max2_int min2_int max_two min_two max_three min_three max_four min_four
/-! ### tinderref08_wrong: function 54 -/
def tinderref08_wrong.f (k : Nat) (l0 : List (S44)) (a1 : Int) : Option (Int) := (tinderref08_Formed.f k l0).bind fun t55001 => (if t55001 = true then (if a1 < 0 then (some 19) else (if a1 ≥ (l0.length : Int) then (some 19) else (some 0))) else (some 1))

end Go.Proofs.YtnalcjgefbelnaaDoor.Q
end
section
namespace Go.Proofs.YtnalcjgefbelnaaDoor.Q
open Go.RowKit Go.Proofs.YtnalcjgefbelnaaDoorW.PrintWords Go.Proofs.YtnalcjgefbelnaaDoorW.PrintLast Go.Proofs.YtnalcjgefbelnaaDoorW.PrintMore
set_option linter.unusedVariables false
set_option linter.unusedSimpArgs false

attribute [local go_sem] max2_int min2_int max_two min_two max_three min_three max_four min_four
/-! ### tinderref08_Add: function 20 -/
def tinderref08_Add.j0 : Nat → List (S44) → Int → ByteArray → List Int → Bool → Option ((List (S44)) × Int × Int)
  | 0, _, _, _, _, _ => none
  | k + 1, x0, x1, x2, x3, x19 => if x19 = true then (some (([] : List (S44)), 0, 1)) else ((tinderref08_twin.f k x0 (x0.length : Int) x1 x2 x3).bind fun t21003 => (if t21003 = true then (some (([] : List (S44)), 0, 20)) else (if (x0.length : Int) ≥ 32 then (some (([] : List (S44)), 0, 22)) else ((tinderref08_Copy.f k x0).bind fun t21004 => ((tinderref03_Copy.f x3).bind fun t21007 => (if t21004.length < 1466015503701 then (some ((t21004 ++ [(⟨x2, t21007, x1, ([] : List (S53)), ([] : List Int)⟩ : S44)]), (x0.length : Int), 0)) else (none)))))))
def tinderref08_Add.f (k : Nat) (l0 : List (S44)) (a1 : Int) (a2 : ByteArray) (l3 : List Int) : Option ((List (S44)) × Int × Int) := (tinderref08_wrong.f k l0 a1).bind fun t21001 => (if t21001 = 0 then ((tinderref05_Named.f k a2).bind fun t21002 => (if t21002 = true then (tinderref08_Add.j0 k l0 a1 a2 l3 (decide ((l3.length : Int) > 4))) else (tinderref08_Add.j0 k l0 a1 a2 l3 true))) else (some (([] : List (S44)), 0, t21001)))

end Go.Proofs.YtnalcjgefbelnaaDoor.Q
end
section
set_option linter.unusedSimpArgs false
set_option linter.unusedVariables false
namespace Go.Proofs.YtnalcjgefbelnaaDoor.Q
open Go.RowKit Go.Proofs.YtnalcjgefbelnaaDoorW.PrintWords Go.Proofs.YtnalcjgefbelnaaDoorW.PrintLast
/-- Lists short enough for a copy to be made. -/
def GoodN (x : S44) : Prop := x.f1.length < 35184372088832 ∧ x.f4.length < 35184372088832 ∧ x.f3.length < 3518437208883 ∧ ∀ p ∈ x.f3, p.f1.length < 140737488355328
def GoodT (t : List S44) : Prop := t.length < 1466015503701 ∧ ∀ x ∈ t, GoodN x
theorem goodN_len {x : S44} (h : GoodN x) : LenN 35184372088832 x := ⟨by have := h.1; omega, by have := h.2.1; omega, by have := h.2.2.1; omega⟩
theorem short_of {t : List S44} (h : GoodT t) : shortT t = true := by
  simp only [shortT, shortN, shortP, Bool.and_eq_true, decide_eq_true_eq, List.all_eq_true]
  refine ⟨by have := h.1; omega, fun x hx => ?_⟩
  obtain ⟨h1, h2, h3, h4⟩ := h.2 x hx
  exact ⟨by omega, by omega, by omega, h4⟩
theorem same8_good {t : List S44} (h : GoodT t) (k : Nat) (hk : 1000000000000000000000000000000 ≤ k) : tinderref08_Same.f k t t = some true :=
  same8_eq t 35184372088832 (by decide) (by have := h.1; omega) (fun x hx => goodN_len (h.2 x hx)) k (by have := h.1; omega)
theorem refFormed_good {t : List S44} (h : GoodT t) (k : Nat) (hk : 1000000000000000000000000000000 ≤ k) : tinderref08_Formed.f k t = some (treeF t) :=
  refFormed_eq t (fun x hx => by have := (h.2 x hx).1; omega) 35184372088832 (fun x hx => (h.2 x hx).1) 35184372091832 (by decide) k (by omega)
theorem check_form {l0 : List S44} {a1 : Int} (h : tree_check.f l0 a1 = some 0) : treeF l0 = true := by
  unfold tree_check.f tree_Formed.f at h
  rw [Option.bind_some] at h
  split at h
  · assumption
  · exact absurd h (by decide)
theorem form_len {t : List S44} (h : treeF t = true) : 1 ≤ t.length ∧ t.length ≤ 32 := by
  unfold treeF at h
  simp only [Bool.and_eq_true, Bool.not_eq_true', beq_eq_false_iff_ne, decide_eq_false_iff_not] at h
  omega
theorem form_node {t : List S44} (h : treeF t = true) (i : Nat) (hi : i < t.length) : nodeOk t i = true := by
  unfold treeF at h
  simp only [Bool.and_eq_true] at h
  exact List.all_eq_true.1 h.2.2 i (List.mem_range.2 hi)
/-- What Add answers. -/
def addF (t : List S44) (n : Int) (s : ByteArray) (u : List Int) : List S44 × Int × Int := if namedF s = true then (if (4 : Int) < (u.length : Int) then ([], 0, 1) else if t.any (isN n s u) = true then ([], 0, 20) else if (t.length : Int) = 32 then ([], 0, 22) else (t ++ [(⟨s, u, n, [], []⟩ : S44)], (t.length : Int), 0)) else ([], 0, 1)
end Go.Proofs.YtnalcjgefbelnaaDoor.Q
end
section
set_option linter.unusedSimpArgs false
set_option linter.unusedVariables false
namespace Go.Proofs.YtnalcjgefbelnaaDoor.Q
open Go.RowKit Go.Proofs.YtnalcjgefbelnaaDoorW.PrintWords Go.Proofs.YtnalcjgefbelnaaDoorW.PrintLast Go.Proofs.YtnalcjgefbelnaaDoorW.PrintMore
attribute [local go_sem] max2_int min2_int max_two min_two max_three min_three max_four min_four
def plcF (l0 : List S44) (a1 : Int) (a2 : ByteArray) : Int := idxP (isP a2) (rd_T44 l0 a1).f3
def tree_place.f (l0 : List S44) (a1 : Int) (a2 : ByteArray) : Option (Int × Int) := (tree_check.f l0 a1).bind fun e => if e = 0 then (if plcF l0 a1 a2 < 0 then some (0, 2) else some (plcF l0 a1 a2, 0)) else some (0, e)
theorem check_in {l0 : List S44} {a1 : Int} (h : tree_check.f l0 a1 = some 0) : 0 ≤ a1 ∧ a1 < l0.length := by
  unfold tree_check.f tree_Formed.f at h
  rw [Option.bind_some] at h
  split at h
  · split at h
    · exact absurd h (by decide)
    · split at h
      · exact absurd h (by decide)
      · omega
  · exact absurd h (by decide)
end Go.Proofs.YtnalcjgefbelnaaDoor.Q
end
section
namespace Go.Proofs
open Go.Shelf
def Tryd.lays156_ren : Go.Shelf.Ren := ⟨fun | 156 => 83 | 165 => 91 | 166 => 71 | 169 => 74 | 240 => 81 | 241 => 97 | 276 => 88 | 277 => 104 | n => n, fun | 31 => 107 | 9 => 9 | 3 => 3 | 4 => 4 | 0 => 0 | 20 => 20 | 72 => 94 | 76 => 98 | 70 => 92 | 37 => 28 | 75 => 97 | 127 => 110 | 164 => 113 | 5 => 5 | 80 => 102 | n => n, fun | n => n⟩
theorem Tryd.lays156 : Go.Proofs.Lays.n156 Tryd.prog Tryd.lays156_ren := {
  mixed := by kernel_rfl
  f156 := Tryd.func83.trans (congrArg some (by kernel_rfl))
  f165 := Tryd.func91.trans (congrArg some (by kernel_rfl))
  f166 := Tryd.func71.trans (congrArg some (by kernel_rfl))
  f169 := Tryd.func74.trans (congrArg some (by kernel_rfl))
  f240 := Tryd.func81.trans (congrArg some (by kernel_rfl))
  f241 := Tryd.func97.trans (congrArg some (by kernel_rfl))
  f276 := Tryd.func88.trans (congrArg some (by kernel_rfl))
  f277 := Tryd.func104.trans (congrArg some (by kernel_rfl))
  t0 := Tryd.underlying0
  a0 := Tryd.isAgg0
  z0 := Tryd.sizeOf0
  v0 := Tryd.zeroValue0
  t3 := Tryd.underlying3
  a3 := Tryd.isAgg3
  z3 := Tryd.sizeOf3
  v3 := Tryd.zeroValue3
  t4 := Tryd.underlying4
  a4 := Tryd.isAgg4
  z4 := Tryd.sizeOf4
  v4 := Tryd.zeroValue4
  t9 := Tryd.underlying9
  a9 := Tryd.isAgg9
  z9 := Tryd.sizeOf9
  v9 := Tryd.zeroValue9
  t20 := Tryd.underlying20
  a20 := Tryd.isAgg20
  z20 := Tryd.sizeOf20
  v20 := Tryd.zeroValue20
  t31 := Tryd.underlying107
  a31 := Tryd.isAgg107
  z31 := Tryd.sizeOf107
  v31 := Tryd.zeroValue107
  t37 := Tryd.underlying28
  a37 := Tryd.isAgg28
  z37 := Tryd.sizeOf28
  v37 := Tryd.zeroValue28
  t70 := Tryd.underlying92
  a70 := Tryd.isAgg92
  z70 := Tryd.sizeOf92
  v70 := Tryd.zeroValue92
  t72 := Tryd.underlying94
  a72 := Tryd.isAgg94
  z72 := Tryd.sizeOf94
  v72 := Tryd.zeroValue94
  t75 := Tryd.underlying97
  a75 := Tryd.isAgg97
  z75 := Tryd.sizeOf97
  v75 := Tryd.zeroValue97
  t76 := Tryd.underlying98
  a76 := Tryd.isAgg98
  z76 := Tryd.sizeOf98
  v76 := Tryd.zeroValue98
  t127 := Tryd.underlying110
  a127 := Tryd.isAgg110
  z127 := Tryd.sizeOf110
  v127 := Tryd.zeroValue110
  t164 := Tryd.underlying113
  a164 := Tryd.isAgg113
  z164 := Tryd.sizeOf113
  v164 := Tryd.zeroValue113 }
theorem Tryd.Builder_Extra_156 : Builder.Extra Tryd.prog Tryd.lays156_ren := {
  sizeBuilder := by kernel_rfl
  liesBuilder := by kernel_rfl
  t5 := Tryd.underlying5
  a5 := Tryd.isAgg5
  z5 := Tryd.sizeOf5
  v5 := Tryd.zeroValue5
  infoByte := by kernel_rfl
  cellsByte := by kernel_rfl
  sizeByte := by kernel_rfl
  neB5 := by decide }
open Go.RowKit in
/-- No element: the empty string; the world is as it was. (Whatever the slice's address and capacity: a nil slice too.) (LAID: no walk: one application.) -/
theorem Tryd.strings_Join_none (a : Option Addr) (c : Nat) (sep : ByteArray) (w : World) :
    Calls Tryd.prog 83 #[.slice a 0 c, .string sep] w fun e w' => e = .returned (.string ⟨#[]⟩) ∧ w' = w := Any.strings_Join_none Tryd.lays156 Tryd.Builder_Extra_156 a c sep w
open Go.RowKit in
/-- strings.Join: "Join concatenates the elements of its first argument to create a single string. The separator string sep is placed between elements in the resulting string.": HOWEVER MANY ELEMENTS. Below the heap's end the world is as it was. (LAID: no walk: one application.) -/
theorem Tryd.strings_Join (bk o c : Nat) (xs : List ByteArray) (sep : ByteArray) (w : World) (hcells : ∀ (j : Nat) x, xs[j]? = some x → w.cell? ⟨bk, o + j, none⟩ = some (.string x)) (hbk : bk < w.heap.size) (hN : xs.length ≤ 140737488355328) (hcap : xs.length ≤ c) (hlen : (Lib.join (xs.map (·.data.toList)) sep.data.toList).length ≤ 140737488355328) :
    Calls Tryd.prog 83 #[.slice (some ⟨bk, o, none⟩) xs.length c, .string sep] w fun e w' => e = .returned (.string ⟨(Lib.join (xs.map (·.data.toList)) sep.data.toList).toArray⟩) ∧ Below w.heap.size w w' := Any.strings_Join Tryd.lays156 Tryd.Builder_Extra_156 bk o c xs sep w hcells hbk hN hcap hlen
end Go.Proofs
end
section
set_option linter.unusedSimpArgs false
set_option linter.unusedVariables false
namespace Go.Proofs.YtnalcjgefbelnaaDoor.Q
open Go.RowKit Go.Shelf Go.Proofs.YtnalcjgefbelnaaDoorW.PrintWords Go.Proofs.YtnalcjgefbelnaaDoorW.PrintLast
set_option maxHeartbeats 1000000 in
set_option maxRecDepth 100000 in
theorem copyCheck_used (b : Nat) (w : World) (h0 : w.cell? ⟨b, 0, none⟩ = some (.pointer (some ⟨b, 0, none⟩))) :
    Calls Tryd.prog 81 #[.pointer (some ⟨b, 0, none⟩)] w fun e w' => e = .returned (.tuple #[]) ∧ w' = w := by
  obtain ⟨j, hj, _⟩ := Option.map_eq_some_iff.1 Tryd.Builder_Extra_156.sizeBuilder
  go_enter Tryd.func81, Tryd.ntmps81
  go_wp2
  rw [Lib.run_neq_ptr_same w _ Tryd.underlying92 hj]
  go_wp2
  go_end0
  exact ⟨rfl, rfl⟩
set_option maxHeartbeats 1000000 in
set_option maxRecDepth 100000 in
theorem copyCheck_fresh (b : Nat) (w : World) (h0 : w.cell? ⟨b, 0, none⟩ = some (.pointer none)) (hsh : w.shape? b = some (94, 2)) (hfz : w.frozen? ⟨b, 0, none⟩ = false) :
    Calls Tryd.prog 81 #[.pointer (some ⟨b, 0, none⟩)] w fun e w' => e = .returned (.tuple #[]) ∧ w' = w.setCell ⟨b, 0, none⟩ (.pointer (some ⟨b, 0, none⟩)) := by
  obtain ⟨j, hj, hjs⟩ := Option.map_eq_some_iff.1 Tryd.Builder_Extra_156.sizeBuilder
  go_enter Tryd.func81, Tryd.ntmps81
  go_wp2
  rw [Lib.run_to_unsafe w ⟨b, 0, none⟩ Tryd.underlying92 Tryd.underlying113 hj (by rw [hjs]; decide) hsh (Nat.zero_lt_succ 1)]
  simp only [Result.andThen]
  rw [Oper.upon_value]
  go_wp2
  rw [run_callFunc_extern Tryd.func88 (by kernel_rfl) (by kernel_rfl) (by kernel_rfl) (e := Extern.AbiNoEscape.same) (by kernel_rfl)]
  rw [Lib.run_noEscape]
  simp only [Result.andThen]
  rw [Oper.upon_value]
  go_wp2
  rw [Lib.run_from_unsafe w ⟨b, 0, none⟩ Tryd.underlying113 Tryd.underlying92 hj hsh Tryd.Builder_Extra_156.liesBuilder]
  simp only [Result.andThen]
  rw [Oper.upon_value]
  go_wp2
  go_end0
  exact ⟨rfl, rfl⟩
/-- All blocks of another type than bytes, but b, are as they were. -/
def KeepT (b : Nat) (w w' : World) : Prop := ∀ k cs t fr, k ≠ b → t ≠ 5 → w.heap[k]? = some (.cells cs t fr) → w'.heap[k]? = some (.cells cs t fr)
theorem KeepT.set (b j : Nat) (w : World) (u : Value) : KeepT b w (w.setCell ⟨b, j, none⟩ u) := fun k cs t fr hk _ h => by
  rw [Below.heap_setCell w ⟨b, j, none⟩ u k hk]
  exact h
theorem KeepT.trans {b : Nat} {A B C : World} (h : KeepT b A B) (k : KeepT b B C) : KeepT b A C := fun i cs t fr hi ht e => k i cs t fr hi ht (h i cs t fr hi ht e)
theorem copyCheck_calls (B b : Nat) (bs : List Value) (w : World) (h : Lib.IsBuilder 94 5 B b bs w) :
    Calls Tryd.prog 81 #[.pointer (some ⟨b, 0, none⟩)] w fun e w' => e = .returned (.tuple #[]) ∧ (Lib.BuilderAt 94 5 B b (.pointer (some ⟨b, 0, none⟩)) bs w' ∧ Below B w w' ∧ KeepT b w w') := by
  rcases h with h | h
  · refine (copyCheck_fresh b w h.cell0 h.shape h.frozen0).mono ?_
    rintro e w' ⟨rfl, rfl⟩
    exact ⟨rfl, h.used _, (Below.refl B w).setCell (p := ⟨b, 0, none⟩) h.1 _, KeepT.set _ _ _ _⟩
  · refine (copyCheck_used b w h.cell0).mono ?_
    rintro e w' ⟨rfl, rfl⟩
    exact ⟨rfl, h, Below.refl B _, fun _ _ _ _ _ _ h => h⟩
theorem info5b : (Tryd.prog.info? 5).map (fun i => (i.zero, i.size, i.bytes)) = some (some (.int .u8 0), 1, 1) := by kernel_rfl
set_option maxHeartbeats 2000000 in
set_option maxRecDepth 100000 in
theorem write_calls (B b : Nat) (bs : List Value) (s : ByteArray) (w : World) (h : Lib.IsBuilder 94 5 B b bs w) (hlen : bs.length + s.size ≤ 140737488355328) (hBw : B ≤ w.heap.size) :
    Calls Tryd.prog 71 #[.pointer (some ⟨b, 0, none⟩), .string s] w fun e w' => e = .returned (.tuple #[.int .i64 s.size, .nilIface]) ∧ (Lib.BuilderAt 94 5 B b (.pointer (some ⟨b, 0, none⟩)) (bs ++ Lib.strCells s) w' ∧ Below B w w' ∧ KeepT b w w') := by
  obtain ⟨i0, hi, hz0, hz1, hz2⟩ := info_parts info5b
  have HC := Aside0.mk (copyCheck_calls B b bs w h)
  go_enter Tryd.func71, Tryd.ntmps71
  go_wp2_with (go_at_call 81; refine HC.out.mono ?_)
  rintro e w1 ⟨rfl, h1, hb1, hk1⟩
  obtain ⟨hB, v, hbk, hown, hne⟩ := h1
  have c0 : w1.cell? ⟨b, 0, none⟩ = some (.pointer (some ⟨b, 0, none⟩)) := by rw [Lib.cell_of_heap hbk]; rfl
  have c1 : w1.cell? ⟨b, 1, none⟩ = some v := by rw [Lib.cell_of_heap hbk]; rfl
  go_wp2_with (at_builtin; refine Lib.wpList_append_own_string _ rfl _ _ 28 9 rfl B 5 i0 Tryd.underlying28 Tryd.underlying9 hi hz0 hz1 hz2 _ _ _ rfl hown s rfl ?c3 ?c4 ?c5 ?_)
  case c3 => unfold maxLen; omega
  case c4 => omega
  case c5 => have := hb1.size; omega
  intro v' w2 hown' hgrow _
  have hlt : b < w1.heap.size := by
    rcases Nat.lt_or_ge b w1.heap.size with h' | h'
    · exact h'
    · simp [Array.getElem?_eq_none h'] at hbk
  have hb2 : w2.heap[b]? = some (.cells #[.pointer (some ⟨b, 0, none⟩), v] 94 (0, 0)) := by
    rw [hgrow.block b hlt (fun e => hne e.symm)]
    exact hbk
  have d0 : w2.cell? ⟨b, 0, none⟩ = some (.pointer (some ⟨b, 0, none⟩)) := by rw [Lib.cell_of_heap hb2]; rfl
  have d1 : w2.cell? ⟨b, 1, none⟩ = some v := by rw [Lib.cell_of_heap hb2]; rfl
  have f1 : w2.frozen? ⟨b, 1, none⟩ = false := Lib.frozen_of_heap hb2 1
  obtain ⟨ao, n', cap, rfl⟩ : ∃ ao n' cap, v' = .slice ao n' cap := by
    rcases hown'.2 with ⟨hv, _⟩ | ⟨g, cap, cur, hv, _⟩
    · exact ⟨_, _, _, hv⟩
    · exact ⟨_, _, _, hv⟩
  go_wp2
  go_ret2
  refine ⟨rfl, ?_, ?_, ?_⟩
  · exact Lib.BuilderAt.put (T := 94) (e := 5) hB hb2 (bs' := bs ++ Lib.strCells s) (by simpa [Lib.strCells_length] using hown') (by decide)
  · exact (hb1.grown hgrow (by have := hb1.size; omega) (fun k hk => (hown.lt k hk).1)).setCell (p := ⟨b, 1, none⟩) hB _
  · refine (hk1.trans (fun k cs t fr hk ht e => ?_)).trans (KeepT.set _ _ _ _)
    rw [hgrow.block k (Array.getElem?_eq_some_iff.1 e).1 (fun he => ?_)]
    · exact e
    · rcases hown.2 with ⟨rfl, _⟩ | ⟨g, cap, cur, rfl, _, hh, _⟩
      · simp [Value.ownBlock] at he
      · have : k = g := by simpa [Value.ownBlock] using he
        subst this
        rw [e] at hh
        injection hh with hh
        injection hh with _ h2 _
        exact ht h2
theorem BuilderAt_below {B b : Nat} {p : Value} {bs : List Value} {w w' : World} (h : Lib.BuilderAt 94 5 B b p bs w) (hb : Below w.heap.size w w') : Lib.BuilderAt 94 5 B b p bs w' := by
  have hlt := h.lt
  obtain ⟨hB, v, hbk, hown, hne⟩ := h
  refine ⟨hB, v, (hb.block b hlt).trans hbk, hown.kept (grown_of_below hb none) ?_, hne⟩
  cases hv : v.ownBlock with
  | none => exact .inl rfl
  | some k => exact .inr (by simp)
theorem IsBuilder_below {B b : Nat} {bs : List Value} {w w' : World} (h : Lib.IsBuilder 94 5 B b bs w) (hb : Below w.heap.size w w') : Lib.IsBuilder 94 5 B b bs w' := h.imp (fun h => BuilderAt_below h hb) (fun h => BuilderAt_below h hb)
end Go.Proofs.YtnalcjgefbelnaaDoor.Q
end
section
namespace Go.Proofs.YtnalcjgefbelnaaDoor.Q
open Go.RowKit Go.Proofs.YtnalcjgefbelnaaDoorW.PrintWords Go.Proofs.YtnalcjgefbelnaaDoorW.PrintLast
def joinB (l : List ByteArray) (sep : ByteArray) : ByteArray := ⟨(Lib.join (l.map (·.data.toList)) sep.data.toList).toArray⟩
def strings_Join.f (l : List ByteArray) (sep : ByteArray) : Option ByteArray := if l.length ≤ 140737488355328 ∧ (joinB l sep).size ≤ 140737488355328 then some (joinB l sep) else none
theorem strings_Join.calls (A0 : Option Addr) (c0 : Nat) (l0 : List ByteArray) (a1 : ByteArray) (r : ByteArray) (w : World) (hr0 : Kd.C Kd.string w A0 l0.length l0) (hc0 : l0.length ≤ c0) (h : strings_Join.f l0 a1 = some r) :
    Calls Tryd.prog 83 #[.slice A0 l0.length c0, .string a1] w fun e w' => e = .returned (.string r) ∧ Below w.heap.size w w' := by
  unfold strings_Join.f at h
  split at h
  case isFalse => cases h
  rename_i hs
  obtain rfl := Option.some.inj h
  by_cases h0 : l0.length = 0
  · obtain rfl := List.eq_nil_of_length_eq_zero h0
    refine (Tryd.strings_Join_none A0 c0 a1 w).mono ?_
    rintro e w' ⟨rfl, rfl⟩
    exact ⟨rfl, Below.refl _ _⟩
  · obtain ⟨ad, rfl, hx⟩ := (Kd.reads_of_C (enc := Value.string) (d := ByteArray.empty) (h1 := fun _ => rfl) hr0).2.2 (by omega)
    have h00 := hx 0 (by omega)
    obtain ⟨bk, o, sp⟩ := ad
    have hsp : sp = none := by
      cases sp with
      | none => rfl
      | some y =>
        rw [show (⟨bk, o, some y⟩ : Addr).add 0 = ⟨bk, o, some y⟩ from rfl] at h00
        unfold World.cell? at h00
        split at h00 <;> simp at h00
    subst hsp
    have hb := World.block_lt_of_cell? w _ h00
    refine (Tryd.strings_Join bk o c0 l0 a1 w (fun j x hj => ?_) hb hs.1 hc0 (by have := hs.2; unfold joinB at this; simpa [ByteArray.size] using this)).mono ?_
    · have hjl := (List.getElem?_eq_some_iff.1 hj).1
      have h2 := hx j hjl
      rw [List.getD_eq_getElem?_getD, hj, Option.getD_some] at h2
      rw [← h2]
      congr 1
      unfold Addr.add
      split
      · rename_i h; subst h; rfl
      · rfl
    · rintro e w' ⟨rfl, hb⟩
      exact ⟨rfl, hb⟩
end Go.Proofs.YtnalcjgefbelnaaDoor.Q
end
section
namespace Go.Proofs.YtnalcjgefbelnaaDoor.Q
open Go.RowKit Go.Proofs.YtnalcjgefbelnaaDoorW.PrintWords Go.Proofs.YtnalcjgefbelnaaDoorW.PrintLast Go.Proofs.YtnalcjgefbelnaaDoorW.PrintMore
set_option linter.unusedVariables false
set_option linter.unusedSimpArgs false

attribute [local go_sem] max2_int min2_int max_two min_two max_three min_three max_four min_four
/-! ### digit_fit: function 89 -/
def digit_fit.f (a0 : Int) : Option (Bool) := if a0 ≥ 2 then (some (decide (a0 ≤ 36))) else (some false)
set_option maxHeartbeats 8000000 in
set_option maxRecDepth 100000 in
theorem digit_fit.calls (a0 : Int) (r : Bool) (w : World) (h : digit_fit.f a0 = some r) :
    Calls Tryd.prog 89 #[.int .u32 a0] w fun e w' => e = .returned (.bool r) ∧ Drawn0 w w' := by
  have H : (if a0 ≥ 2 then (some (decide (a0 ≤ 36))) else (some false)) = some r := h
  clear h
  by_cases c2 : a0 ≥ 2
  · rw [if_pos c2] at H
    have c2b0 : decide (2 ≤ a0) = true := decide_eq_true c2
    clear c2
    obtain rfl := Option.some.inj H
    go_enter Tryd.func89, Tryd.ntmps89
    go_wp2
    go_ret
    exact ⟨by first | rfl | (simp; done) | (simp [*]; done), by repeat (first | exact Drawn0.refl _ | apply Drawn0.step)⟩
  · rw [if_neg c2] at H
    have c2b0 : decide (2 ≤ a0) = false := decide_eq_false c2
    clear c2
    obtain rfl := Option.some.inj H
    go_enter Tryd.func89, Tryd.ntmps89
    go_wp2
    go_ret
    exact ⟨by first | rfl | (simp; done) | (simp [*]; done), by repeat (first | exact Drawn0.refl _ | apply Drawn0.step)⟩

end Go.Proofs.YtnalcjgefbelnaaDoor.Q
end
section
namespace Go.Proofs.YtnalcjgefbelnaaDoor.Q
open Go.RowKit Go.Proofs.YtnalcjgefbelnaaDoorW.PrintWords Go.Proofs.YtnalcjgefbelnaaDoorW.PrintLast Go.Proofs.YtnalcjgefbelnaaDoorW.PrintMore
set_option linter.unusedVariables false
set_option linter.unusedSimpArgs false

attribute [local go_sem] max2_int min2_int max_two min_two max_three min_three max_four min_four
/-! ### tinderref02_Small: function 98 -/
def tinderref02_Small.f (a0 : Int) : Option (Int) := if a0 ≥ 65 then (if a0 ≤ 90 then (some ((a0 + 32) % 256)) else (some a0)) else (some a0)

end Go.Proofs.YtnalcjgefbelnaaDoor.Q
end
section
namespace Go.Proofs.YtnalcjgefbelnaaDoor.Q
open Go.RowKit Go.Proofs.YtnalcjgefbelnaaDoorW.PrintWords Go.Proofs.YtnalcjgefbelnaaDoorW.PrintLast Go.Proofs.YtnalcjgefbelnaaDoorW.PrintMore
set_option linter.unusedVariables false
set_option linter.unusedSimpArgs false

attribute [local go_sem] max2_int min2_int max_two min_two max_three min_three max_four min_four
/-! ### tinderref02_Value: function 92 -/
mutual
def tinderref02_Value.j0 : Nat → Int → Int → Bool → Option (Int × Bool)
  | 0, _, _, _ => none
  | k + 1, x0, x1, x12 => if x12 = true then (some (0, false)) else (tinderref02_Value.l0 k x0 x1 0)
def tinderref02_Value.l0 : Nat → Int → Int → Int → Option (Int × Bool)
  | 0, _, _, _ => none
  | k + 1, x0, x1, x6 => if x6 < (wrap64 (x1)) then (if 0 ≤ x6 then (if x6 < 36 then ((tinderref02_Small.f x0).bind fun t93001 => (if (bt (⟨#[48, 49, 50, 51, 52, 53, 54, 55, 56, 57, 97, 98, 99, 100, 101, 102, 103, 104, 105, 106, 107, 108, 109, 110, 111, 112, 113, 114, 115, 116, 117, 118, 119, 120, 121, 122]⟩ : ByteArray) x6) = t93001 then (some ((x6) % 4294967296, true)) else (tinderref02_Value.l0 k x0 x1 (wrap64 (x6 + 1))))) else (none)) else (none)) else (some (0, false))
end
def tinderref02_Value.f (k : Nat) (a0 : Int) (a1 : Int) : Option (Int × Bool) := if a1 < 2 then (tinderref02_Value.j0 k a0 a1 true) else (tinderref02_Value.j0 k a0 a1 (decide (a1 > 36)))

end Go.Proofs.YtnalcjgefbelnaaDoor.Q
end
section
namespace Go.Proofs.YtnalcjgefbelnaaDoor.Q
open Go.RowKit Go.Proofs.YtnalcjgefbelnaaDoorW.PrintWords Go.Proofs.YtnalcjgefbelnaaDoorW.PrintLast Go.Proofs.YtnalcjgefbelnaaDoorW.PrintMore
set_option linter.unusedVariables false
set_option linter.unusedSimpArgs false

attribute [local go_sem] max2_int min2_int max_two min_two max_three min_three max_four min_four
/-! ### tinderref02_Parse: function 85 -/
mutual
def tinderref02_Parse.j0 : Nat → ByteArray → Int → Bool → Option (Int × Int)
  | 0, _, _, _ => none
  | k + 1, x0, x1, x17 => if x17 = true then (some (0, 1)) else (if (x0.size : Int) > 0 then (if 0 < (x0.size : Int) then (tinderref02_Parse.j1 k x0 x1 ((bt x0 0) == 45)) else (none)) else (tinderref02_Parse.j1 k x0 x1 false))
def tinderref02_Parse.j1 : Nat → ByteArray → Int → Bool → Option (Int × Int)
  | 0, _, _, _ => none
  | k + 1, x0, x1, x6 => if x6 = true then (if 1 ≤ (x0.size : Int) then (tinderref02_Parse.j2 k (x0.extract 1 x0.size) x1 x6) else (none)) else (tinderref02_Parse.j2 k x0 x1 x6)
def tinderref02_Parse.j2 : Nat → ByteArray → Int → Bool → Option (Int × Int)
  | 0, _, _, _ => none
  | k + 1, x0, x1, x6 => if (x0.size : Int) = 0 then (some (0, 15)) else (tinderref02_Parse.l0 k x0 x1 x6 0 false 0)
def tinderref02_Parse.l0 : Nat → ByteArray → Int → Bool → Int → Bool → Int → Option (Int × Int)
  | 0, _, _, _, _, _, _ => none
  | k + 1, x0, x1, x6, x7, x8, x9 => if x9 < (x0.size : Int) then (if 0 ≤ x9 then ((tinderref02_Value.f k (bt x0 x9) x1).bind fun bt86001 => (if bt86001.2 = true then (if x8 = true then (tinderref02_Parse.l0 k x0 x1 x6 x7 x8 (wrap64 (x9 + 1))) else (tinderref02_Parse.l0 k x0 x1 x6 (IntKind.u64.wrap ((IntKind.u64.wrap (x7 * (IntKind.u64.wrap (x1)))) + (IntKind.u64.wrap (bt86001.1)))) (decide ((IntKind.u64.wrap ((IntKind.u64.wrap (x7 * (IntKind.u64.wrap (x1)))) + (IntKind.u64.wrap (bt86001.1)))) ≥ 4294967296)) (wrap64 (x9 + 1)))) else (some (0, 15)))) else (none)) else (if x8 = true then (some (0, 4)) else (if x6 = true then (some ((Int.tmod (IntKind.u64.wrap (4294967296 - x7)) 4294967296) % 4294967296, 0)) else (some ((x7) % 4294967296, 0))))
end
def tinderref02_Parse.f (k : Nat) (a0 : ByteArray) (a1 : Int) : Option (Int × Int) := if a1 < 2 then (tinderref02_Parse.j0 k a0 a1 true) else (tinderref02_Parse.j0 k a0 a1 (decide (a1 > 36)))

end Go.Proofs.YtnalcjgefbelnaaDoor.Q
end
section
namespace Go.Proofs.YtnalcjgefbelnaaDoor.Q
open Go.RowKit Go.Proofs.YtnalcjgefbelnaaDoorW.PrintWords Go.Proofs.YtnalcjgefbelnaaDoorW.PrintLast
/-- The place of a byte among all digits; 255: none. -/
def numF (c : Int) : Int := if 48 ≤ c ∧ c ≤ 57 then c - 48 else if 97 ≤ c ∧ c ≤ 122 then c - 87 else if 65 ≤ c ∧ c ≤ 90 then c - 55 else 255
def valF (c b : Int) : Int × Bool := if 2 ≤ b ∧ b ≤ 36 ∧ numF c < b then (numF c, true) else (0, false)
def smallF (c : Int) : Int := if 65 ≤ c ∧ c ≤ 90 then c + 32 else c
def digitsB : ByteArray := ⟨#[48, 49, 50, 51, 52, 53, 54, 55, 56, 57, 97, 98, 99, 100, 101, 102, 103, 104, 105, 106, 107, 108, 109, 110, 111, 112, 113, 114, 115, 116, 117, 118, 119, 120, 121, 122]⟩
theorem digits_all : ((List.range 36).all fun (j : Nat) => bt digitsB (j : Int) == if j < 10 then (j : Int) + 48 else (j : Int) + 87) = true := by kernel_rfl
theorem digits_at (i : Int) (h : 0 ≤ i ∧ i < 36) : bt digitsB i = if i < 10 then i + 48 else i + 87 := by
  have := List.all_eq_true.1 digits_all i.toNat (List.mem_range.2 (by omega))
  rw [beq_iff_eq] at this
  rw [show ((i.toNat : Nat) : Int) = i by omega] at this
  rw [this]
  by_cases h1 : i < 10
  · rw [if_pos h1, if_pos (by omega)]
  · rw [if_neg h1, if_neg (by omega)]
/-- A text's digits as a number; the mark: it is too great; none: a byte is no digit. -/
def parL (b : Int) : List Int → Int → Bool → Option (Int × Bool)
  | [], n, g => some (n, g)
  | c :: l, n, g => if (valF c b).2 = true then (if g = true then parL b l n true else parL b l (n * b + (valF c b).1) (decide (n * b + (valF c b).1 ≥ 4294967296))) else none
def resF (neg : Bool) : Option (Int × Bool) → Int × Int
  | none => (0, 15)
  | some (n, g) => if g = true then (0, 4) else (if neg = true then ((4294967296 - n) % 4294967296, 0) else (n, 0))
theorem wrap_u64_id (n : Int) (h0 : 0 ≤ n) (h1 : n < 18446744073709551616) : IntKind.u64.wrap n = n := by rw [IntKind.wrap_u64]; omega
/-- A text as a number in a base. -/
def parF (s : ByteArray) (b : Int) : Int × Int :=
  if 2 ≤ b ∧ b ≤ 36 then
    (if 0 < s.size ∧ bt s 0 = 45 then (if s.size = 1 then (0, 15) else resF true (parL b (bytesOf (s.extract 1 s.size)) 0 false))
     else (if s.size = 0 then (0, 15) else resF false (parL b (bytesOf s) 0 false)))
  else (0, 1)
end Go.Proofs.YtnalcjgefbelnaaDoor.Q
end
section
namespace Go.Proofs.YtnalcjgefbelnaaDoor.Q
open Go.RowKit Go.Proofs.YtnalcjgefbelnaaDoorW.PrintWords Go.Proofs.YtnalcjgefbelnaaDoorW.PrintLast Go.Proofs.YtnalcjgefbelnaaDoorW.PrintMore
def chN (v : Nat) : Nat := if v < 10 then 48 + v else 87 + v
def showL (b u : Nat) : List UInt8 := if _h : u < b ∨ b < 2 then [UInt8.ofNat (chN u)] else showL b (u / b) ++ [UInt8.ofNat (chN (u % b))]
termination_by u
decreasing_by exact Nat.div_lt_self (by omega) (by omega)
theorem showL_small {b u : Nat} (h : u < b) : showL b u = [UInt8.ofNat (chN u)] := by rw [showL, dif_pos (.inl h)]
theorem showL_big {b u : Nat} (hb : 2 ≤ b) (h : b ≤ u) : showL b u = showL b (u / b) ++ [UInt8.ofNat (chN (u % b))] := by rw [showL, dif_neg (by omega)]
theorem showL_len (b : Nat) (hb : 2 ≤ b) (k : Nat) : ∀ u : Nat, u < 2 ^ (k + 1) → (showL b u).length ≤ k + 1 := by
  induction k with
  | zero =>
    intro u hu
    rw [showL_small (by omega)]
    simp
  | succ k ih =>
    intro u hu
    by_cases h : u < b
    · rw [showL_small h]; simp
    · rw [showL_big hb (by omega), List.length_append]
      have h1 : u / b ≤ u / 2 := Nat.div_le_div_left hb (by omega)
      have h2 : u / 2 < 2 ^ (k + 1) := by
        rw [Nat.pow_succ] at hu
        omega
      have := ih (u / b) (by omega)
      simp
      omega
theorem showL_pos (b u : Nat) : 1 ≤ (showL b u).length := by
  rw [showL]
  split
  · simp
  · rw [List.length_append]; simp
theorem showL_one {b u : Nat} (hb : 2 ≤ b) (h : (showL b u).length = 1) : u < b := by
  rcases Nat.lt_or_ge u b with h1 | h1
  · exact h1
  · rw [showL_big hb h1, List.length_append] at h
    have := showL_pos b (u / b)
    rw [List.length_singleton] at h
    omega
theorem showL_more {b u k : Nat} (hb : 2 ≤ b) (h : (showL b u).length = k + 1 + 1) : b ≤ u ∧ (showL b (u / b)).length = k + 1 := by
  rcases Nat.lt_or_ge u b with h1 | h1
  · rw [showL_small h1] at h
    simp at h
  · refine ⟨h1, ?_⟩
    rw [showL_big hb h1, List.length_append] at h
    simpa using h
def showI (b u : Int) : List Int := (showL b.toNat u.toNat).map fun c => (c.toNat : Int)
def chI (v : Int) : Int := if v < 10 then v + 48 else v + 87
theorem ch_eq (v : Nat) (h : v < 36) : ((UInt8.ofNat (chN v)).toNat : Int) = chI v := by
  unfold chN chI
  by_cases h1 : v < 10
  · rw [if_pos h1, if_pos (by omega), UInt8.toNat_ofNat']
    omega
  · rw [if_neg h1, if_neg (by omega), UInt8.toNat_ofNat']
    omega
theorem showI_small {b u : Int} (h0 : 0 ≤ u) (h : u < b) (hb : b ≤ 36) : showI b u = [chI u] := by
  unfold showI
  rw [showL_small (by omega), List.map_singleton, ch_eq _ (by omega), Int.toNat_of_nonneg h0]
theorem showI_big {b u : Int} (hb : 2 ≤ b) (hb2 : b ≤ 36) (h : b ≤ u) : showI b u = showI b (u / b) ++ [chI (u % b)] := by
  unfold showI
  have e1 : (u / b).toNat = u.toNat / b.toNat := by
    obtain ⟨n, rfl⟩ := Int.eq_ofNat_of_zero_le (show 0 ≤ u by omega)
    obtain ⟨m, rfl⟩ := Int.eq_ofNat_of_zero_le (show 0 ≤ b by omega)
    rfl
  have e2 : ((u.toNat % b.toNat : Nat) : Int) = u % b := by
    rw [Int.natCast_emod, Int.toNat_of_nonneg (by omega), Int.toNat_of_nonneg (by omega)]
  rw [showL_big (by omega) (by omega), List.map_append, List.map_singleton, ch_eq _ (by have := Nat.mod_lt u.toNat (show 0 < b.toNat by omega); omega), e1, e2]
theorem digits_ch (v : Int) (h : 0 ≤ v ∧ v < 36) : bt digitsB v = chI v := digits_at v h
/-- A block of bytes as a row of the call's own. -/
theorem R_arr {W : World} {base g : Nat} {L : List Int} {t : TypeId} (h : W.heap[g]? = some (.cells (L.map (Value.int .u8)).toArray t (0, 0))) (hb : base ≤ g) (hl : L.length ≤ 9223372036854775807) :
    Kd.R (Kd.int .u8) t W base (fun _ => True) (.slice (some ⟨g, 0, none⟩) L.length L.length) L := by
  have e : (Kd.int .u8).sz = 1 := rfl
  refine ⟨fun _ _ => trivial, L.map (Value.int .u8), ⟨by rw [List.length_map, e, Nat.mul_one], .inr ⟨g, L.length, _, rfl, hb, h, Nat.le_refl _, hl, by rw [List.size_toArray, List.length_map, e, Nat.mul_one], ?_⟩⟩, reps_scalar_mk (enc := Value.int .u8) (R := (Kd.int .u8).M W base _) (fun _ => rfl) L⟩
  rw [e, Nat.mul_one]
  exact List.take_of_length_le (by rw [List.length_map]; exact Nat.le_refl _)
end Go.Proofs.YtnalcjgefbelnaaDoor.Q
end
section
namespace Go.Proofs.YtnalcjgefbelnaaDoor.Q
open Go.RowKit Go.Proofs.YtnalcjgefbelnaaDoorW.PrintWords Go.Proofs.YtnalcjgefbelnaaDoorW.PrintLast Go.Proofs.YtnalcjgefbelnaaDoorW.PrintMore
set_option linter.unusedVariables false
set_option linter.unusedSimpArgs false

attribute [local go_sem] max2_int min2_int max_two min_two max_three min_three max_four min_four
/-! ### strconv_isPowerOfTwo: function 108 -/
def strconv_isPowerOfTwo.f (a0 : Int) : Option (Bool) := some ((Go.bits .and .i64 a0 (wrap64 (a0 - 1))) == 0)
set_option maxHeartbeats 8000000 in
set_option maxRecDepth 100000 in
theorem strconv_isPowerOfTwo.calls (a0 : Int) (r : Bool) (w : World) (h : strconv_isPowerOfTwo.f a0 = some r) :
    Calls Tryd.prog 108 #[.int .i64 a0] w fun e w' => e = .returned (.bool r) ∧ Drawn0 w w' := by
  have H : (some ((Go.bits .and .i64 a0 (wrap64 (a0 - 1))) == 0)) = some r := h
  clear h
  obtain rfl := Option.some.inj H
  go_enter Tryd.func108, Tryd.ntmps108
  go_wp2
  go_ret
  exact ⟨by first | rfl | (simp; done) | (simp [*]; done), by repeat (first | exact Drawn0.refl _ | apply Drawn0.step)⟩

end Go.Proofs.YtnalcjgefbelnaaDoor.Q
end
section
namespace Go.Proofs.YtnalcjgefbelnaaDoor.Q
open Go.RowKit Go.Proofs.YtnalcjgefbelnaaDoorW.PrintWords Go.Proofs.YtnalcjgefbelnaaDoorW.PrintLast Go.Proofs.YtnalcjgefbelnaaDoorW.PrintMore
theorem digits_idx (v : Int) (h : 0 ≤ v ∧ v < 36) : ∀ hh : v.toNat < (⟨#[48, 49, 50, 51, 52, 53, 54, 55, 56, 57, 97, 98, 99, 100, 101, 102, 103, 104, 105, 106, 107, 108, 109, 110, 111, 112, 113, 114, 115, 116, 117, 118, 119, 120, 121, 122]⟩ : ByteArray).size, (((⟨#[48, 49, 50, 51, 52, 53, 54, 55, 56, 57, 97, 98, 99, 100, 101, 102, 103, 104, 105, 106, 107, 108, 109, 110, 111, 112, 113, 114, 115, 116, 117, 118, 119, 120, 121, 122]⟩ : ByteArray)[v.toNat]'hh).toNat : Int) = chI v := fun hh => (bt_at (⟨#[48, 49, 50, 51, 52, 53, 54, 55, 56, 57, 97, 98, 99, 100, 101, 102, 103, 104, 105, 106, 107, 108, 109, 110, 111, 112, 113, 114, 115, 116, 117, 118, 119, 120, 121, 122]⟩ : ByteArray) v hh).trans (digits_ch v h)
theorem drop_set_at (L : List Int) (j : Nat) (x : Int) (h : j < L.length) : (L.set j x).drop j = x :: L.drop (j + 1) := by
  rw [List.drop_eq_getElem_cons (by rw [List.length_set]; exact h), List.getElem_set_self, List.drop_set_of_lt (by omega)]
theorem slice_arr (gb : Nat) (j : Int) (h : 0 ≤ j ∧ j < 65) (W : World) : (Instr.sliceAt 135 (.pointer (some ⟨gb, 0, none⟩)) (some (.int .i64 j)) none none).run Tryd.prog W = .ok (.slice (some ⟨gb, j.toNat, none⟩) (65 - j.toNat) (65 - j.toNat)) W := by
  have hal : Tryd.prog.arrayLen 135 = 65 := by kernel_rfl
  have hel : Tryd.prog.elem 135 = 5 := by kernel_rfl
  rw [run_sliceAt_array_l W 135 ⟨gb, 0, none⟩ (by kernel_rfl) .i64 j h.1 (by rw [hal]; omega), hal, hel, run_size (sz := 1) (by kernel_rfl) W]
  show Result.ok (slicedAt ⟨gb, 0, none⟩ j.toNat 65 65 1) W = _
  unfold slicedAt
  rw [if_neg (by omega), Nat.mul_one, add_plain]
def Z65 : List Value := (List.replicate 65 (0 : Int)).map (Value.int .u8)
theorem and_mask (u : Int) (s : Nat) (h0 : 0 ≤ u) (h1 : u < 18446744073709551616 ∧ s < 8) : bits .and .u64 u (2 ^ s - 1 : Nat) = u % (2 ^ s : Nat) := by
  obtain ⟨n, rfl⟩ := Int.eq_ofNat_of_zero_le h0
  have h2 : 2 ^ s ≤ 2 ^ 8 := Nat.pow_le_pow_right (by decide) (by omega)
  rw [bits_and_u64_nat n (2 ^ s - 1) (by omega) (by omega), Nat.and_two_pow_sub_one_eq_mod]
  rfl
set_option maxRecDepth 100000 in
theorem tz64_16 (w : World) (ht : QB.Tabs w) : Calls Tryd.prog 111 #[.int .u64 16] w fun e w' => e = .returned (.int .i64 4) ∧ w' = w := by
  have hc : w.cell? ⟨3, 15, none⟩ = some (.int .u8 4) := ht.at_bits_deBruijn64tab 15 (by decide)
  have e1 : IntKind.u64.wrap (bits .and .u64 16 (IntKind.u64.wrap (-16)) * 285870213051353865) / 288230376151711744 = 15 := by kernel_rfl
  clear ht
  go_enter Tryd.func111, Tryd.ntmps111
  go_wp2
  go_ret
  exact ⟨rfl, rfl⟩
set_option maxRecDepth 100000 in
theorem tz_16 (w : World) (ht : QB.Tabs w) : Calls Tryd.prog 109 #[.int .u64 16] w fun e w' => e = .returned (.int .i64 4) ∧ Below w.heap.size w w' := by
  have HT := Aside0.mk ht
  clear ht
  go_enter Tryd.func109, Tryd.ntmps109
  go_wp2_with (first
    | (go_at_call 111; refine (tz64_16 _ HT.out).mono ?_; rintro e w1 ⟨rfl, rfl⟩))
  go_ret
  exact ⟨rfl, Below.refl _ _⟩
set_option maxHeartbeats 4000000 in
set_option maxRecDepth 100000 in
theorem formatBits_p16 (u0 : Int) (hu : 0 ≤ u0 ∧ u0 < 4294967296) (w : World) (ht : QB.Tabs w) :
    Calls Tryd.prog 103 #[.slice none 0 0, .int .u64 u0, .int .i64 16, .bool false, .bool false] w fun e w' => e = .returned (.tuple #[.slice none 0 0, .string (strOfNums (showI 16 u0))]) ∧ Below w.heap.size w w' := by
  have HP := Aside0.mk (show strconv_isPowerOfTwo.f 16 = some true by kernel_rfl)
  have HBb := Aside0.mk (show (2 : Int) ≤ 16 ∧ (16 : Int) ≤ 36 ∧ (16 : Int) ≠ 10 by decide)
  have HT := Aside0.mk ht
  have hb := HBb.out
  have HU := Aside0.mk hu
  have HB := Aside0.mk (Below.refl w.heap.size w)
  obtain ⟨Z, hZ⟩ : ∃ Z, Z = Z65 := ⟨_, rfl⟩
  have HZ := Aside0.mk hZ
  clear ht hb hu hZ
  go_enter Tryd.func103, Tryd.ntmps103
  go_wp2_with (first
    | ((with_reducible refine gate_dst (N := 12) rfl ?_); refine box_event ?hg (N := 12) ?hd (cs := Z.toArray) (t := 135) ?hr ?_; (case hd => rfl); (case hg => rfl); (case hr => have hZ2 := HZ.out; first | (go_simp; done) | (go_simp; rfl)); intro gb hg w2 hbox hb; have BK := Aside0.mk hbox; have GB := Aside0.mk (show w.heap.size ≤ gb from hg ▸ Nat.le_refl _); have HB1 := Aside0.mk hb; clear hbox hb hg HB)
    | (go_at_call 108; refine (strconv_isPowerOfTwo.calls _ _ _ HP.out).mono ?_; rintro e w3 ⟨rfl, hd⟩; have HB3 := Aside0.mk (below_step HB1.out hd.below); have BK3 := Aside0.mk (blk_below BK.out hd.below); clear hd BK HB1)
    | (go_at_call 109; refine (tz_16 _ (HT.out.below HB3.out)).mono ?_; rintro e w4 ⟨rfl, hd⟩; have HB2 := Aside0.mk (below_step HB3.out hd); have BK2 := Aside0.mk (blk_below BK3.out hd); clear hd BK3 HB3))
  have HR := Aside0.mk (show Kd.R (Kd.int .u8) 135 _ w.heap.size (fun _ => True) (.slice (some ⟨gb, 0, none⟩) 65 65) (List.replicate 65 (0 : Int)) from by
    have h := BK2.out
    rw [HZ.out] at h
    exact R_arr (L := List.replicate 65 (0 : Int)) h GB.out (by decide))
  obtain ⟨n0, hn0⟩ : ∃ n0, n0 = (showL (16 : Int).toNat u0.toNat).length := ⟨_, rfl⟩
  have hn1 : 1 ≤ n0 ∧ n0 ≤ 32 := by
    have h1 := HU.out
    have h2 := HBb.out
    rw [hn0]
    exact ⟨showL_pos _ _, showL_len (16 : Int).toNat (by omega) 31 u0.toNat (by omega)⟩
  have HN0 := Aside0.mk hn0
  clear BK2 hn0
  go_loopg [1, 13] n0 (fun kq v1 v13 w' => ∃ (u i : Int) (L : List Int), v1 = .int .u64 u ∧ v13 = .int .i64 i ∧ Aside0 (0 ≤ u ∧ u < 4294967296 ∧ (showL (16 : Int).toNat u.toNat).length = kq ∧ kq ≤ n0 ∧ i = 65 - (n0 - kq) ∧ L.length = 65) ∧ Aside0 (showI 16 u ++ L.drop i.toNat = showI 16 u0) ∧ Aside0 (Kd.R (Kd.int .u8) 135 w' w.heap.size (fun _ => True) (.slice (some ⟨gb, 0, none⟩) 65 65) L) ∧ Aside0 (Below w.heap.size w w'))
  case atStart =>
    have h1 := HU.out
    exact ⟨u0, 65, _, rfl, rfl, ⟨h1.1, h1.2, HN0.out.symm, Nat.le_refl _, by omega, by simp⟩, ⟨by simp⟩, HR, HB2⟩
  case round =>
    clear HR HB2
    obtain ⟨u, i, L, rfl, rfl, HI, HS, HR, HB2⟩ := hrel
    have h7 := HBb.out
    by_cases hlt : 16 ≤ u
    · have d4 : decide (16 ≤ u) = true := decide_eq_true hlt
      obtain ⟨h1, h2, h3, h4, h5, h6⟩ := HI.out
      cases gk with
      | zero => exact absurd h3 (by have := showL_pos (16 : Int).toNat u.toNat; omega)
      | succ k1 =>
      cases k1 with
      | zero => exact absurd (showL_one (by omega) h3) (by omega)
      | succ k2 =>
      obtain ⟨h8, h9⟩ := showL_more (show 2 ≤ (16 : Int).toNat by omega) h3
      have hbig := showI_big h7.1 h7.2.1 hlt
      have hdm := Int.mul_ediv_add_emod u 16
      have hm0 := Int.emod_nonneg u (show (16 : Int) ≠ 0 by omega)
      have hm1 := Int.emod_lt_of_pos u (show (0 : Int) < 16 by omega)
      have hq0 : 0 ≤ u / 16 := Int.ediv_nonneg h1 (by omega)
      have hq1 : u / 16 ≤ u := Int.ediv_le_self _ h1
      have hqn : (u / 16).toNat = u.toNat / (16 : Int).toNat := by
        obtain ⟨n, rfl⟩ := Int.eq_ofNat_of_zero_le h1
        rfl
      rw [← hqn] at h9
      obtain ⟨q, hq⟩ : ∃ q : Int, q = u / 16 := ⟨_, rfl⟩
      obtain ⟨r, hr⟩ : ∃ r : Int, r = u % 16 := ⟨_, rfl⟩
      rw [← hq] at hbig hdm hq0 hq1 h9
      rw [← hr] at hbig hdm hm0 hm1
      obtain ⟨j, hj⟩ : ∃ j : Int, j = i - 1 := ⟨_, rfl⟩
      have hj2 : 0 ≤ j ∧ j < 65 := by omega
      have e1 : wrap64 (i - 1) = j := by unfold wrap64; omega
      have e2 : bits .and .u64 u 15 = r := by rw [hr]; exact and_mask u 4 h1 (by omega)
      have e3 : u / 16 = q := hq.symm
      obtain ⟨hx, hf⟩ := Kd.R_celln 0 HR.out j (by omega) (by omega)
      have hdg := digits_idx r (by omega)
      have p1 : (0 ≤ r) = True := eq_true hm0
      have p2 : (r < 36) = True := eq_true (by omega)
      have p3 : (0 ≤ j) = True := eq_true hj2.1
      have p4 : (j < 65) = True := eq_true hj2.2
      have HJ := Aside0.mk hj
      have HJ2 := Aside0.mk hj2
      have HBIG := Aside0.mk hbig
      have HQ := Aside0.mk (show 0 ≤ q ∧ q < 4294967296 from ⟨hq0, by omega⟩)
      have H9 := Aside0.mk h9
      have HP2 := Aside0.mk (Kd.R_putn HR.out j (chI r))
      clear hj hj2 hlt h1 h2 h3 h4 h5 h6 h7 h8 h9 hbig hdm hm0 hm1 hq0 hq1 hqn hq hr
      go_wp2
      go_roundg (k2 + 1)
      case measure => omega
      case rel =>
        have hi := HI.out
        have hj := HJ.out
        have hj2 := HJ2.out
        refine ⟨q, j, L.set j.toNat (chI r), rfl, rfl, ⟨HQ.out.1, HQ.out.2, H9.out, by omega, by omega, by rw [List.length_set]; exact hi.2.2.2.2.2⟩, ⟨?_⟩, ⟨HP2.out⟩, ⟨below_set HB2.out GB.out⟩⟩
        rw [drop_set_at L j.toNat (chI r) (by omega), show j.toNat + 1 = i.toNat by omega, ← HS.out, HBIG.out, List.append_assoc]
        rfl
    · have d4 : decide (16 ≤ u) = false := decide_eq_false hlt
      obtain ⟨j, hj⟩ : ∃ j : Int, j = i - 1 := ⟨_, rfl⟩
      have hj2 : 0 ≤ j ∧ j < 65 := by have := HI.out; omega
      have e1 : wrap64 (i - 1) = j := by unfold wrap64; omega
      obtain ⟨hx, hf⟩ := Kd.R_celln 0 HR.out j (by omega) (by omega)
      have hu1 := HI.out.1
      have hdg := digits_idx u (by omega)
      have p1 : (0 ≤ u) = True := eq_true hu1
      have p2 : (u < 36) = True := eq_true (by omega)
      have p3 : (0 ≤ j) = True := eq_true hj2.1
      have p4 : (j < 65) = True := eq_true hj2.2
      have HJ := Aside0.mk hj
      have HJ2 := Aside0.mk hj2
      have HLT := Aside0.mk hlt
      clear hj hj2 hlt hu1 h7
      have HP2 := Aside0.mk (Kd.R_putn HR.out j (chI u))
      have hsl : ∀ W, (Instr.sliceAt 135 (.pointer (some ⟨gb, 0, none⟩)) (some (.int .i64 j)) none none).run Tryd.prog W = .ok (.slice (some ⟨gb, j.toNat, none⟩) (65 - j.toNat) (65 - j.toNat)) W := fun W => slice_arr gb j HJ2.out W
      have hcv : (convert 28 9 (.slice (some ⟨gb, j.toNat, none⟩) (65 - j.toNat) (65 - j.toNat))).run Tryd.prog (wr.setCell ⟨gb, j.toNat, none⟩ (.int .u8 (chI u))) = .ok (.string (strOfNums (showI 16 u0))) (wr.setCell ⟨gb, j.toNat, none⟩ (.int .u8 (chI u))) := by
        have hi := HI.out
        have hj := HJ.out
        have hj2 := HJ2.out
        have h7 := HBb.out
        have h := C_cut (Kd.R_reads' HP2.out).2.2 (c := 65) (by rw [List.length_set]; omega) j.toNat (65 - j.toNat) (by rw [List.length_set]; omega)
        rw [cutAt_own (show j.toNat < 65 by omega)] at h
        have h' : Kd.C (Kd.int .u8) (wr.setCell ⟨gb, j.toNat, none⟩ (.int .u8 (chI u))) (some ⟨gb, j.toNat * 1, none⟩) (65 - j.toNat) (((L.set j.toNat (chI u)).drop j.toNat).take (65 - j.toNat)) := h
        rw [Nat.mul_one] at h'
        have h2 := Kd.C_string (src := 28) (dst := 9) (c := 65 - j.toNat) Tryd.underlying28 Tryd.underlying5 Tryd.underlying9 h'
        rw [h2, List.take_of_length_le (by rw [List.length_drop, List.length_set]; omega), drop_set_at L j.toNat (chI u) (by omega), show j.toNat + 1 = i.toNat by omega, ← HS.out, showI_small hi.1 (Int.lt_of_not_ge HLT.out) h7.2.1]
        rfl
      go_wp2
      go_ret2
      exact ⟨rfl, below_set HB2.out GB.out⟩
end Go.Proofs.YtnalcjgefbelnaaDoor.Q
end
section
namespace Go.Proofs.YtnalcjgefbelnaaDoor.Q
open Go.RowKit Go.Proofs.YtnalcjgefbelnaaDoorW.PrintWords Go.Proofs.YtnalcjgefbelnaaDoorW.PrintLast Go.Proofs.YtnalcjgefbelnaaDoorW.PrintMore
def showB (b u : Int) : ByteArray := ⟨(showL b.toNat u.toNat).toArray⟩
theorem str_showI (b u : Int) : strOfNums (showI b u) = showB b u := by
  unfold strOfNums showI showB
  rw [List.map_map]
  congr 2
  conv => rhs; rw [← List.map_id (showL b.toNat u.toNat)]
  apply List.map_congr_left
  intro c _
  exact UInt8.toNat_inj.1 (by simp)
set_option maxHeartbeats 1000000 in
set_option maxRecDepth 100000 in
theorem formatUint_16 (u : Int) (hu : 0 ≤ u ∧ u < 4294967296) (w : World) (ht : QB.Tabs w) :
    Calls Tryd.prog 96 #[.int .u64 u, .int .i64 16] w fun e w' => e = .returned (.string (showB 16 u)) ∧ Below w.heap.size w w' := by
  have HC := Aside0.mk (formatBits_p16 u hu w ht)
  rw [str_showI] at HC
  clear ht hu
  go_enter Tryd.func96, Tryd.ntmps96
  go_wp2_with (first
    | (go_at_call 103; (with_reducible refine HC.out.mono ?_); rintro e w1 ⟨rfl, hb⟩; have HB := Aside0.mk hb; clear hb))
  go_ret
  exact ⟨rfl, HB.out⟩
set_option maxHeartbeats 1000000 in
set_option maxRecDepth 100000 in
theorem formatUintO_16 (u : Int) (hu : 0 ≤ u ∧ u < 4294967296) (w : World) (ht : QB.Tabs w) :
    Calls Tryd.prog 90 #[.int .u64 u, .int .i64 16] w fun e w' => e = .returned (.string (showB 16 u)) ∧ Below w.heap.size w w' := by
  have HC := Aside0.mk (formatUint_16 u hu w ht)
  clear ht hu
  go_enter Tryd.func90, Tryd.ntmps90
  go_wp2_with (first
    | (go_at_call 96; (with_reducible refine HC.out.mono ?_); rintro e w1 ⟨rfl, hb⟩; have HB := Aside0.mk hb; clear hb))
  go_ret
  exact ⟨rfl, HB.out⟩
set_option maxHeartbeats 1000000 in
set_option maxRecDepth 100000 in
theorem show16 (n : Int) (hn : 0 ≤ n ∧ n < 4294967296) (w : World) (ht : QB.Tabs w) :
    Calls Tryd.prog 82 #[.int .u32 n, .int .u32 16] w fun e w' => e = .returned (.tuple #[.string (showB 16 n), .int .i64 0]) ∧ Below w.heap.size w w' := by
  have HU := Aside0.mk (fun (W : World) (hT : QB.Tabs W) => formatUintO_16 n hn W hT)
  have HF := Aside0.mk (show digit_fit.f 16 = some true by kernel_rfl)
  have HT := Aside0.mk ht
  have e1 : IntKind.u64.wrap n = n := wrap_u64_id n hn.1 (by omega)
  clear hn ht
  go_enter Tryd.func82, Tryd.ntmps82
  go_wp2_with (first
    | (go_at_call 89; (with_reducible refine (digit_fit.calls _ _ _ HF.out).mono ?_); rintro e w1 ⟨rfl, hd⟩; have HB1 := Aside0.mk hd.below; have HT1 := Aside0.mk (HT.out.below hd.below); clear hd)
    | (go_at_call 90; (with_reducible refine (HU.out _ HT1.out).mono ?_); rintro e w2 ⟨rfl, hb⟩; have HB2 := Aside0.mk (below_step HB1.out hb); clear hb))
  go_ret2
  exact ⟨rfl, HB2.out⟩
def digit_Show.f (n b : Int) : Option (ByteArray × Int) := if (0 ≤ n ∧ n < 4294967296) ∧ b = 16 then some (showB 16 n, 0) else none
theorem digit_Show.calls (a0 : Int) (a1 : Int) (r1 : ByteArray) (r2 : Int) (w : World) (ht : QB.Tabs w) (h : digit_Show.f a0 a1 = some (r1, r2)) :
    Calls Tryd.prog 82 #[.int .u32 a0, .int .u32 a1] w fun e w' => e = .returned (.tuple #[.string r1, .int .i64 r2]) ∧ Below w.heap.size w w' := by
  unfold digit_Show.f at h
  split at h
  case isFalse => cases h
  rename_i hn
  obtain ⟨rfl, rfl⟩ := Prod.mk.inj (Option.some.inj h)
  obtain ⟨hn, rfl⟩ := hn
  exact show16 a0 hn w ht
end Go.Proofs.YtnalcjgefbelnaaDoor.Q
end
