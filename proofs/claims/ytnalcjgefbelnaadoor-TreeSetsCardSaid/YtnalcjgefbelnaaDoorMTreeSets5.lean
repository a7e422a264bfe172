/- Contracts of Go functions and plain facts, of several texts, one behind the other; no condition. -/
import Derived.Test.YtnalcjgefbelnaaDoorMTreeSets2
import Derived.Test.YtnalcjgefbelnaaDoorMTreeSets3
import Derived.Test.YtnalcjgefbelnaaDoorMTreeSets4
section
namespace Go.Proofs.YtnalcjgefbelnaaDoor.Q
open Go.RowKit Go.Proofs.YtnalcjgefbelnaaDoorW.PrintWords Go.Proofs.YtnalcjgefbelnaaDoorW.PrintLast Go.Proofs.YtnalcjgefbelnaaDoorW.PrintMore
set_option linter.unusedVariables false
set_option linter.unusedSimpArgs false

attribute [local go_sem] max2_int min2_int max_two min_two max_three min_three max_four min_four
/-! ### tinderref04_Same: function 31 -/
def tinderref04_Same.f (l0 : List Int) (l1 : List Int) : Option (Bool) := some ((strOfNums l0).toList == (strOfNums l1).toList)
set_option maxHeartbeats 8000000 in
set_option maxRecDepth 100000 in
theorem tinderref04_Same.calls (A0 : Option Addr) (c0 : Nat) (l0 : List Int) (A1 : Option Addr) (c1 : Nat) (l1 : List Int) (r : Bool) (w : World) (hr0 : Kd.C (Kd.int .u8) w A0 l0.length l0) (hc0 : l0.length ≤ c0) (hr1 : Kd.C (Kd.int .u8) w A1 l1.length l1) (hc1 : l1.length ≤ c1) (h : tinderref04_Same.f l0 l1 = some r) :
  Calls Tryd.prog 31 #[.slice A0 l0.length c0, .slice A1 l1.length c1] w fun e w' => e = .returned (.bool r) ∧ Drawn0 w w' := by
 have HR0 := Aside0.mk hr0
 have HC0 := Aside0.mk hc0
 clear hr0 hc0
 have HR1 := Aside0.mk hr1
 have HC1 := Aside0.mk hc1
 clear hr1 hc1
 have H : (some ((strOfNums l0).toList == (strOfNums l1).toList)) = some r := h
 clear h
 obtain rfl := Option.some.inj H
 have hcv3 := Kd.C_string (P := Tryd.prog) (A := A0) (c := c0) Tryd.underlying28 Tryd.underlying5 Tryd.underlying9 HR0.out
 have hcv4 := Kd.C_string (P := Tryd.prog) (A := A1) (c := c1) Tryd.underlying28 Tryd.underlying5 Tryd.underlying9 HR1.out
 go_enter Tryd.func31, Tryd.ntmps31
 go_wp2
 go_ret
 exact ⟨by first | rfl | (simp; done) | (simp [*]; done), by repeat (first | exact Drawn0.refl _ | apply Drawn0.step)⟩

end Go.Proofs.YtnalcjgefbelnaaDoor.Q
end
section
namespace Go.Proofs.YtnalcjgefbelnaaDoor.Q
open Go.RowKit Go.Proofs.YtnalcjgefbelnaaDoorW.PrintWords Go.Proofs.YtnalcjgefbelnaaDoorW.PrintLast Go.Proofs.YtnalcjgefbelnaaDoorW.PrintMore
set_option linter.unusedVariables false
set_option linter.unusedSimpArgs false

attribute [local go_sem] max2_int min2_int max_two min_two max_three min_three max_four min_four
/-! ### tinderref08_SameNode: function 39 -/
mutual
def tinderref08_SameNode.j0 : Nat → Bool → ByteArray → List Int → Int → List (S53) → List Int → ByteArray → List Int → Int → List (S53) → List Int → Option (Bool)
 | 0, _, _, _, _, _, _, _, _, _, _, _ => none
 | k + 1, x42, x40002000, x40002001, x40002002, x40002003, x40002004, x40003000, x40003001, x40003002, x40003003, x40003004 => if x42 = true then (some false) else (tinderref08_SameNode.l0 k 0 x40002000 x40002001 x40002002 x40002003 x40002004 x40003000 x40003001 x40003002 x40003003 x40003004)
def tinderref08_SameNode.l0 : Nat → Int → ByteArray → List Int → Int → List (S53) → List Int → ByteArray → List Int → Int → List (S53) → List Int → Option (Bool)
 | 0, _, _, _, _, _, _, _, _, _, _, _ => none
 | k + 1, x5, x40002000, x40002001, x40002002, x40002003, x40002004, x40003000, x40003001, x40003002, x40003003, x40003004 => if x5 < (x40002003.length : Int) then (if 0 ≤ x5 then (if x5 < (x40003003.length : Int) then (if ((rd_T53 x40002003 x5).f0).toList = ((rd_T53 x40003003 x5).f0).toList then ((tinderref04_Same.f ((rd_T53 x40002003 x5).f1) ((rd_T53 x40003003 x5).f1)).bind fun t40009 => (if t40009 = true then (tinderref08_SameNode.l0 k (wrap64 (x5 + 1)) x40002000 x40002001 x40002002 x40002003 x40002004 x40003000 x40003001 x40003002 x40003003 x40003004) else (some false))) else (some false)) else (none)) else (none)) else (some true)
end
def tinderref08_SameNode.f (k : Nat) (a0_0 : ByteArray) (l0_1 : List Int) (a0_2 : Int) (l0_3 : List (S53)) (l0_4 : List Int) (a1_0 : ByteArray) (l1_1 : List Int) (a1_2 : Int) (l1_3 : List (S53)) (l1_4 : List Int) : Option (Bool) := if a0_0.toList = a1_0.toList then (if a0_2 = a1_2 then ((tinderref03_Same.f k l0_1 l1_1).bind fun t40003 => (if t40003 = true then ((tinderref03_Same.f k l0_4 l1_4).bind fun t40004 => (if t40004 = true then (tinderref08_SameNode.j0 k ((l0_3.length : Int) != (l1_3.length : Int)) a0_0 l0_1 a0_2 l0_3 l0_4 a1_0 l1_1 a1_2 l1_3 l1_4) else (tinderref08_SameNode.j0 k true a0_0 l0_1 a0_2 l0_3 l0_4 a1_0 l1_1 a1_2 l1_3 l1_4))) else (tinderref08_SameNode.j0 k true a0_0 l0_1 a0_2 l0_3 l0_4 a1_0 l1_1 a1_2 l1_3 l1_4))) else (tinderref08_SameNode.j0 k true a0_0 l0_1 a0_2 l0_3 l0_4 a1_0 l1_1 a1_2 l1_3 l1_4)) else (tinderref08_SameNode.j0 k true a0_0 l0_1 a0_2 l0_3 l0_4 a1_0 l1_1 a1_2 l1_3 l1_4)
set_option maxHeartbeats 8000000 in
set_option maxRecDepth 100000 in
theorem tinderref08_SameNode.calls (k : Nat) (a0_0 : ByteArray) (A0_1 : Option Addr) (c0_1 : Nat) (l0_1 : List Int) (a0_2 : Int) (A0_3 : Option Addr) (c0_3 : Nat) (l0_3 : List (S53)) (A0_4 : Option Addr) (c0_4 : Nat) (l0_4 : List Int) (a1_0 : ByteArray) (A1_1 : Option Addr) (c1_1 : Nat) (l1_1 : List Int) (a1_2 : Int) (A1_3 : Option Addr) (c1_3 : Nat) (l1_3 : List (S53)) (A1_4 : Option Addr) (c1_4 : Nat) (l1_4 : List Int) (r : Bool) (w : World) (hr0_1 : Kd.C (Kd.int .u32) w A0_1 l0_1.length l0_1) (hc0_1 : l0_1.length ≤ c0_1) (hr0_3 : Kd.C k53 w A0_3 l0_3.length l0_3) (hc0_3 : l0_3.length ≤ c0_3) (hr0_4 : Kd.C (Kd.int .u32) w A0_4 l0_4.length l0_4) (hc0_4 : l0_4.length ≤ c0_4) (hr1_1 : Kd.C (Kd.int .u32) w A1_1 l1_1.length l1_1) (hc1_1 : l1_1.length ≤ c1_1) (hr1_3 : Kd.C k53 w A1_3 l1_3.length l1_3) (hc1_3 : l1_3.length ≤ c1_3) (hr1_4 : Kd.C (Kd.int .u32) w A1_4 l1_4.length l1_4) (hc1_4 : l1_4.length ≤ c1_4) (h : tinderref08_SameNode.f k a0_0 l0_1 a0_2 l0_3 l0_4 a1_0 l1_1 a1_2 l1_3 l1_4 = some r) :
  Calls Tryd.prog 39 #[.agg #[.string a0_0, .slice A0_1 l0_1.length c0_1, .int .i64 a0_2, .slice A0_3 l0_3.length c0_3, .slice A0_4 l0_4.length c0_4], .agg #[.string a1_0, .slice A1_1 l1_1.length c1_1, .int .i64 a1_2, .slice A1_3 l1_3.length c1_3, .slice A1_4 l1_4.length c1_4]] w fun e w' => e = .returned (.bool r) ∧ Below w.heap.size w w' := by
 have hu44 := Tryd.underlying44
 have HR0_1 := Aside0.mk hr0_1
 have HC0_1 := Aside0.mk hc0_1
 clear hr0_1 hc0_1
 have HR0_3 := Aside0.mk hr0_3
 have HC0_3 := Aside0.mk hc0_3
 clear hr0_3 hc0_3
 have HR0_4 := Aside0.mk hr0_4
 have HC0_4 := Aside0.mk hc0_4
 clear hr0_4 hc0_4
 have HR1_1 := Aside0.mk hr1_1
 have HC1_1 := Aside0.mk hc1_1
 clear hr1_1 hc1_1
 have HR1_3 := Aside0.mk hr1_3
 have HC1_3 := Aside0.mk hc1_3
 clear hr1_3 hc1_3
 have HR1_4 := Aside0.mk hr1_4
 have HC1_4 := Aside0.mk hc1_4
 clear hr1_4 hc1_4
 have HB := Aside0.mk (Below.refl w.heap.size w)
 have H : (if a0_0.toList = a1_0.toList then (if a0_2 = a1_2 then ((tinderref03_Same.f k l0_1 l1_1).bind fun t003 => (if t003 = true then ((tinderref03_Same.f k l0_4 l1_4).bind fun t004 => (if t004 = true then (tinderref08_SameNode.j0 k ((l0_3.length : Int) != (l1_3.length : Int)) a0_0 l0_1 a0_2 l0_3 l0_4 a1_0 l1_1 a1_2 l1_3 l1_4) else (tinderref08_SameNode.j0 k true a0_0 l0_1 a0_2 l0_3 l0_4 a1_0 l1_1 a1_2 l1_3 l1_4))) else (tinderref08_SameNode.j0 k true a0_0 l0_1 a0_2 l0_3 l0_4 a1_0 l1_1 a1_2 l1_3 l1_4))) else (tinderref08_SameNode.j0 k true a0_0 l0_1 a0_2 l0_3 l0_4 a1_0 l1_1 a1_2 l1_3 l1_4)) else (tinderref08_SameNode.j0 k true a0_0 l0_1 a0_2 l0_3 l0_4 a1_0 l1_1 a1_2 l1_3 l1_4)) = some r := h
 clear h
 have HC3 := Aside0.mk H
 clear H
 go_enter Tryd.func39, Tryd.ntmps39
 go_upto_region 1 with (first | ((with_reducible refine gate_dst (N := 2) rfl ?_); (try (refine gate_guard (by rfl) ?_; dsimp only)); refine box_event ?hg (N := 2) ?hd (cs := #[.string a0_0, .slice A0_1 l0_1.length c0_1, .int .i64 a0_2, .slice A0_3 l0_3.length c0_3, .slice A0_4 l0_4.length c0_4]) (t := 44) ?hr ?_; (case hd => rfl); (case hg => rfl); (case hr => first | (go_simp; done) | (go_simp; rfl)); intro gb001 hg w4 hbox hb; have n0_ := Aside0.mk (below_step (by repeat (first | (with_reducible first | exact HB.out | apply below_alloc | apply pw_below_drewN | apply below_drew1) | exact HB.out)) hb); have n1_ := Aside0.mk (hbox); have n2_ := Aside0.mk ((by rw [hg]; exact (below_size (by repeat (first | (with_reducible first | exact HB.out | apply below_alloc | apply pw_below_drewN | apply below_drew1) | exact HB.out))) : w.heap.size ≤ gb001)); have n3_ := Aside0.mk ((by rw [hg]; exact (below_size (by repeat (first | (with_reducible first | exact HB.out | apply below_alloc | apply pw_below_drewN | apply below_drew1) | exact HB.out))) : w.heap.size ≤ gb001)); clear HB; have HB := n0_; have BK001 := n1_; have GW001 := n2_; have GE001 := n3_; clear n0_ n1_ n2_ n3_; clear hb hbox hg) | ((with_reducible refine gate_dst (N := 3) rfl ?_); (try (refine gate_guard (by rfl) ?_; dsimp only)); refine box_event ?hg (N := 3) ?hd (cs := #[.string a1_0, .slice A1_1 l1_1.length c1_1, .int .i64 a1_2, .slice A1_3 l1_3.length c1_3, .slice A1_4 l1_4.length c1_4]) (t := 44) ?hr ?_; (case hd => rfl); (case hg => rfl); (case hr => first | (go_simp; done) | (go_simp; rfl)); intro gb002 hg w5 hbox hb; have n0_ := Aside0.mk (blk_below (g := gb001) (o := .cells #[.string a0_0, .slice A0_1 l0_1.length c0_1, .int .i64 a0_2, .slice A0_3 l0_3.length c0_3, .slice A0_4 l0_4.length c0_4] 44 (0, 0)) (by (with_reducible repeat (first | refine blk_drewN ?_ _ | refine blk_drew ?_ | refine blk_alloc ?_ _)); exact BK001.out) hb); have n1_ := Aside0.mk (below_step (by repeat (first | (with_reducible first | exact HB.out | apply below_alloc | apply pw_below_drewN | apply below_drew1 | refine below_set ?_ GE001.out) | exact HB.out)) hb); have n2_ := Aside0.mk (hbox); have n3_ := Aside0.mk ((by rw [hg]; exact (below_size (by repeat (first | (with_reducible first | exact HB.out | apply below_alloc | apply pw_below_drewN | apply below_drew1 | refine below_set ?_ GE001.out) | exact HB.out))) : w.heap.size ≤ gb002)); have n4_ := Aside0.mk ((by rw [hg]; exact (below_size (by repeat (first | (with_reducible first | exact HB.out | apply below_alloc | apply pw_below_drewN | apply below_drew1 | refine below_set ?_ GE001.out) | exact HB.out))) : w.heap.size ≤ gb002)); have n5_ := Aside0.mk ((by rw [hg]; exact Nat.ne_of_lt (blk_lt (g := gb001) (o := .cells #[.string a0_0, .slice A0_1 l0_1.length c0_1, .int .i64 a0_2, .slice A0_3 l0_3.length c0_3, .slice A0_4 l0_4.length c0_4] 44 (0, 0)) (by (with_reducible repeat (first | refine blk_drewN ?_ _ | refine blk_drew ?_ | refine blk_alloc ?_ _)); exact BK001.out)) : gb001 ≠ gb002)); have n6_ := Aside0.mk ((by rw [hg]; exact Nat.ne_of_gt (blk_lt (g := gb001) (o := .cells #[.string a0_0, .slice A0_1 l0_1.length c0_1, .int .i64 a0_2, .slice A0_3 l0_3.length c0_3, .slice A0_4 l0_4.length c0_4] 44 (0, 0)) (by (with_reducible repeat (first | refine blk_drewN ?_ _ | refine blk_drew ?_ | refine blk_alloc ?_ _)); exact BK001.out)) : gb002 ≠ gb001)); clear BK001; clear HB; have BK001 := n0_; have HB := n1_; have BK002 := n2_; have GW002 := n3_; have GE002 := n4_; have NB001_40002 := n5_; have NB002_40001 := n6_; clear n0_ n1_ n2_ n3_ n4_ n5_ n6_; clear hb hbox hg))
 repeat (go_quiet (first | ((with_reducible refine gate_dst (N := 2) rfl ?_); (try (refine gate_guard (by rfl) ?_; dsimp only)); refine box_event ?hg (N := 2) ?hd (cs := #[.string a0_0, .slice A0_1 l0_1.length c0_1, .int .i64 a0_2, .slice A0_3 l0_3.length c0_3, .slice A0_4 l0_4.length c0_4]) (t := 44) ?hr ?_; (case hd => rfl); (case hg => rfl); (case hr => first | (go_simp; done) | (go_simp; rfl)); intro gb001 hg w4 hbox hb; have n0_ := Aside0.mk (below_step (by repeat (first | (with_reducible first | exact HB.out | apply below_alloc | apply pw_below_drewN | apply below_drew1) | exact HB.out)) hb); have n1_ := Aside0.mk (hbox); have n2_ := Aside0.mk ((by rw [hg]; exact (below_size (by repeat (first | (with_reducible first | exact HB.out | apply below_alloc | apply pw_below_drewN | apply below_drew1) | exact HB.out))) : w.heap.size ≤ gb001)); have n3_ := Aside0.mk ((by rw [hg]; exact (below_size (by repeat (first | (with_reducible first | exact HB.out | apply below_alloc | apply pw_below_drewN | apply below_drew1) | exact HB.out))) : w.heap.size ≤ gb001)); clear HB; have HB := n0_; have BK001 := n1_; have GW001 := n2_; have GE001 := n3_; clear n0_ n1_ n2_ n3_; clear hb hbox hg) | ((with_reducible refine gate_dst (N := 3) rfl ?_); (try (refine gate_guard (by rfl) ?_; dsimp only)); refine box_event ?hg (N := 3) ?hd (cs := #[.string a1_0, .slice A1_1 l1_1.length c1_1, .int .i64 a1_2, .slice A1_3 l1_3.length c1_3, .slice A1_4 l1_4.length c1_4]) (t := 44) ?hr ?_; (case hd => rfl); (case hg => rfl); (case hr => first | (go_simp; done) | (go_simp; rfl)); intro gb002 hg w5 hbox hb; have n0_ := Aside0.mk (blk_below (g := gb001) (o := .cells #[.string a0_0, .slice A0_1 l0_1.length c0_1, .int .i64 a0_2, .slice A0_3 l0_3.length c0_3, .slice A0_4 l0_4.length c0_4] 44 (0, 0)) (by (with_reducible repeat (first | refine blk_drewN ?_ _ | refine blk_drew ?_ | refine blk_alloc ?_ _)); exact BK001.out) hb); have n1_ := Aside0.mk (below_step (by repeat (first | (with_reducible first | exact HB.out | apply below_alloc | apply pw_below_drewN | apply below_drew1 | refine below_set ?_ GE001.out) | exact HB.out)) hb); have n2_ := Aside0.mk (hbox); have n3_ := Aside0.mk ((by rw [hg]; exact (below_size (by repeat (first | (with_reducible first | exact HB.out | apply below_alloc | apply pw_below_drewN | apply below_drew1 | refine below_set ?_ GE001.out) | exact HB.out))) : w.heap.size ≤ gb002)); have n4_ := Aside0.mk ((by rw [hg]; exact (below_size (by repeat (first | (with_reducible first | exact HB.out | apply below_alloc | apply pw_below_drewN | apply below_drew1 | refine below_set ?_ GE001.out) | exact HB.out))) : w.heap.size ≤ gb002)); have n5_ := Aside0.mk ((by rw [hg]; exact Nat.ne_of_lt (blk_lt (g := gb001) (o := .cells #[.string a0_0, .slice A0_1 l0_1.length c0_1, .int .i64 a0_2, .slice A0_3 l0_3.length c0_3, .slice A0_4 l0_4.length c0_4] 44 (0, 0)) (by (with_reducible repeat (first | refine blk_drewN ?_ _ | refine blk_drew ?_ | refine blk_alloc ?_ _)); exact BK001.out)) : gb001 ≠ gb002)); have n6_ := Aside0.mk ((by rw [hg]; exact Nat.ne_of_gt (blk_lt (g := gb001) (o := .cells #[.string a0_0, .slice A0_1 l0_1.length c0_1, .int .i64 a0_2, .slice A0_3 l0_3.length c0_3, .slice A0_4 l0_4.length c0_4] 44 (0, 0)) (by (with_reducible repeat (first | refine blk_drewN ?_ _ | refine blk_drew ?_ | refine blk_alloc ?_ _)); exact BK001.out)) : gb002 ≠ gb001)); clear BK001; clear HB; have BK001 := n0_; have HB := n1_; have BK002 := n2_; have GW002 := n3_; have GE002 := n4_; have NB001_40002 := n5_; have NB002_40001 := n6_; clear n0_ n1_ n2_ n3_ n4_ n5_ n6_; clear hb hbox hg)); go_upto_region 1 with (first | ((with_reducible refine gate_dst (N := 2) rfl ?_); (try (refine gate_guard (by rfl) ?_; dsimp only)); refine box_event ?hg (N := 2) ?hd (cs := #[.string a0_0, .slice A0_1 l0_1.length c0_1, .int .i64 a0_2, .slice A0_3 l0_3.length c0_3, .slice A0_4 l0_4.length c0_4]) (t := 44) ?hr ?_; (case hd => rfl); (case hg => rfl); (case hr => first | (go_simp; done) | (go_simp; rfl)); intro gb001 hg w4 hbox hb; have n0_ := Aside0.mk (below_step (by repeat (first | (with_reducible first | exact HB.out | apply below_alloc | apply pw_below_drewN | apply below_drew1) | exact HB.out)) hb); have n1_ := Aside0.mk (hbox); have n2_ := Aside0.mk ((by rw [hg]; exact (below_size (by repeat (first | (with_reducible first | exact HB.out | apply below_alloc | apply pw_below_drewN | apply below_drew1) | exact HB.out))) : w.heap.size ≤ gb001)); have n3_ := Aside0.mk ((by rw [hg]; exact (below_size (by repeat (first | (with_reducible first | exact HB.out | apply below_alloc | apply pw_below_drewN | apply below_drew1) | exact HB.out))) : w.heap.size ≤ gb001)); clear HB; have HB := n0_; have BK001 := n1_; have GW001 := n2_; have GE001 := n3_; clear n0_ n1_ n2_ n3_; clear hb hbox hg) | ((with_reducible refine gate_dst (N := 3) rfl ?_); (try (refine gate_guard (by rfl) ?_; dsimp only)); refine box_event ?hg (N := 3) ?hd (cs := #[.string a1_0, .slice A1_1 l1_1.length c1_1, .int .i64 a1_2, .slice A1_3 l1_3.length c1_3, .slice A1_4 l1_4.length c1_4]) (t := 44) ?hr ?_; (case hd => rfl); (case hg => rfl); (case hr => first | (go_simp; done) | (go_simp; rfl)); intro gb002 hg w5 hbox hb; have n0_ := Aside0.mk (blk_below (g := gb001) (o := .cells #[.string a0_0, .slice A0_1 l0_1.length c0_1, .int .i64 a0_2, .slice A0_3 l0_3.length c0_3, .slice A0_4 l0_4.length c0_4] 44 (0, 0)) (by (with_reducible repeat (first | refine blk_drewN ?_ _ | refine blk_drew ?_ | refine blk_alloc ?_ _)); exact BK001.out) hb); have n1_ := Aside0.mk (below_step (by repeat (first | (with_reducible first | exact HB.out | apply below_alloc | apply pw_below_drewN | apply below_drew1 | refine below_set ?_ GE001.out) | exact HB.out)) hb); have n2_ := Aside0.mk (hbox); have n3_ := Aside0.mk ((by rw [hg]; exact (below_size (by repeat (first | (with_reducible first | exact HB.out | apply below_alloc | apply pw_below_drewN | apply below_drew1 | refine below_set ?_ GE001.out) | exact HB.out))) : w.heap.size ≤ gb002)); have n4_ := Aside0.mk ((by rw [hg]; exact (below_size (by repeat (first | (with_reducible first | exact HB.out | apply below_alloc | apply pw_below_drewN | apply below_drew1 | refine below_set ?_ GE001.out) | exact HB.out))) : w.heap.size ≤ gb002)); have n5_ := Aside0.mk ((by rw [hg]; exact Nat.ne_of_lt (blk_lt (g := gb001) (o := .cells #[.string a0_0, .slice A0_1 l0_1.length c0_1, .int .i64 a0_2, .slice A0_3 l0_3.length c0_3, .slice A0_4 l0_4.length c0_4] 44 (0, 0)) (by (with_reducible repeat (first | refine blk_drewN ?_ _ | refine blk_drew ?_ | refine blk_alloc ?_ _)); exact BK001.out)) : gb001 ≠ gb002)); have n6_ := Aside0.mk ((by rw [hg]; exact Nat.ne_of_gt (blk_lt (g := gb001) (o := .cells #[.string a0_0, .slice A0_1 l0_1.length c0_1, .int .i64 a0_2, .slice A0_3 l0_3.length c0_3, .slice A0_4 l0_4.length c0_4] 44 (0, 0)) (by (with_reducible repeat (first | refine blk_drewN ?_ _ | refine blk_drew ?_ | refine blk_alloc ?_ _)); exact BK001.out)) : gb002 ≠ gb001)); clear BK001; clear HB; have BK001 := n0_; have HB := n1_; have BK002 := n2_; have GW002 := n3_; have GE002 := n4_; have NB001_40002 := n5_; have NB002_40001 := n6_; clear n0_ n1_ n2_ n3_ n4_ n5_ n6_; clear hb hbox hg)))
 (try simp only [Act.put, List.setIfInBounds_toArray, List.set_cons_zero, List.set_cons_succ])
 go_cut [42] (fun v42 wc => ∃ (kq : Nat) (x42_2 : Bool), v42 = .bool x42_2 ∧ Aside0 (tinderref08_SameNode.j0 kq x42_2 a0_0 l0_1 a0_2 l0_3 l0_4 a1_0 l1_1 a1_2 l1_3 l1_4 = some r) ∧ Aside0 (kq ≤ k) ∧ Aside0 (wc.heap[gb001]? = some (.cells #[.string a0_0, (.slice A0_1 l0_1.length c0_1), .int .i64 a0_2, (.slice A0_3 l0_3.length c0_3), (.slice A0_4 l0_4.length c0_4)] 44 (0, 0))) ∧ Aside0 (wc.heap[gb002]? = some (.cells #[.string a1_0, (.slice A1_1 l1_1.length c1_1), .int .i64 a1_2, (.slice A1_3 l1_3.length c1_3), (.slice A1_4 l1_4.length c1_4)] 44 (0, 0))) ∧ Aside0 (Below w.heap.size w wc))
 case first =>
  have H := HC3.out
  clear HC3
  by_cases c6 : a0_0.toList = a1_0.toList
  ·rw [if_pos c6] at H
   have c6b0 : (a0_0.toList == a1_0.toList) = true := beq_iff_eq.mpr c6
   have c6b1 : (a0_0.toList != a1_0.toList) = false := bne_eq_false_iff_eq.mpr c6
   clear c6
   (first | rw [c6b0] | (simp only [i64_w, i32_w]; rw [c6b0]) | skip)
   by_cases c7 : a0_2 = a1_2
   ·rw [if_pos c7] at H
    have c7b0 : (a0_2 == a1_2) = true := beq_iff_eq.mpr c7
    have c7b1 : (a0_2 != a1_2) = false := bne_eq_false_iff_eq.mpr c7
    clear c7
    replace H := Option.bind_eq_some_iff.mp H
    obtain ⟨t003, A80, H⟩ := H
    replace H : (if t003 = true then ((tinderref03_Same.f k l0_4 l1_4).bind fun t004 => (if t004 = true then (tinderref08_SameNode.j0 k ((l0_3.length : Int) != (l1_3.length : Int)) a0_0 l0_1 a0_2 l0_3 l0_4 a1_0 l1_1 a1_2 l1_3 l1_4) else (tinderref08_SameNode.j0 k true a0_0 l0_1 a0_2 l0_3 l0_4 a1_0 l1_1 a1_2 l1_3 l1_4))) else (tinderref08_SameNode.j0 k true a0_0 l0_1 a0_2 l0_3 l0_4 a1_0 l1_1 a1_2 l1_3 l1_4)) = some r := H
    have A8 := Aside0.mk A80
    clear A80
    by_cases c9 : t003 = true
    ·subst c9
     have H1 : ((tinderref03_Same.f k l0_4 l1_4).bind fun t004 => (if t004 = true then (tinderref08_SameNode.j0 k ((l0_3.length : Int) != (l1_3.length : Int)) a0_0 l0_1 a0_2 l0_3 l0_4 a1_0 l1_1 a1_2 l1_3 l1_4) else (tinderref08_SameNode.j0 k true a0_0 l0_1 a0_2 l0_3 l0_4 a1_0 l1_1 a1_2 l1_3 l1_4))) = some r := by rw [if_pos rfl] at H; exact H
     clear H
     have H := H1
     clear H1
     replace H := Option.bind_eq_some_iff.mp H
     obtain ⟨t004, A100, H⟩ := H
     replace H : (if t004 = true then (tinderref08_SameNode.j0 k ((l0_3.length : Int) != (l1_3.length : Int)) a0_0 l0_1 a0_2 l0_3 l0_4 a1_0 l1_1 a1_2 l1_3 l1_4) else (tinderref08_SameNode.j0 k true a0_0 l0_1 a0_2 l0_3 l0_4 a1_0 l1_1 a1_2 l1_3 l1_4)) = some r := H
     have A10 := Aside0.mk A100
     clear A100
     by_cases c11 : t004 = true
     ·subst c11
      have H1 : (tinderref08_SameNode.j0 k ((l0_3.length : Int) != (l1_3.length : Int)) a0_0 l0_1 a0_2 l0_3 l0_4 a1_0 l1_1 a1_2 l1_3 l1_4) = some r := by rw [if_pos rfl] at H; exact H
      clear H
      have H := H1
      clear H1
      have H' := Aside0.mk H
      clear H
      have hnb12 := NB001_40002.out
      have hnc12 := NB002_40001.out
      have hcz13_0 : w5.cell? ⟨gb001, 0, none⟩ = some (.string a0_0) := (blk_cell BK001.out 0).trans rfl
      have hcz13_1 : w5.cell? ⟨gb001, 1, none⟩ = some (.slice A0_1 l0_1.length c0_1) := (blk_cell BK001.out 1).trans rfl
      have hcz13_2 : w5.cell? ⟨gb001, 2, none⟩ = some (.int .i64 a0_2) := (blk_cell BK001.out 2).trans rfl
      have hcz13_3 : w5.cell? ⟨gb001, 3, none⟩ = some (.slice A0_3 l0_3.length c0_3) := (blk_cell BK001.out 3).trans rfl
      have hcz13_4 : w5.cell? ⟨gb001, 4, none⟩ = some (.slice A0_4 l0_4.length c0_4) := (blk_cell BK001.out 4).trans rfl
      have hfz13_0 := blk_frozen BK001.out 0
      have hfz13_1 := blk_frozen BK001.out 1
      have hfz13_2 := blk_frozen BK001.out 2
      have hfz13_3 := blk_frozen BK001.out 3
      have hfz13_4 := blk_frozen BK001.out 4
      have hcz14_0 : w5.cell? ⟨gb002, 0, none⟩ = some (.string a1_0) := (blk_cell BK002.out 0).trans rfl
      have hcz14_1 : w5.cell? ⟨gb002, 1, none⟩ = some (.slice A1_1 l1_1.length c1_1) := (blk_cell BK002.out 1).trans rfl
      have hcz14_2 : w5.cell? ⟨gb002, 2, none⟩ = some (.int .i64 a1_2) := (blk_cell BK002.out 2).trans rfl
      have hcz14_3 : w5.cell? ⟨gb002, 3, none⟩ = some (.slice A1_3 l1_3.length c1_3) := (blk_cell BK002.out 3).trans rfl
      have hcz14_4 : w5.cell? ⟨gb002, 4, none⟩ = some (.slice A1_4 l1_4.length c1_4) := (blk_cell BK002.out 4).trans rfl
      have hfz14_0 := blk_frozen BK002.out 0
      have hfz14_1 := blk_frozen BK002.out 1
      have hfz14_2 := blk_frozen BK002.out 2
      have hfz14_3 := blk_frozen BK002.out 3
      have hfz14_4 := blk_frozen BK002.out 4
      go_wp2_with (first | (go_at_call 26; (with_reducible refine (tinderref03_Same.calls k _ _ l0_1 _ _ l1_1 true _ ?side1 ?side2 ?side3 ?side4 A8.out).mono ?_); (case side1 => repeat (first | exact (Kd.C_below HR0_1.out HB.out) | (with_reducible refine Kd.C_alloc ?_ _) | (with_reducible refine Kd.C_drewN ?_ _) | (with_reducible refine Kd.C_drew ?_))); (case side2 => exact HC0_1.out); (case side3 => repeat (first | exact (Kd.C_below HR1_1.out HB.out) | (with_reducible refine Kd.C_alloc ?_ _) | (with_reducible refine Kd.C_drewN ?_ _) | (with_reducible refine Kd.C_drew ?_))); (case side4 => exact HC1_1.out); rintro e w' ⟨rfl, ⟨nd, rfl⟩⟩; (try first | exact ⟨rfl, _, World.drewN_drewN _ _ _⟩ | exact ⟨rfl, _, Eq.trans (World.drewN_drewN _ _ _) (congrArg (World.drewN _) (Nat.add_assoc _ _ _))⟩)) | (go_at_call 26; (with_reducible refine (tinderref03_Same.calls k _ _ l0_4 _ _ l1_4 true _ ?side1 ?side2 ?side3 ?side4 A10.out).mono ?_); (case side1 => repeat (first | exact (Kd.C_below HR0_4.out (by repeat (first | (with_reducible first | exact HB.out | apply below_alloc | apply pw_below_drewN | apply below_drew1 | refine below_set ?_ GE001.out | refine below_set ?_ GE002.out) | exact HB.out))) | (with_reducible refine Kd.C_alloc ?_ _) | (with_reducible refine Kd.C_drewN ?_ _) | (with_reducible refine Kd.C_drew ?_))); (case side2 => exact HC0_4.out); (case side3 => repeat (first | exact (Kd.C_below HR1_4.out (by repeat (first | (with_reducible first | exact HB.out | apply below_alloc | apply pw_below_drewN | apply below_drew1 | refine below_set ?_ GE001.out | refine below_set ?_ GE002.out) | exact HB.out))) | (with_reducible refine Kd.C_alloc ?_ _) | (with_reducible refine Kd.C_drewN ?_ _) | (with_reducible refine Kd.C_drew ?_))); (case side4 => exact HC1_4.out); rintro e w' ⟨rfl, ⟨nd, rfl⟩⟩; (try first | exact ⟨rfl, _, World.drewN_drewN _ _ _⟩ | exact ⟨rfl, _, Eq.trans (World.drewN_drewN _ _ _) (congrArg (World.drewN _) (Nat.add_assoc _ _ _))⟩)))
      repeat (go_quiet (first | (go_at_call 26; (with_reducible refine (tinderref03_Same.calls k _ _ l0_1 _ _ l1_1 true _ ?side1 ?side2 ?side3 ?side4 A8.out).mono ?_); (case side1 => repeat (first | exact (Kd.C_below HR0_1.out HB.out) | (with_reducible refine Kd.C_alloc ?_ _) | (with_reducible refine Kd.C_drewN ?_ _) | (with_reducible refine Kd.C_drew ?_))); (case side2 => exact HC0_1.out); (case side3 => repeat (first | exact (Kd.C_below HR1_1.out HB.out) | (with_reducible refine Kd.C_alloc ?_ _) | (with_reducible refine Kd.C_drewN ?_ _) | (with_reducible refine Kd.C_drew ?_))); (case side4 => exact HC1_1.out); rintro e w' ⟨rfl, ⟨nd, rfl⟩⟩; (try first | exact ⟨rfl, _, World.drewN_drewN _ _ _⟩ | exact ⟨rfl, _, Eq.trans (World.drewN_drewN _ _ _) (congrArg (World.drewN _) (Nat.add_assoc _ _ _))⟩)) | (go_at_call 26; (with_reducible refine (tinderref03_Same.calls k _ _ l0_4 _ _ l1_4 true _ ?side1 ?side2 ?side3 ?side4 A10.out).mono ?_); (case side1 => repeat (first | exact (Kd.C_below HR0_4.out (by repeat (first | (with_reducible first | exact HB.out | apply below_alloc | apply pw_below_drewN | apply below_drew1 | refine below_set ?_ GE001.out | refine below_set ?_ GE002.out) | exact HB.out))) | (with_reducible refine Kd.C_alloc ?_ _) | (with_reducible refine Kd.C_drewN ?_ _) | (with_reducible refine Kd.C_drew ?_))); (case side2 => exact HC0_4.out); (case side3 => repeat (first | exact (Kd.C_below HR1_4.out (by repeat (first | (with_reducible first | exact HB.out | apply below_alloc | apply pw_below_drewN | apply below_drew1 | refine below_set ?_ GE001.out | refine below_set ?_ GE002.out) | exact HB.out))) | (with_reducible refine Kd.C_alloc ?_ _) | (with_reducible refine Kd.C_drewN ?_ _) | (with_reducible refine Kd.C_drew ?_))); (case side4 => exact HC1_4.out); rintro e w' ⟨rfl, ⟨nd, rfl⟩⟩; (try first | exact ⟨rfl, _, World.drewN_drewN _ _ _⟩ | exact ⟨rfl, _, Eq.trans (World.drewN_drewN _ _ _) (congrArg (World.drewN _) (Nat.add_assoc _ _ _))⟩))); try go_wp2_with (first | (go_at_call 26; (with_reducible refine (tinderref03_Same.calls k _ _ l0_1 _ _ l1_1 true _ ?side1 ?side2 ?side3 ?side4 A8.out).mono ?_); (case side1 => repeat (first | exact (Kd.C_below HR0_1.out HB.out) | (with_reducible refine Kd.C_alloc ?_ _) | (with_reducible refine Kd.C_drewN ?_ _) | (with_reducible refine Kd.C_drew ?_))); (case side2 => exact HC0_1.out); (case side3 => repeat (first | exact (Kd.C_below HR1_1.out HB.out) | (with_reducible refine Kd.C_alloc ?_ _) | (with_reducible refine Kd.C_drewN ?_ _) | (with_reducible refine Kd.C_drew ?_))); (case side4 => exact HC1_1.out); rintro e w' ⟨rfl, ⟨nd, rfl⟩⟩; (try first | exact ⟨rfl, _, World.drewN_drewN _ _ _⟩ | exact ⟨rfl, _, Eq.trans (World.drewN_drewN _ _ _) (congrArg (World.drewN _) (Nat.add_assoc _ _ _))⟩)) | (go_at_call 26; (with_reducible refine (tinderref03_Same.calls k _ _ l0_4 _ _ l1_4 true _ ?side1 ?side2 ?side3 ?side4 A10.out).mono ?_); (case side1 => repeat (first | exact (Kd.C_below HR0_4.out (by repeat (first | (with_reducible first | exact HB.out | apply below_alloc | apply pw_below_drewN | apply below_drew1 | refine below_set ?_ GE001.out | refine below_set ?_ GE002.out) | exact HB.out))) | (with_reducible refine Kd.C_alloc ?_ _) | (with_reducible refine Kd.C_drewN ?_ _) | (with_reducible refine Kd.C_drew ?_))); (case side2 => exact HC0_4.out); (case side3 => repeat (first | exact (Kd.C_below HR1_4.out (by repeat (first | (with_reducible first | exact HB.out | apply below_alloc | apply pw_below_drewN | apply below_drew1 | refine below_set ?_ GE001.out | refine below_set ?_ GE002.out) | exact HB.out))) | (with_reducible refine Kd.C_alloc ?_ _) | (with_reducible refine Kd.C_drewN ?_ _) | (with_reducible refine Kd.C_drew ?_))); (case side4 => exact HC1_4.out); rintro e w' ⟨rfl, ⟨nd, rfl⟩⟩; (try first | exact ⟨rfl, _, World.drewN_drewN _ _ _⟩ | exact ⟨rfl, _, Eq.trans (World.drewN_drewN _ _ _) (congrArg (World.drewN _) (Nat.add_assoc _ _ _))⟩))))
      go_meet
      case rel => exact ⟨_, (((l0_3.length : Int) != (l1_3.length : Int))), (by first | rfl | (simp; done) | (simp [*]; done)), H', ⟨by first | omega | exact Nat.le_refl _⟩, ⟨by (with_reducible repeat (first | refine blk_drewN ?_ _ | refine blk_drew ?_ | refine blk_alloc ?_ _)); exact BK001.out⟩, ⟨by (with_reducible repeat (first | refine blk_drewN ?_ _ | refine blk_drew ?_ | refine blk_alloc ?_ _)); exact BK002.out⟩, ⟨by repeat (first | (with_reducible first | exact HB.out | apply below_alloc | apply pw_below_drewN | apply below_drew1 | refine below_set ?_ GE001.out | refine below_set ?_ GE002.out) | exact HB.out)⟩⟩
     ·replace c11 := Bool.eq_false_iff.mpr c11
      subst c11
      have H1 : (tinderref08_SameNode.j0 k true a0_0 l0_1 a0_2 l0_3 l0_4 a1_0 l1_1 a1_2 l1_3 l1_4) = some r := by rw [if_neg (show ¬ (false = true) by decide)] at H; exact H
      clear H
      have H := H1
      clear H1
      have H' := Aside0.mk H
      clear H
      have hnb15 := NB001_40002.out
      have hnc15 := NB002_40001.out
      have hcz16_0 : w5.cell? ⟨gb001, 0, none⟩ = some (.string a0_0) := (blk_cell BK001.out 0).trans rfl
      have hcz16_1 : w5.cell? ⟨gb001, 1, none⟩ = some (.slice A0_1 l0_1.length c0_1) := (blk_cell BK001.out 1).trans rfl
      have hcz16_2 : w5.cell? ⟨gb001, 2, none⟩ = some (.int .i64 a0_2) := (blk_cell BK001.out 2).trans rfl
      have hcz16_3 : w5.cell? ⟨gb001, 3, none⟩ = some (.slice A0_3 l0_3.length c0_3) := (blk_cell BK001.out 3).trans rfl
      have hcz16_4 : w5.cell? ⟨gb001, 4, none⟩ = some (.slice A0_4 l0_4.length c0_4) := (blk_cell BK001.out 4).trans rfl
      have hfz16_0 := blk_frozen BK001.out 0
      have hfz16_1 := blk_frozen BK001.out 1
      have hfz16_2 := blk_frozen BK001.out 2
      have hfz16_3 := blk_frozen BK001.out 3
      have hfz16_4 := blk_frozen BK001.out 4
      have hcz17_0 : w5.cell? ⟨gb002, 0, none⟩ = some (.string a1_0) := (blk_cell BK002.out 0).trans rfl
      have hcz17_1 : w5.cell? ⟨gb002, 1, none⟩ = some (.slice A1_1 l1_1.length c1_1) := (blk_cell BK002.out 1).trans rfl
      have hcz17_2 : w5.cell? ⟨gb002, 2, none⟩ = some (.int .i64 a1_2) := (blk_cell BK002.out 2).trans rfl
      have hcz17_3 : w5.cell? ⟨gb002, 3, none⟩ = some (.slice A1_3 l1_3.length c1_3) := (blk_cell BK002.out 3).trans rfl
      have hcz17_4 : w5.cell? ⟨gb002, 4, none⟩ = some (.slice A1_4 l1_4.length c1_4) := (blk_cell BK002.out 4).trans rfl
      have hfz17_0 := blk_frozen BK002.out 0
      have hfz17_1 := blk_frozen BK002.out 1
      have hfz17_2 := blk_frozen BK002.out 2
      have hfz17_3 := blk_frozen BK002.out 3
      have hfz17_4 := blk_frozen BK002.out 4
      go_wp2_with (first | (go_at_call 26; (with_reducible refine (tinderref03_Same.calls k _ _ l0_1 _ _ l1_1 true _ ?side1 ?side2 ?side3 ?side4 A8.out).mono ?_); (case side1 => repeat (first | exact (Kd.C_below HR0_1.out HB.out) | (with_reducible refine Kd.C_alloc ?_ _) | (with_reducible refine Kd.C_drewN ?_ _) | (with_reducible refine Kd.C_drew ?_))); (case side2 => exact HC0_1.out); (case side3 => repeat (first | exact (Kd.C_below HR1_1.out HB.out) | (with_reducible refine Kd.C_alloc ?_ _) | (with_reducible refine Kd.C_drewN ?_ _) | (with_reducible refine Kd.C_drew ?_))); (case side4 => exact HC1_1.out); rintro e w' ⟨rfl, ⟨nd, rfl⟩⟩; (try first | exact ⟨rfl, _, World.drewN_drewN _ _ _⟩ | exact ⟨rfl, _, Eq.trans (World.drewN_drewN _ _ _) (congrArg (World.drewN _) (Nat.add_assoc _ _ _))⟩)) | (go_at_call 26; (with_reducible refine (tinderref03_Same.calls k _ _ l0_4 _ _ l1_4 false _ ?side1 ?side2 ?side3 ?side4 A10.out).mono ?_); (case side1 => repeat (first | exact (Kd.C_below HR0_4.out (by repeat (first | (with_reducible first | exact HB.out | apply below_alloc | apply pw_below_drewN | apply below_drew1 | refine below_set ?_ GE001.out | refine below_set ?_ GE002.out) | exact HB.out))) | (with_reducible refine Kd.C_alloc ?_ _) | (with_reducible refine Kd.C_drewN ?_ _) | (with_reducible refine Kd.C_drew ?_))); (case side2 => exact HC0_4.out); (case side3 => repeat (first | exact (Kd.C_below HR1_4.out (by repeat (first | (with_reducible first | exact HB.out | apply below_alloc | apply pw_below_drewN | apply below_drew1 | refine below_set ?_ GE001.out | refine below_set ?_ GE002.out) | exact HB.out))) | (with_reducible refine Kd.C_alloc ?_ _) | (with_reducible refine Kd.C_drewN ?_ _) | (with_reducible refine Kd.C_drew ?_))); (case side4 => exact HC1_4.out); rintro e w' ⟨rfl, ⟨nd, rfl⟩⟩; (try first | exact ⟨rfl, _, World.drewN_drewN _ _ _⟩ | exact ⟨rfl, _, Eq.trans (World.drewN_drewN _ _ _) (congrArg (World.drewN _) (Nat.add_assoc _ _ _))⟩)))
      repeat (go_quiet (first | (go_at_call 26; (with_reducible refine (tinderref03_Same.calls k _ _ l0_1 _ _ l1_1 true _ ?side1 ?side2 ?side3 ?side4 A8.out).mono ?_); (case side1 => repeat (first | exact (Kd.C_below HR0_1.out HB.out) | (with_reducible refine Kd.C_alloc ?_ _) | (with_reducible refine Kd.C_drewN ?_ _) | (with_reducible refine Kd.C_drew ?_))); (case side2 => exact HC0_1.out); (case side3 => repeat (first | exact (Kd.C_below HR1_1.out HB.out) | (with_reducible refine Kd.C_alloc ?_ _) | (with_reducible refine Kd.C_drewN ?_ _) | (with_reducible refine Kd.C_drew ?_))); (case side4 => exact HC1_1.out); rintro e w' ⟨rfl, ⟨nd, rfl⟩⟩; (try first | exact ⟨rfl, _, World.drewN_drewN _ _ _⟩ | exact ⟨rfl, _, Eq.trans (World.drewN_drewN _ _ _) (congrArg (World.drewN _) (Nat.add_assoc _ _ _))⟩)) | (go_at_call 26; (with_reducible refine (tinderref03_Same.calls k _ _ l0_4 _ _ l1_4 false _ ?side1 ?side2 ?side3 ?side4 A10.out).mono ?_); (case side1 => repeat (first | exact (Kd.C_below HR0_4.out (by repeat (first | (with_reducible first | exact HB.out | apply below_alloc | apply pw_below_drewN | apply below_drew1 | refine below_set ?_ GE001.out | refine below_set ?_ GE002.out) | exact HB.out))) | (with_reducible refine Kd.C_alloc ?_ _) | (with_reducible refine Kd.C_drewN ?_ _) | (with_reducible refine Kd.C_drew ?_))); (case side2 => exact HC0_4.out); (case side3 => repeat (first | exact (Kd.C_below HR1_4.out (by repeat (first | (with_reducible first | exact HB.out | apply below_alloc | apply pw_below_drewN | apply below_drew1 | refine below_set ?_ GE001.out | refine below_set ?_ GE002.out) | exact HB.out))) | (with_reducible refine Kd.C_alloc ?_ _) | (with_reducible refine Kd.C_drewN ?_ _) | (with_reducible refine Kd.C_drew ?_))); (case side4 => exact HC1_4.out); rintro e w' ⟨rfl, ⟨nd, rfl⟩⟩; (try first | exact ⟨rfl, _, World.drewN_drewN _ _ _⟩ | exact ⟨rfl, _, Eq.trans (World.drewN_drewN _ _ _) (congrArg (World.drewN _) (Nat.add_assoc _ _ _))⟩))); try go_wp2_with (first | (go_at_call 26; (with_reducible refine (tinderref03_Same.calls k _ _ l0_1 _ _ l1_1 true _ ?side1 ?side2 ?side3 ?side4 A8.out).mono ?_); (case side1 => repeat (first | exact (Kd.C_below HR0_1.out HB.out) | (with_reducible refine Kd.C_alloc ?_ _) | (with_reducible refine Kd.C_drewN ?_ _) | (with_reducible refine Kd.C_drew ?_))); (case side2 => exact HC0_1.out); (case side3 => repeat (first | exact (Kd.C_below HR1_1.out HB.out) | (with_reducible refine Kd.C_alloc ?_ _) | (with_reducible refine Kd.C_drewN ?_ _) | (with_reducible refine Kd.C_drew ?_))); (case side4 => exact HC1_1.out); rintro e w' ⟨rfl, ⟨nd, rfl⟩⟩; (try first | exact ⟨rfl, _, World.drewN_drewN _ _ _⟩ | exact ⟨rfl, _, Eq.trans (World.drewN_drewN _ _ _) (congrArg (World.drewN _) (Nat.add_assoc _ _ _))⟩)) | (go_at_call 26; (with_reducible refine (tinderref03_Same.calls k _ _ l0_4 _ _ l1_4 false _ ?side1 ?side2 ?side3 ?side4 A10.out).mono ?_); (case side1 => repeat (first | exact (Kd.C_below HR0_4.out (by repeat (first | (with_reducible first | exact HB.out | apply below_alloc | apply pw_below_drewN | apply below_drew1 | refine below_set ?_ GE001.out | refine below_set ?_ GE002.out) | exact HB.out))) | (with_reducible refine Kd.C_alloc ?_ _) | (with_reducible refine Kd.C_drewN ?_ _) | (with_reducible refine Kd.C_drew ?_))); (case side2 => exact HC0_4.out); (case side3 => repeat (first | exact (Kd.C_below HR1_4.out (by repeat (first | (with_reducible first | exact HB.out | apply below_alloc | apply pw_below_drewN | apply below_drew1 | refine below_set ?_ GE001.out | refine below_set ?_ GE002.out) | exact HB.out))) | (with_reducible refine Kd.C_alloc ?_ _) | (with_reducible refine Kd.C_drewN ?_ _) | (with_reducible refine Kd.C_drew ?_))); (case side4 => exact HC1_4.out); rintro e w' ⟨rfl, ⟨nd, rfl⟩⟩; (try first | exact ⟨rfl, _, World.drewN_drewN _ _ _⟩ | exact ⟨rfl, _, Eq.trans (World.drewN_drewN _ _ _) (congrArg (World.drewN _) (Nat.add_assoc _ _ _))⟩))))
      go_meet
      case rel => exact ⟨_, (true), (by first | rfl | (simp; done) | (simp [*]; done)), H', ⟨by first | omega | exact Nat.le_refl _⟩, ⟨by (with_reducible repeat (first | refine blk_drewN ?_ _ | refine blk_drew ?_ | refine blk_alloc ?_ _)); exact BK001.out⟩, ⟨by (with_reducible repeat (first | refine blk_drewN ?_ _ | refine blk_drew ?_ | refine blk_alloc ?_ _)); exact BK002.out⟩, ⟨by repeat (first | (with_reducible first | exact HB.out | apply below_alloc | apply pw_below_drewN | apply below_drew1 | refine below_set ?_ GE001.out | refine below_set ?_ GE002.out) | exact HB.out)⟩⟩
    ·replace c9 := Bool.eq_false_iff.mpr c9
     subst c9
     have H1 : (tinderref08_SameNode.j0 k true a0_0 l0_1 a0_2 l0_3 l0_4 a1_0 l1_1 a1_2 l1_3 l1_4) = some r := by rw [if_neg (show ¬ (false = true) by decide)] at H; exact H
     clear H
     have H := H1
     clear H1
     have H' := Aside0.mk H
     clear H
     have hnb18 := NB001_40002.out
     have hnc18 := NB002_40001.out
     have hcz19_0 : w5.cell? ⟨gb001, 0, none⟩ = some (.string a0_0) := (blk_cell BK001.out 0).trans rfl
     have hcz19_1 : w5.cell? ⟨gb001, 1, none⟩ = some (.slice A0_1 l0_1.length c0_1) := (blk_cell BK001.out 1).trans rfl
     have hcz19_2 : w5.cell? ⟨gb001, 2, none⟩ = some (.int .i64 a0_2) := (blk_cell BK001.out 2).trans rfl
     have hcz19_3 : w5.cell? ⟨gb001, 3, none⟩ = some (.slice A0_3 l0_3.length c0_3) := (blk_cell BK001.out 3).trans rfl
     have hcz19_4 : w5.cell? ⟨gb001, 4, none⟩ = some (.slice A0_4 l0_4.length c0_4) := (blk_cell BK001.out 4).trans rfl
     have hfz19_0 := blk_frozen BK001.out 0
     have hfz19_1 := blk_frozen BK001.out 1
     have hfz19_2 := blk_frozen BK001.out 2
     have hfz19_3 := blk_frozen BK001.out 3
     have hfz19_4 := blk_frozen BK001.out 4
     have hcz20_0 : w5.cell? ⟨gb002, 0, none⟩ = some (.string a1_0) := (blk_cell BK002.out 0).trans rfl
     have hcz20_1 : w5.cell? ⟨gb002, 1, none⟩ = some (.slice A1_1 l1_1.length c1_1) := (blk_cell BK002.out 1).trans rfl
     have hcz20_2 : w5.cell? ⟨gb002, 2, none⟩ = some (.int .i64 a1_2) := (blk_cell BK002.out 2).trans rfl
     have hcz20_3 : w5.cell? ⟨gb002, 3, none⟩ = some (.slice A1_3 l1_3.length c1_3) := (blk_cell BK002.out 3).trans rfl
     have hcz20_4 : w5.cell? ⟨gb002, 4, none⟩ = some (.slice A1_4 l1_4.length c1_4) := (blk_cell BK002.out 4).trans rfl
     have hfz20_0 := blk_frozen BK002.out 0
     have hfz20_1 := blk_frozen BK002.out 1
     have hfz20_2 := blk_frozen BK002.out 2
     have hfz20_3 := blk_frozen BK002.out 3
     have hfz20_4 := blk_frozen BK002.out 4
     go_wp2_with (first | (go_at_call 26; (with_reducible refine (tinderref03_Same.calls k _ _ l0_1 _ _ l1_1 false _ ?side1 ?side2 ?side3 ?side4 A8.out).mono ?_); (case side1 => repeat (first | exact (Kd.C_below HR0_1.out HB.out) | (with_reducible refine Kd.C_alloc ?_ _) | (with_reducible refine Kd.C_drewN ?_ _) | (with_reducible refine Kd.C_drew ?_))); (case side2 => exact HC0_1.out); (case side3 => repeat (first | exact (Kd.C_below HR1_1.out HB.out) | (with_reducible refine Kd.C_alloc ?_ _) | (with_reducible refine Kd.C_drewN ?_ _) | (with_reducible refine Kd.C_drew ?_))); (case side4 => exact HC1_1.out); rintro e w' ⟨rfl, ⟨nd, rfl⟩⟩; (try first | exact ⟨rfl, _, World.drewN_drewN _ _ _⟩ | exact ⟨rfl, _, Eq.trans (World.drewN_drewN _ _ _) (congrArg (World.drewN _) (Nat.add_assoc _ _ _))⟩)))
     repeat (go_quiet (first | (go_at_call 26; (with_reducible refine (tinderref03_Same.calls k _ _ l0_1 _ _ l1_1 false _ ?side1 ?side2 ?side3 ?side4 A8.out).mono ?_); (case side1 => repeat (first | exact (Kd.C_below HR0_1.out HB.out) | (with_reducible refine Kd.C_alloc ?_ _) | (with_reducible refine Kd.C_drewN ?_ _) | (with_reducible refine Kd.C_drew ?_))); (case side2 => exact HC0_1.out); (case side3 => repeat (first | exact (Kd.C_below HR1_1.out HB.out) | (with_reducible refine Kd.C_alloc ?_ _) | (with_reducible refine Kd.C_drewN ?_ _) | (with_reducible refine Kd.C_drew ?_))); (case side4 => exact HC1_1.out); rintro e w' ⟨rfl, ⟨nd, rfl⟩⟩; (try first | exact ⟨rfl, _, World.drewN_drewN _ _ _⟩ | exact ⟨rfl, _, Eq.trans (World.drewN_drewN _ _ _) (congrArg (World.drewN _) (Nat.add_assoc _ _ _))⟩))); try go_wp2_with (first | (go_at_call 26; (with_reducible refine (tinderref03_Same.calls k _ _ l0_1 _ _ l1_1 false _ ?side1 ?side2 ?side3 ?side4 A8.out).mono ?_); (case side1 => repeat (first | exact (Kd.C_below HR0_1.out HB.out) | (with_reducible refine Kd.C_alloc ?_ _) | (with_reducible refine Kd.C_drewN ?_ _) | (with_reducible refine Kd.C_drew ?_))); (case side2 => exact HC0_1.out); (case side3 => repeat (first | exact (Kd.C_below HR1_1.out HB.out) | (with_reducible refine Kd.C_alloc ?_ _) | (with_reducible refine Kd.C_drewN ?_ _) | (with_reducible refine Kd.C_drew ?_))); (case side4 => exact HC1_1.out); rintro e w' ⟨rfl, ⟨nd, rfl⟩⟩; (try first | exact ⟨rfl, _, World.drewN_drewN _ _ _⟩ | exact ⟨rfl, _, Eq.trans (World.drewN_drewN _ _ _) (congrArg (World.drewN _) (Nat.add_assoc _ _ _))⟩))))
     go_meet
     case rel => exact ⟨_, (true), (by first | rfl | (simp; done) | (simp [*]; done)), H', ⟨by first | omega | exact Nat.le_refl _⟩, ⟨by (with_reducible repeat (first | refine blk_drewN ?_ _ | refine blk_drew ?_ | refine blk_alloc ?_ _)); exact BK001.out⟩, ⟨by (with_reducible repeat (first | refine blk_drewN ?_ _ | refine blk_drew ?_ | refine blk_alloc ?_ _)); exact BK002.out⟩, ⟨by repeat (first | (with_reducible first | exact HB.out | apply below_alloc | apply pw_below_drewN | apply below_drew1 | refine below_set ?_ GE001.out | refine below_set ?_ GE002.out) | exact HB.out)⟩⟩
   ·rw [if_neg c7] at H
    have c7b0 : (a0_2 == a1_2) = false := beq_eq_false_iff_ne.mpr c7
    have c7b1 : (a0_2 != a1_2) = true := bne_iff_ne.mpr c7
    have H' := Aside0.mk H
    clear H
    have hnb21 := NB001_40002.out
    have hnc21 := NB002_40001.out
    have hcz22_0 : w5.cell? ⟨gb001, 0, none⟩ = some (.string a0_0) := (blk_cell BK001.out 0).trans rfl
    have hcz22_1 : w5.cell? ⟨gb001, 1, none⟩ = some (.slice A0_1 l0_1.length c0_1) := (blk_cell BK001.out 1).trans rfl
    have hcz22_2 : w5.cell? ⟨gb001, 2, none⟩ = some (.int .i64 a0_2) := (blk_cell BK001.out 2).trans rfl
    have hcz22_3 : w5.cell? ⟨gb001, 3, none⟩ = some (.slice A0_3 l0_3.length c0_3) := (blk_cell BK001.out 3).trans rfl
    have hcz22_4 : w5.cell? ⟨gb001, 4, none⟩ = some (.slice A0_4 l0_4.length c0_4) := (blk_cell BK001.out 4).trans rfl
    have hfz22_0 := blk_frozen BK001.out 0
    have hfz22_1 := blk_frozen BK001.out 1
    have hfz22_2 := blk_frozen BK001.out 2
    have hfz22_3 := blk_frozen BK001.out 3
    have hfz22_4 := blk_frozen BK001.out 4
    have hcz23_0 : w5.cell? ⟨gb002, 0, none⟩ = some (.string a1_0) := (blk_cell BK002.out 0).trans rfl
    have hcz23_1 : w5.cell? ⟨gb002, 1, none⟩ = some (.slice A1_1 l1_1.length c1_1) := (blk_cell BK002.out 1).trans rfl
    have hcz23_2 : w5.cell? ⟨gb002, 2, none⟩ = some (.int .i64 a1_2) := (blk_cell BK002.out 2).trans rfl
    have hcz23_3 : w5.cell? ⟨gb002, 3, none⟩ = some (.slice A1_3 l1_3.length c1_3) := (blk_cell BK002.out 3).trans rfl
    have hcz23_4 : w5.cell? ⟨gb002, 4, none⟩ = some (.slice A1_4 l1_4.length c1_4) := (blk_cell BK002.out 4).trans rfl
    have hfz23_0 := blk_frozen BK002.out 0
    have hfz23_1 := blk_frozen BK002.out 1
    have hfz23_2 := blk_frozen BK002.out 2
    have hfz23_3 := blk_frozen BK002.out 3
    have hfz23_4 := blk_frozen BK002.out 4
    go_wp2
    repeat (go_quiet (fail); try go_wp2)
    go_meet
    case rel => exact ⟨_, (true), (by first | rfl | (simp; done) | (simp [*]; done)), H', ⟨by first | omega | exact Nat.le_refl _⟩, ⟨by (with_reducible repeat (first | refine blk_drewN ?_ _ | refine blk_drew ?_ | refine blk_alloc ?_ _)); exact BK001.out⟩, ⟨by (with_reducible repeat (first | refine blk_drewN ?_ _ | refine blk_drew ?_ | refine blk_alloc ?_ _)); exact BK002.out⟩, ⟨by repeat (first | (with_reducible first | exact HB.out | apply below_alloc | apply pw_below_drewN | apply below_drew1 | refine below_set ?_ GE001.out | refine below_set ?_ GE002.out) | exact HB.out)⟩⟩
  ·rw [if_neg c6] at H
   have c6b0 : (a0_0.toList == a1_0.toList) = false := beq_eq_false_iff_ne.mpr c6
   have c6b1 : (a0_0.toList != a1_0.toList) = true := bne_iff_ne.mpr c6
   (first | rw [c6b0] | (simp only [i64_w, i32_w]; rw [c6b0]) | skip)
   have H' := Aside0.mk H
   clear H
   have hnb24 := NB001_40002.out
   have hnc24 := NB002_40001.out
   have hcz25_0 : w5.cell? ⟨gb001, 0, none⟩ = some (.string a0_0) := (blk_cell BK001.out 0).trans rfl
   have hcz25_1 : w5.cell? ⟨gb001, 1, none⟩ = some (.slice A0_1 l0_1.length c0_1) := (blk_cell BK001.out 1).trans rfl
   have hcz25_2 : w5.cell? ⟨gb001, 2, none⟩ = some (.int .i64 a0_2) := (blk_cell BK001.out 2).trans rfl
   have hcz25_3 : w5.cell? ⟨gb001, 3, none⟩ = some (.slice A0_3 l0_3.length c0_3) := (blk_cell BK001.out 3).trans rfl
   have hcz25_4 : w5.cell? ⟨gb001, 4, none⟩ = some (.slice A0_4 l0_4.length c0_4) := (blk_cell BK001.out 4).trans rfl
   have hfz25_0 := blk_frozen BK001.out 0
   have hfz25_1 := blk_frozen BK001.out 1
   have hfz25_2 := blk_frozen BK001.out 2
   have hfz25_3 := blk_frozen BK001.out 3
   have hfz25_4 := blk_frozen BK001.out 4
   have hcz26_0 : w5.cell? ⟨gb002, 0, none⟩ = some (.string a1_0) := (blk_cell BK002.out 0).trans rfl
   have hcz26_1 : w5.cell? ⟨gb002, 1, none⟩ = some (.slice A1_1 l1_1.length c1_1) := (blk_cell BK002.out 1).trans rfl
   have hcz26_2 : w5.cell? ⟨gb002, 2, none⟩ = some (.int .i64 a1_2) := (blk_cell BK002.out 2).trans rfl
   have hcz26_3 : w5.cell? ⟨gb002, 3, none⟩ = some (.slice A1_3 l1_3.length c1_3) := (blk_cell BK002.out 3).trans rfl
   have hcz26_4 : w5.cell? ⟨gb002, 4, none⟩ = some (.slice A1_4 l1_4.length c1_4) := (blk_cell BK002.out 4).trans rfl
   have hfz26_0 := blk_frozen BK002.out 0
   have hfz26_1 := blk_frozen BK002.out 1
   have hfz26_2 := blk_frozen BK002.out 2
   have hfz26_3 := blk_frozen BK002.out 3
   have hfz26_4 := blk_frozen BK002.out 4
   go_wp2
   repeat (go_quiet (fail); try go_wp2)
   go_meet
   case rel => exact ⟨_, (true), (by first | rfl | (simp; done) | (simp [*]; done)), H', ⟨by first | omega | exact Nat.le_refl _⟩, ⟨by (with_reducible repeat (first | refine blk_drewN ?_ _ | refine blk_drew ?_ | refine blk_alloc ?_ _)); exact BK001.out⟩, ⟨by (with_reducible repeat (first | refine blk_drewN ?_ _ | refine blk_drew ?_ | refine blk_alloc ?_ _)); exact BK002.out⟩, ⟨by repeat (first | (with_reducible first | exact HB.out | apply below_alloc | apply pw_below_drewN | apply below_drew1 | refine below_set ?_ GE001.out | refine below_set ?_ GE002.out) | exact HB.out)⟩⟩
 case rest =>
  clear HC3
  try clear c1
  try clear c2
  try clear p2
  try clear c3
  try clear c6
  try clear c6b0
  try clear c6b1
  try clear c7
  try clear c7b0
  try clear c7b1
  try clear c9
  try clear c11
  try clear c12
  try clear c15
  try clear c18
  try clear c21
  try clear c24
  try clear hcz13_0
  try clear hcz13_1
  try clear hcz13_2
  try clear hcz13_3
  try clear hcz13_4
  try clear hcz14_0
  try clear hcz14_1
  try clear hcz14_2
  try clear hcz14_3
  try clear hcz14_4
  try clear hcz16_0
  try clear hcz16_1
  try clear hcz16_2
  try clear hcz16_3
  try clear hcz16_4
  try clear hcz17_0
  try clear hcz17_1
  try clear hcz17_2
  try clear hcz17_3
  try clear hcz17_4
  try clear hcz19_0
  try clear hcz19_1
  try clear hcz19_2
  try clear hcz19_3
  try clear hcz19_4
  try clear hcz20_0
  try clear hcz20_1
  try clear hcz20_2
  try clear hcz20_3
  try clear hcz20_4
  try clear hcz22_0
  try clear hcz22_1
  try clear hcz22_2
  try clear hcz22_3
  try clear hcz22_4
  try clear hcz23_0
  try clear hcz23_1
  try clear hcz23_2
  try clear hcz23_3
  try clear hcz23_4
  try clear hcz25_0
  try clear hcz25_1
  try clear hcz25_2
  try clear hcz25_3
  try clear hcz25_4
  try clear hcz26_0
  try clear hcz26_1
  try clear hcz26_2
  try clear hcz26_3
  try clear hcz26_4
  try clear hfz13_0
  try clear hfz13_1
  try clear hfz13_2
  try clear hfz13_3
  try clear hfz13_4
  try clear hfz14_0
  try clear hfz14_1
  try clear hfz14_2
  try clear hfz14_3
  try clear hfz14_4
  try clear hfz16_0
  try clear hfz16_1
  try clear hfz16_2
  try clear hfz16_3
  try clear hfz16_4
  try clear hfz17_0
  try clear hfz17_1
  try clear hfz17_2
  try clear hfz17_3
  try clear hfz17_4
  try clear hfz19_0
  try clear hfz19_1
  try clear hfz19_2
  try clear hfz19_3
  try clear hfz19_4
  try clear hfz20_0
  try clear hfz20_1
  try clear hfz20_2
  try clear hfz20_3
  try clear hfz20_4
  try clear hfz22_0
  try clear hfz22_1
  try clear hfz22_2
  try clear hfz22_3
  try clear hfz22_4
  try clear hfz23_0
  try clear hfz23_1
  try clear hfz23_2
  try clear hfz23_3
  try clear hfz23_4
  try clear hfz25_0
  try clear hfz25_1
  try clear hfz25_2
  try clear hfz25_3
  try clear hfz25_4
  try clear hfz26_0
  try clear hfz26_1
  try clear hfz26_2
  try clear hfz26_3
  try clear hfz26_4
  obtain ⟨kq, x42_2, rfl, HA, HJ2, BK001, BK002, HB⟩ := hcut
  cases kq with
  | zero => exact absurd HA.out (by simp [tinderref08_SameNode.j0])
  | succ kj2 =>
   have H := HA.out
   clear HA
   simp only [tinderref08_SameNode.j0] at H
   by_cases c27 : x42_2 = true
   ·subst c27
    have H1 : (some false) = some r := by rw [if_pos rfl] at H; exact H
    clear H
    have H := H1
    clear H1
    obtain rfl := Option.some.inj H
    go_wp2
    repeat (go_quiet (fail); try go_wp2)
    go_ret
    exact ⟨by first | rfl | (simp [errW_none, errW_some] <;> rfl) | (simp [*, errW_none, errW_some] <;> rfl), by repeat (first | (with_reducible first | exact HB.out | apply below_alloc | apply pw_below_drewN | apply below_drew1 | refine below_set ?_ GE001.out | refine below_set ?_ GE002.out) | exact HB.out)⟩
   ·replace c27 := Bool.eq_false_iff.mpr c27
    subst c27
    have H1 : (tinderref08_SameNode.l0 kj2 0 a0_0 l0_1 a0_2 l0_3 l0_4 a1_0 l1_1 a1_2 l1_3 l1_4) = some r := by rw [if_neg (show ¬ (false = true) by decide)] at H; exact H
    clear H
    have H := H1
    clear H1
    have H' := Aside0.mk H
    clear H
    go_wp2
    repeat (go_quiet (fail); try go_wp2)
    go_loopg [5] kj2 (fun kq v5 w' => ∃ (x5_2 : Int), v5 = .int .i64 x5_2 ∧ Aside0 (tinderref08_SameNode.l0 kq x5_2 a0_0 l0_1 a0_2 l0_3 l0_4 a1_0 l1_1 a1_2 l1_3 l1_4 = some r) ∧ Aside0 (kq ≤ kj2) ∧ Aside0 (w'.heap[gb001]? = some (.cells #[.string a0_0, (.slice A0_1 l0_1.length c0_1), .int .i64 a0_2, (.slice A0_3 l0_3.length c0_3), (.slice A0_4 l0_4.length c0_4)] 44 (0, 0))) ∧ Aside0 (w'.heap[gb002]? = some (.cells #[.string a1_0, (.slice A1_1 l1_1.length c1_1), .int .i64 a1_2, (.slice A1_3 l1_3.length c1_3), (.slice A1_4 l1_4.length c1_4)] 44 (0, 0))) ∧ Aside0 (Below w.heap.size w w'))
    case atStart => exact ⟨(0), (by first | rfl | (simp; done) | (simp [*]; done)), H', ⟨Nat.le_refl _⟩, ⟨by (with_reducible repeat (first | refine blk_drewN ?_ _ | refine blk_drew ?_ | refine blk_alloc ?_ _)); exact BK001.out⟩, ⟨by (with_reducible repeat (first | refine blk_drewN ?_ _ | refine blk_drew ?_ | refine blk_alloc ?_ _)); exact BK002.out⟩, ⟨by repeat (first | (with_reducible first | exact HB.out | apply below_alloc | apply pw_below_drewN | apply below_drew1 | refine below_set ?_ GE001.out | refine below_set ?_ GE002.out) | exact HB.out)⟩⟩
    case round =>
     clear H'
     try clear c1
     try clear c2
     try clear p2
     try clear c3
     try clear c6
     try clear c6b0
     try clear c6b1
     try clear c7
     try clear c7b0
     try clear c7b1
     try clear c9
     try clear c11
     try clear c12
     try clear c15
     try clear c18
     try clear c21
     try clear c24
     try clear c27
     try clear hcz13_0
     try clear hcz13_1
     try clear hcz13_2
     try clear hcz13_3
     try clear hcz13_4
     try clear hcz14_0
     try clear hcz14_1
     try clear hcz14_2
     try clear hcz14_3
     try clear hcz14_4
     try clear hcz16_0
     try clear hcz16_1
     try clear hcz16_2
     try clear hcz16_3
     try clear hcz16_4
     try clear hcz17_0
     try clear hcz17_1
     try clear hcz17_2
     try clear hcz17_3
     try clear hcz17_4
     try clear hcz19_0
     try clear hcz19_1
     try clear hcz19_2
     try clear hcz19_3
     try clear hcz19_4
     try clear hcz20_0
     try clear hcz20_1
     try clear hcz20_2
     try clear hcz20_3
     try clear hcz20_4
     try clear hcz22_0
     try clear hcz22_1
     try clear hcz22_2
     try clear hcz22_3
     try clear hcz22_4
     try clear hcz23_0
     try clear hcz23_1
     try clear hcz23_2
     try clear hcz23_3
     try clear hcz23_4
     try clear hcz25_0
     try clear hcz25_1
     try clear hcz25_2
     try clear hcz25_3
     try clear hcz25_4
     try clear hcz26_0
     try clear hcz26_1
     try clear hcz26_2
     try clear hcz26_3
     try clear hcz26_4
     try clear hfz13_0
     try clear hfz13_1
     try clear hfz13_2
     try clear hfz13_3
     try clear hfz13_4
     try clear hfz14_0
     try clear hfz14_1
     try clear hfz14_2
     try clear hfz14_3
     try clear hfz14_4
     try clear hfz16_0
     try clear hfz16_1
     try clear hfz16_2
     try clear hfz16_3
     try clear hfz16_4
     try clear hfz17_0
     try clear hfz17_1
     try clear hfz17_2
     try clear hfz17_3
     try clear hfz17_4
     try clear hfz19_0
     try clear hfz19_1
     try clear hfz19_2
     try clear hfz19_3
     try clear hfz19_4
     try clear hfz20_0
     try clear hfz20_1
     try clear hfz20_2
     try clear hfz20_3
     try clear hfz20_4
     try clear hfz22_0
     try clear hfz22_1
     try clear hfz22_2
     try clear hfz22_3
     try clear hfz22_4
     try clear hfz23_0
     try clear hfz23_1
     try clear hfz23_2
     try clear hfz23_3
     try clear hfz23_4
     try clear hfz25_0
     try clear hfz25_1
     try clear hfz25_2
     try clear hfz25_3
     try clear hfz25_4
     try clear hfz26_0
     try clear hfz26_1
     try clear hfz26_2
     try clear hfz26_3
     try clear hfz26_4
     try clear p2
     obtain ⟨x5_2, rfl, HA, HK2, BK001, BK002, HB⟩ := hrel
     cases gk with
     | zero => exact absurd HA.out (by simp [tinderref08_SameNode.l0])
     | succ k2 =>
      have H := HA.out
      clear HA
      simp only [tinderref08_SameNode.l0] at H
      by_cases c28 : x5_2 < (l0_3.length : Int)
      ·rw [if_pos c28] at H
       have c28b0 : decide (x5_2 < (l0_3.length : Int)) = true := decide_eq_true c28
       clear c28
       by_cases c29 : 0 ≤ x5_2
       ·rw [if_pos c29] at H
        have c29b0 : decide (0 ≤ x5_2) = true := decide_eq_true c29
        clear c29
        by_cases c30 : x5_2 < (l1_3.length : Int)
        ·rw [if_pos c30] at H
         have c30b0 : decide (x5_2 < (l1_3.length : Int)) = true := decide_eq_true c30
         clear c30
         by_cases c31 : ((rd_T53 l0_3 x5_2).f0).toList = ((rd_T53 l1_3 x5_2).f0).toList
         ·rw [if_pos c31] at H
          have c31b0 : (((rd_T53 l0_3 x5_2).f0).toList == ((rd_T53 l1_3 x5_2).f0).toList) = true := beq_iff_eq.mpr c31
          have c31b1 : (((rd_T53 l0_3 x5_2).f0).toList != ((rd_T53 l1_3 x5_2).f0).toList) = false := bne_eq_false_iff_eq.mpr c31
          clear c31
          replace H := Option.bind_eq_some_iff.mp H
          obtain ⟨t009, A320, H⟩ := H
          replace H : (if t009 = true then (tinderref08_SameNode.l0 k2 (wrap64 (x5_2 + 1)) a0_0 l0_1 a0_2 l0_3 l0_4 a1_0 l1_1 a1_2 l1_3 l1_4) else (some false)) = some r := H
          have A32 := Aside0.mk A320
          clear A320
          by_cases c33 : t009 = true
          ·subst c33
           have H1 : (tinderref08_SameNode.l0 k2 (wrap64 (x5_2 + 1)) a0_0 l0_1 a0_2 l0_3 l0_4 a1_0 l1_1 a1_2 l1_3 l1_4) = some r := by rw [if_pos rfl] at H; exact H
           clear H
           have H := H1
           clear H1
           have H' := Aside0.mk H
           clear H
           have hnb34 := NB001_40002.out
           have hnc34 := NB002_40001.out
           have hcz35_0 : wr.cell? ⟨gb001, 0, none⟩ = some (.string a0_0) := (blk_cell BK001.out 0).trans rfl
           have hcz35_1 : wr.cell? ⟨gb001, 1, none⟩ = some (.slice A0_1 l0_1.length c0_1) := (blk_cell BK001.out 1).trans rfl
           have hcz35_2 : wr.cell? ⟨gb001, 2, none⟩ = some (.int .i64 a0_2) := (blk_cell BK001.out 2).trans rfl
           have hcz35_3 : wr.cell? ⟨gb001, 3, none⟩ = some (.slice A0_3 l0_3.length c0_3) := (blk_cell BK001.out 3).trans rfl
           have hcz35_4 : wr.cell? ⟨gb001, 4, none⟩ = some (.slice A0_4 l0_4.length c0_4) := (blk_cell BK001.out 4).trans rfl
           have hfz35_0 := blk_frozen BK001.out 0
           have hfz35_1 := blk_frozen BK001.out 1
           have hfz35_2 := blk_frozen BK001.out 2
           have hfz35_3 := blk_frozen BK001.out 3
           have hfz35_4 := blk_frozen BK001.out 4
           have p005 : 0 ≤ (x5_2 : Int) := of_decide_eq_true (by first | (with_reducible assumption) | assumption)
           have q005 : x5_2 < (l0_3.length : Int) := of_decide_eq_true (by first | (with_reducible assumption) | assumption)
           obtain ⟨ad005, A005_1, c005_1, e005, hx005_0, hx005_1, hl005_1, hi005_1⟩ := at_T53 HR0_3.out x5_2 p005 q005
           cases e005
           replace hx005_0 := (HB.out.cell (World.block_lt_of_cell? w _ hx005_0)).trans hx005_0
           replace hx005_1 := (HB.out.cell (World.block_lt_of_cell? w _ hx005_1)).trans hx005_1
           have HR005_1 := Aside0.mk hi005_1
           have HC005_1 := Aside0.mk hl005_1
           clear hi005_1 hl005_1
           replace p005 := eq_true p005
           replace q005 := eq_true q005
           have hcz36_0 : wr.cell? ⟨gb002, 0, none⟩ = some (.string a1_0) := (blk_cell BK002.out 0).trans rfl
           have hcz36_1 : wr.cell? ⟨gb002, 1, none⟩ = some (.slice A1_1 l1_1.length c1_1) := (blk_cell BK002.out 1).trans rfl
           have hcz36_2 : wr.cell? ⟨gb002, 2, none⟩ = some (.int .i64 a1_2) := (blk_cell BK002.out 2).trans rfl
           have hcz36_3 : wr.cell? ⟨gb002, 3, none⟩ = some (.slice A1_3 l1_3.length c1_3) := (blk_cell BK002.out 3).trans rfl
           have hcz36_4 : wr.cell? ⟨gb002, 4, none⟩ = some (.slice A1_4 l1_4.length c1_4) := (blk_cell BK002.out 4).trans rfl
           have hfz36_0 := blk_frozen BK002.out 0
           have hfz36_1 := blk_frozen BK002.out 1
           have hfz36_2 := blk_frozen BK002.out 2
           have hfz36_3 := blk_frozen BK002.out 3
           have hfz36_4 := blk_frozen BK002.out 4
           have p006 : 0 ≤ (x5_2 : Int) := of_decide_eq_true (by first | (with_reducible assumption) | assumption)
           have q006 : x5_2 < (l1_3.length : Int) := of_decide_eq_true (by first | (with_reducible assumption) | assumption)
           obtain ⟨ad006, A006_1, c006_1, e006, hx006_0, hx006_1, hl006_1, hi006_1⟩ := at_T53 HR1_3.out x5_2 p006 q006
           cases e006
           replace hx006_0 := (HB.out.cell (World.block_lt_of_cell? w _ hx006_0)).trans hx006_0
           replace hx006_1 := (HB.out.cell (World.block_lt_of_cell? w _ hx006_1)).trans hx006_1
           have HR006_1 := Aside0.mk hi006_1
           have HC006_1 := Aside0.mk hl006_1
           clear hi006_1 hl006_1
           replace p006 := eq_true p006
           replace q006 := eq_true q006
           have p007 : 0 ≤ (x5_2 : Int) := of_decide_eq_true (by first | (with_reducible assumption) | assumption)
           have q007 : x5_2 < (l0_3.length : Int) := of_decide_eq_true (by first | (with_reducible assumption) | assumption)
           obtain ⟨ad007, A007_1, c007_1, e007, hx007_0, hx007_1, hl007_1, hi007_1⟩ := at_T53 HR0_3.out x5_2 p007 q007
           obtain rfl : ad005 = ad007 := (by injection e007)
           replace hx007_0 := (HB.out.cell (World.block_lt_of_cell? w _ hx007_0)).trans hx007_0
           replace hx007_1 := (HB.out.cell (World.block_lt_of_cell? w _ hx007_1)).trans hx007_1
           have HR007_1 := Aside0.mk hi007_1
           have HC007_1 := Aside0.mk hl007_1
           clear hi007_1 hl007_1
           replace p007 := eq_true p007
           replace q007 := eq_true q007
           have ea_ := Option.some.inj (hx005_1.symm.trans hx007_1)
           injection ea_ with ea_ en_ ec_
           subst ea_
           subst ec_
           clear en_
           have p008 : 0 ≤ (x5_2 : Int) := of_decide_eq_true (by first | (with_reducible assumption) | assumption)
           have q008 : x5_2 < (l1_3.length : Int) := of_decide_eq_true (by first | (with_reducible assumption) | assumption)
           obtain ⟨ad008, A008_1, c008_1, e008, hx008_0, hx008_1, hl008_1, hi008_1⟩ := at_T53 HR1_3.out x5_2 p008 q008
           obtain rfl : ad006 = ad008 := (by injection e008)
           replace hx008_0 := (HB.out.cell (World.block_lt_of_cell? w _ hx008_0)).trans hx008_0
           replace hx008_1 := (HB.out.cell (World.block_lt_of_cell? w _ hx008_1)).trans hx008_1
           have HR008_1 := Aside0.mk hi008_1
           have HC008_1 := Aside0.mk hl008_1
           clear hi008_1 hl008_1
           replace p008 := eq_true p008
           replace q008 := eq_true q008
           have ea_ := Option.some.inj (hx006_1.symm.trans hx008_1)
           injection ea_ with ea_ en_ ec_
           subst ea_
           subst ec_
           clear en_
           go_wp2_with (first | (go_at_call 31; (with_reducible refine (tinderref04_Same.calls _ _ ((rd_T53 l0_3 x5_2).f1) _ _ ((rd_T53 l1_3 x5_2).f1) true _ ?side1 ?side2 ?side3 ?side4 A32.out).mono ?_); (case side1 => repeat (first | exact (Kd.C_below HR007_1.out HB.out) | (with_reducible refine Kd.C_alloc ?_ _) | (with_reducible refine Kd.C_drewN ?_ _) | (with_reducible refine Kd.C_drew ?_))); (case side2 => exact HC007_1.out); (case side3 => repeat (first | exact (Kd.C_below HR008_1.out HB.out) | (with_reducible refine Kd.C_alloc ?_ _) | (with_reducible refine Kd.C_drewN ?_ _) | (with_reducible refine Kd.C_drew ?_))); (case side4 => exact HC008_1.out); rintro e w' ⟨rfl, ⟨nd, rfl⟩⟩; (try first | exact ⟨rfl, _, World.drewN_drewN _ _ _⟩ | exact ⟨rfl, _, Eq.trans (World.drewN_drewN _ _ _) (congrArg (World.drewN _) (Nat.add_assoc _ _ _))⟩)))
           repeat (go_quiet (first | (go_at_call 31; (with_reducible refine (tinderref04_Same.calls _ _ ((rd_T53 l0_3 x5_2).f1) _ _ ((rd_T53 l1_3 x5_2).f1) true _ ?side1 ?side2 ?side3 ?side4 A32.out).mono ?_); (case side1 => repeat (first | exact (Kd.C_below HR007_1.out HB.out) | (with_reducible refine Kd.C_alloc ?_ _) | (with_reducible refine Kd.C_drewN ?_ _) | (with_reducible refine Kd.C_drew ?_))); (case side2 => exact HC007_1.out); (case side3 => repeat (first | exact (Kd.C_below HR008_1.out HB.out) | (with_reducible refine Kd.C_alloc ?_ _) | (with_reducible refine Kd.C_drewN ?_ _) | (with_reducible refine Kd.C_drew ?_))); (case side4 => exact HC008_1.out); rintro e w' ⟨rfl, ⟨nd, rfl⟩⟩; (try first | exact ⟨rfl, _, World.drewN_drewN _ _ _⟩ | exact ⟨rfl, _, Eq.trans (World.drewN_drewN _ _ _) (congrArg (World.drewN _) (Nat.add_assoc _ _ _))⟩))); try go_wp2_with (first | (go_at_call 31; (with_reducible refine (tinderref04_Same.calls _ _ ((rd_T53 l0_3 x5_2).f1) _ _ ((rd_T53 l1_3 x5_2).f1) true _ ?side1 ?side2 ?side3 ?side4 A32.out).mono ?_); (case side1 => repeat (first | exact (Kd.C_below HR007_1.out HB.out) | (with_reducible refine Kd.C_alloc ?_ _) | (with_reducible refine Kd.C_drewN ?_ _) | (with_reducible refine Kd.C_drew ?_))); (case side2 => exact HC007_1.out); (case side3 => repeat (first | exact (Kd.C_below HR008_1.out HB.out) | (with_reducible refine Kd.C_alloc ?_ _) | (with_reducible refine Kd.C_drewN ?_ _) | (with_reducible refine Kd.C_drew ?_))); (case side4 => exact HC008_1.out); rintro e w' ⟨rfl, ⟨nd, rfl⟩⟩; (try first | exact ⟨rfl, _, World.drewN_drewN _ _ _⟩ | exact ⟨rfl, _, Eq.trans (World.drewN_drewN _ _ _) (congrArg (World.drewN _) (Nat.add_assoc _ _ _))⟩))))
           go_roundg k2
           case measure => have := HJ2.out; have := HK2.out; omega
           case rel => exact ⟨(wrap64 (x5_2 + 1)), (by first | rfl | (simp; done) | (simp [*]; done)), H', ⟨by have := HJ2.out; have := HK2.out; omega⟩, ⟨by (with_reducible repeat (first | refine blk_drewN ?_ _ | refine blk_drew ?_ | refine blk_alloc ?_ _)); exact BK001.out⟩, ⟨by (with_reducible repeat (first | refine blk_drewN ?_ _ | refine blk_drew ?_ | refine blk_alloc ?_ _)); exact BK002.out⟩, ⟨by repeat (first | (with_reducible first | exact HB.out | apply below_alloc | apply pw_below_drewN | apply below_drew1 | refine below_set ?_ GE001.out | refine below_set ?_ GE002.out) | exact HB.out)⟩⟩
          ·replace c33 := Bool.eq_false_iff.mpr c33
           subst c33
           have H1 : (some false) = some r := by rw [if_neg (show ¬ (false = true) by decide)] at H; exact H
           clear H
           have H := H1
           clear H1
           obtain rfl := Option.some.inj H
           have hnb37 := NB001_40002.out
           have hnc37 := NB002_40001.out
           have hcz38_0 : wr.cell? ⟨gb001, 0, none⟩ = some (.string a0_0) := (blk_cell BK001.out 0).trans rfl
           have hcz38_1 : wr.cell? ⟨gb001, 1, none⟩ = some (.slice A0_1 l0_1.length c0_1) := (blk_cell BK001.out 1).trans rfl
           have hcz38_2 : wr.cell? ⟨gb001, 2, none⟩ = some (.int .i64 a0_2) := (blk_cell BK001.out 2).trans rfl
           have hcz38_3 : wr.cell? ⟨gb001, 3, none⟩ = some (.slice A0_3 l0_3.length c0_3) := (blk_cell BK001.out 3).trans rfl
           have hcz38_4 : wr.cell? ⟨gb001, 4, none⟩ = some (.slice A0_4 l0_4.length c0_4) := (blk_cell BK001.out 4).trans rfl
           have hfz38_0 := blk_frozen BK001.out 0
           have hfz38_1 := blk_frozen BK001.out 1
           have hfz38_2 := blk_frozen BK001.out 2
           have hfz38_3 := blk_frozen BK001.out 3
           have hfz38_4 := blk_frozen BK001.out 4
           have p005 : 0 ≤ (x5_2 : Int) := of_decide_eq_true (by first | (with_reducible assumption) | assumption)
           have q005 : x5_2 < (l0_3.length : Int) := of_decide_eq_true (by first | (with_reducible assumption) | assumption)
           obtain ⟨ad005, A005_1, c005_1, e005, hx005_0, hx005_1, hl005_1, hi005_1⟩ := at_T53 HR0_3.out x5_2 p005 q005
           cases e005
           replace hx005_0 := (HB.out.cell (World.block_lt_of_cell? w _ hx005_0)).trans hx005_0
           replace hx005_1 := (HB.out.cell (World.block_lt_of_cell? w _ hx005_1)).trans hx005_1
           have HR005_1 := Aside0.mk hi005_1
           have HC005_1 := Aside0.mk hl005_1
           clear hi005_1 hl005_1
           replace p005 := eq_true p005
           replace q005 := eq_true q005
           have hcz39_0 : wr.cell? ⟨gb002, 0, none⟩ = some (.string a1_0) := (blk_cell BK002.out 0).trans rfl
           have hcz39_1 : wr.cell? ⟨gb002, 1, none⟩ = some (.slice A1_1 l1_1.length c1_1) := (blk_cell BK002.out 1).trans rfl
           have hcz39_2 : wr.cell? ⟨gb002, 2, none⟩ = some (.int .i64 a1_2) := (blk_cell BK002.out 2).trans rfl
           have hcz39_3 : wr.cell? ⟨gb002, 3, none⟩ = some (.slice A1_3 l1_3.length c1_3) := (blk_cell BK002.out 3).trans rfl
           have hcz39_4 : wr.cell? ⟨gb002, 4, none⟩ = some (.slice A1_4 l1_4.length c1_4) := (blk_cell BK002.out 4).trans rfl
           have hfz39_0 := blk_frozen BK002.out 0
           have hfz39_1 := blk_frozen BK002.out 1
           have hfz39_2 := blk_frozen BK002.out 2
           have hfz39_3 := blk_frozen BK002.out 3
           have hfz39_4 := blk_frozen BK002.out 4
           have p006 : 0 ≤ (x5_2 : Int) := of_decide_eq_true (by first | (with_reducible assumption) | assumption)
           have q006 : x5_2 < (l1_3.length : Int) := of_decide_eq_true (by first | (with_reducible assumption) | assumption)
           obtain ⟨ad006, A006_1, c006_1, e006, hx006_0, hx006_1, hl006_1, hi006_1⟩ := at_T53 HR1_3.out x5_2 p006 q006
           cases e006
           replace hx006_0 := (HB.out.cell (World.block_lt_of_cell? w _ hx006_0)).trans hx006_0
           replace hx006_1 := (HB.out.cell (World.block_lt_of_cell? w _ hx006_1)).trans hx006_1
           have HR006_1 := Aside0.mk hi006_1
           have HC006_1 := Aside0.mk hl006_1
           clear hi006_1 hl006_1
           replace p006 := eq_true p006
           replace q006 := eq_true q006
           have p007 : 0 ≤ (x5_2 : Int) := of_decide_eq_true (by first | (with_reducible assumption) | assumption)
           have q007 : x5_2 < (l0_3.length : Int) := of_decide_eq_true (by first | (with_reducible assumption) | assumption)
           obtain ⟨ad007, A007_1, c007_1, e007, hx007_0, hx007_1, hl007_1, hi007_1⟩ := at_T53 HR0_3.out x5_2 p007 q007
           obtain rfl : ad005 = ad007 := (by injection e007)
           replace hx007_0 := (HB.out.cell (World.block_lt_of_cell? w _ hx007_0)).trans hx007_0
           replace hx007_1 := (HB.out.cell (World.block_lt_of_cell? w _ hx007_1)).trans hx007_1
           have HR007_1 := Aside0.mk hi007_1
           have HC007_1 := Aside0.mk hl007_1
           clear hi007_1 hl007_1
           replace p007 := eq_true p007
           replace q007 := eq_true q007
           have ea_ := Option.some.inj (hx005_1.symm.trans hx007_1)
           injection ea_ with ea_ en_ ec_
           subst ea_
           subst ec_
           clear en_
           have p008 : 0 ≤ (x5_2 : Int) := of_decide_eq_true (by first | (with_reducible assumption) | assumption)
           have q008 : x5_2 < (l1_3.length : Int) := of_decide_eq_true (by first | (with_reducible assumption) | assumption)
           obtain ⟨ad008, A008_1, c008_1, e008, hx008_0, hx008_1, hl008_1, hi008_1⟩ := at_T53 HR1_3.out x5_2 p008 q008
           obtain rfl : ad006 = ad008 := (by injection e008)
           replace hx008_0 := (HB.out.cell (World.block_lt_of_cell? w _ hx008_0)).trans hx008_0
           replace hx008_1 := (HB.out.cell (World.block_lt_of_cell? w _ hx008_1)).trans hx008_1
           have HR008_1 := Aside0.mk hi008_1
           have HC008_1 := Aside0.mk hl008_1
           clear hi008_1 hl008_1
           replace p008 := eq_true p008
           replace q008 := eq_true q008
           have ea_ := Option.some.inj (hx006_1.symm.trans hx008_1)
           injection ea_ with ea_ en_ ec_
           subst ea_
           subst ec_
           clear en_
           go_wp2_with (first | (go_at_call 31; (with_reducible refine (tinderref04_Same.calls _ _ ((rd_T53 l0_3 x5_2).f1) _ _ ((rd_T53 l1_3 x5_2).f1) false _ ?side1 ?side2 ?side3 ?side4 A32.out).mono ?_); (case side1 => repeat (first | exact (Kd.C_below HR007_1.out HB.out) | (with_reducible refine Kd.C_alloc ?_ _) | (with_reducible refine Kd.C_drewN ?_ _) | (with_reducible refine Kd.C_drew ?_))); (case side2 => exact HC007_1.out); (case side3 => repeat (first | exact (Kd.C_below HR008_1.out HB.out) | (with_reducible refine Kd.C_alloc ?_ _) | (with_reducible refine Kd.C_drewN ?_ _) | (with_reducible refine Kd.C_drew ?_))); (case side4 => exact HC008_1.out); rintro e w' ⟨rfl, ⟨nd, rfl⟩⟩; (try first | exact ⟨rfl, _, World.drewN_drewN _ _ _⟩ | exact ⟨rfl, _, Eq.trans (World.drewN_drewN _ _ _) (congrArg (World.drewN _) (Nat.add_assoc _ _ _))⟩)))
           repeat (go_quiet (first | (go_at_call 31; (with_reducible refine (tinderref04_Same.calls _ _ ((rd_T53 l0_3 x5_2).f1) _ _ ((rd_T53 l1_3 x5_2).f1) false _ ?side1 ?side2 ?side3 ?side4 A32.out).mono ?_); (case side1 => repeat (first | exact (Kd.C_below HR007_1.out HB.out) | (with_reducible refine Kd.C_alloc ?_ _) | (with_reducible refine Kd.C_drewN ?_ _) | (with_reducible refine Kd.C_drew ?_))); (case side2 => exact HC007_1.out); (case side3 => repeat (first | exact (Kd.C_below HR008_1.out HB.out) | (with_reducible refine Kd.C_alloc ?_ _) | (with_reducible refine Kd.C_drewN ?_ _) | (with_reducible refine Kd.C_drew ?_))); (case side4 => exact HC008_1.out); rintro e w' ⟨rfl, ⟨nd, rfl⟩⟩; (try first | exact ⟨rfl, _, World.drewN_drewN _ _ _⟩ | exact ⟨rfl, _, Eq.trans (World.drewN_drewN _ _ _) (congrArg (World.drewN _) (Nat.add_assoc _ _ _))⟩))); try go_wp2_with (first | (go_at_call 31; (with_reducible refine (tinderref04_Same.calls _ _ ((rd_T53 l0_3 x5_2).f1) _ _ ((rd_T53 l1_3 x5_2).f1) false _ ?side1 ?side2 ?side3 ?side4 A32.out).mono ?_); (case side1 => repeat (first | exact (Kd.C_below HR007_1.out HB.out) | (with_reducible refine Kd.C_alloc ?_ _) | (with_reducible refine Kd.C_drewN ?_ _) | (with_reducible refine Kd.C_drew ?_))); (case side2 => exact HC007_1.out); (case side3 => repeat (first | exact (Kd.C_below HR008_1.out HB.out) | (with_reducible refine Kd.C_alloc ?_ _) | (with_reducible refine Kd.C_drewN ?_ _) | (with_reducible refine Kd.C_drew ?_))); (case side4 => exact HC008_1.out); rintro e w' ⟨rfl, ⟨nd, rfl⟩⟩; (try first | exact ⟨rfl, _, World.drewN_drewN _ _ _⟩ | exact ⟨rfl, _, Eq.trans (World.drewN_drewN _ _ _) (congrArg (World.drewN _) (Nat.add_assoc _ _ _))⟩))))
           go_ret
           exact ⟨by first | rfl | (simp [errW_none, errW_some] <;> rfl) | (simp [*, errW_none, errW_some] <;> rfl), by repeat (first | (with_reducible first | exact HB.out | apply below_alloc | apply pw_below_drewN | apply below_drew1 | refine below_set ?_ GE001.out | refine below_set ?_ GE002.out) | exact HB.out)⟩
         ·rw [if_neg c31] at H
          have c31b0 : (((rd_T53 l0_3 x5_2).f0).toList == ((rd_T53 l1_3 x5_2).f0).toList) = false := beq_eq_false_iff_ne.mpr c31
          have c31b1 : (((rd_T53 l0_3 x5_2).f0).toList != ((rd_T53 l1_3 x5_2).f0).toList) = true := bne_iff_ne.mpr c31
          obtain rfl := Option.some.inj H
          have hnb40 := NB001_40002.out
          have hnc40 := NB002_40001.out
          have hcz41_0 : wr.cell? ⟨gb001, 0, none⟩ = some (.string a0_0) := (blk_cell BK001.out 0).trans rfl
          have hcz41_1 : wr.cell? ⟨gb001, 1, none⟩ = some (.slice A0_1 l0_1.length c0_1) := (blk_cell BK001.out 1).trans rfl
          have hcz41_2 : wr.cell? ⟨gb001, 2, none⟩ = some (.int .i64 a0_2) := (blk_cell BK001.out 2).trans rfl
          have hcz41_3 : wr.cell? ⟨gb001, 3, none⟩ = some (.slice A0_3 l0_3.length c0_3) := (blk_cell BK001.out 3).trans rfl
          have hcz41_4 : wr.cell? ⟨gb001, 4, none⟩ = some (.slice A0_4 l0_4.length c0_4) := (blk_cell BK001.out 4).trans rfl
          have hfz41_0 := blk_frozen BK001.out 0
          have hfz41_1 := blk_frozen BK001.out 1
          have hfz41_2 := blk_frozen BK001.out 2
          have hfz41_3 := blk_frozen BK001.out 3
          have hfz41_4 := blk_frozen BK001.out 4
          have p005 : 0 ≤ (x5_2 : Int) := of_decide_eq_true (by first | (with_reducible assumption) | assumption)
          have q005 : x5_2 < (l0_3.length : Int) := of_decide_eq_true (by first | (with_reducible assumption) | assumption)
          obtain ⟨ad005, A005_1, c005_1, e005, hx005_0, hx005_1, hl005_1, hi005_1⟩ := at_T53 HR0_3.out x5_2 p005 q005
          cases e005
          replace hx005_0 := (HB.out.cell (World.block_lt_of_cell? w _ hx005_0)).trans hx005_0
          replace hx005_1 := (HB.out.cell (World.block_lt_of_cell? w _ hx005_1)).trans hx005_1
          have HR005_1 := Aside0.mk hi005_1
          have HC005_1 := Aside0.mk hl005_1
          clear hi005_1 hl005_1
          replace p005 := eq_true p005
          replace q005 := eq_true q005
          have hcz42_0 : wr.cell? ⟨gb002, 0, none⟩ = some (.string a1_0) := (blk_cell BK002.out 0).trans rfl
          have hcz42_1 : wr.cell? ⟨gb002, 1, none⟩ = some (.slice A1_1 l1_1.length c1_1) := (blk_cell BK002.out 1).trans rfl
          have hcz42_2 : wr.cell? ⟨gb002, 2, none⟩ = some (.int .i64 a1_2) := (blk_cell BK002.out 2).trans rfl
          have hcz42_3 : wr.cell? ⟨gb002, 3, none⟩ = some (.slice A1_3 l1_3.length c1_3) := (blk_cell BK002.out 3).trans rfl
          have hcz42_4 : wr.cell? ⟨gb002, 4, none⟩ = some (.slice A1_4 l1_4.length c1_4) := (blk_cell BK002.out 4).trans rfl
          have hfz42_0 := blk_frozen BK002.out 0
          have hfz42_1 := blk_frozen BK002.out 1
          have hfz42_2 := blk_frozen BK002.out 2
          have hfz42_3 := blk_frozen BK002.out 3
          have hfz42_4 := blk_frozen BK002.out 4
          have p006 : 0 ≤ (x5_2 : Int) := of_decide_eq_true (by first | (with_reducible assumption) | assumption)
          have q006 : x5_2 < (l1_3.length : Int) := of_decide_eq_true (by first | (with_reducible assumption) | assumption)
          obtain ⟨ad006, A006_1, c006_1, e006, hx006_0, hx006_1, hl006_1, hi006_1⟩ := at_T53 HR1_3.out x5_2 p006 q006
          cases e006
          replace hx006_0 := (HB.out.cell (World.block_lt_of_cell? w _ hx006_0)).trans hx006_0
          replace hx006_1 := (HB.out.cell (World.block_lt_of_cell? w _ hx006_1)).trans hx006_1
          have HR006_1 := Aside0.mk hi006_1
          have HC006_1 := Aside0.mk hl006_1
          clear hi006_1 hl006_1
          replace p006 := eq_true p006
          replace q006 := eq_true q006
          go_wp2
          repeat (go_quiet (fail); try go_wp2)
          go_ret
          exact ⟨by first | rfl | (simp [errW_none, errW_some] <;> rfl) | (simp [*, errW_none, errW_some] <;> rfl), by repeat (first | (with_reducible first | exact HB.out | apply below_alloc | apply pw_below_drewN | apply below_drew1 | refine below_set ?_ GE001.out | refine below_set ?_ GE002.out) | exact HB.out)⟩
        ·rw [if_neg c30] at H
         exact absurd H (by simp)
       ·rw [if_neg c29] at H
        exact absurd H (by simp)
      ·rw [if_neg c28] at H
       have c28b0 : decide (x5_2 < (l0_3.length : Int)) = false := decide_eq_false c28
       clear c28
       obtain rfl := Option.some.inj H
       have hnb43 := NB001_40002.out
       have hnc43 := NB002_40001.out
       have hcz44_0 : wr.cell? ⟨gb001, 0, none⟩ = some (.string a0_0) := (blk_cell BK001.out 0).trans rfl
       have hcz44_1 : wr.cell? ⟨gb001, 1, none⟩ = some (.slice A0_1 l0_1.length c0_1) := (blk_cell BK001.out 1).trans rfl
       have hcz44_2 : wr.cell? ⟨gb001, 2, none⟩ = some (.int .i64 a0_2) := (blk_cell BK001.out 2).trans rfl
       have hcz44_3 : wr.cell? ⟨gb001, 3, none⟩ = some (.slice A0_3 l0_3.length c0_3) := (blk_cell BK001.out 3).trans rfl
       have hcz44_4 : wr.cell? ⟨gb001, 4, none⟩ = some (.slice A0_4 l0_4.length c0_4) := (blk_cell BK001.out 4).trans rfl
       have hfz44_0 := blk_frozen BK001.out 0
       have hfz44_1 := blk_frozen BK001.out 1
       have hfz44_2 := blk_frozen BK001.out 2
       have hfz44_3 := blk_frozen BK001.out 3
       have hfz44_4 := blk_frozen BK001.out 4
       go_wp2
       repeat (go_quiet (fail); try go_wp2)
       go_ret
       exact ⟨by first | rfl | (simp [errW_none, errW_some] <;> rfl) | (simp [*, errW_none, errW_some] <;> rfl), by repeat (first | (with_reducible first | exact HB.out | apply below_alloc | apply pw_below_drewN | apply below_drew1 | refine below_set ?_ GE001.out | refine below_set ?_ GE002.out) | exact HB.out)⟩

end Go.Proofs.YtnalcjgefbelnaaDoor.Q
end
section
namespace Go.Proofs.YtnalcjgefbelnaaDoor.Q
open Go.RowKit Go.Proofs.YtnalcjgefbelnaaDoorW.PrintWords Go.Proofs.YtnalcjgefbelnaaDoorW.PrintLast Go.Proofs.YtnalcjgefbelnaaDoorW.PrintMore
set_option linter.unusedVariables false
set_option linter.unusedSimpArgs false

attribute [local go_sem] max2_int min2_int max_two min_two max_three min_three max_four min_four
/-! ### tinderref08_Same: function 14 -/
def tinderref08_Same.l0 : Nat → List (S44) → List (S44) → Int → Option (Bool)
 | 0, _, _, _ => none
 | k + 1, x0, x1, x5 => if x5 < (x0.length : Int) then (if 0 ≤ x5 then (if x5 < (x1.length : Int) then ((tinderref08_SameNode.f k ((rd_T44 x0 x5).f0) ((rd_T44 x0 x5).f1) ((rd_T44 x0 x5).f2) ((rd_T44 x0 x5).f3) ((rd_T44 x0 x5).f4) ((rd_T44 x1 x5).f0) ((rd_T44 x1 x5).f1) ((rd_T44 x1 x5).f2) ((rd_T44 x1 x5).f3) ((rd_T44 x1 x5).f4)).bind fun t15003 => (if t15003 = true then (tinderref08_Same.l0 k x0 x1 (wrap64 (x5 + 1))) else (some false))) else (none)) else (none)) else (some true)
def tinderref08_Same.f (k : Nat) (l0 : List (S44)) (l1 : List (S44)) : Option (Bool) := if (l0.length : Int) = (l1.length : Int) then (tinderref08_Same.l0 k l0 l1 0) else (some false)
def tinderref08_Same.T6 : Bool × List (List Nat × List Nat) := (true, [([], []), ([], []), ([0, 1], [0, 1]), ([2], [2]), ([], []), ([], []), ([4, 5], [4, 5]), ([6], [6]), ([3, 7], [3, 7]), ([8], [8])])
def tinderref08_Same.B6 : List Nat := [0, 0, 3, 7, 0, 0, 48, 112, 255, 511]
theorem tinderref08_Same.tab6 : rtab .any (opsOf Tryd.f14 6) = tinderref08_Same.T6 := by kernel_rfl
theorem tinderref08_Same.bits6 : waitsOk tinderref08_Same.T6.2 tinderref08_Same.B6 = true := by kernel_rfl
set_option maxHeartbeats 8000000 in
set_option maxRecDepth 100000 in
theorem tinderref08_Same.calls (k : Nat) (A0 : Option Addr) (c0 : Nat) (l0 : List (S44)) (A1 : Option Addr) (c1 : Nat) (l1 : List (S44)) (r : Bool) (w : World) (hr0 : Kd.C k44 w A0 l0.length l0) (hc0 : l0.length ≤ c0) (hr1 : Kd.C k44 w A1 l1.length l1) (hc1 : l1.length ≤ c1) (h : tinderref08_Same.f k l0 l1 = some r) :
  Calls Tryd.prog 14 #[.slice A0 l0.length c0, .slice A1 l1.length c1] w fun e w' => e = .returned (.bool r) ∧ Below w.heap.size w w' := by
 have hu44 := Tryd.underlying44
 have HR0 := Aside0.mk hr0
 have HC0 := Aside0.mk hc0
 clear hr0 hc0
 have HR1 := Aside0.mk hr1
 have HC1 := Aside0.mk hc1
 clear hr1 hc1
 have HB := Aside0.mk (Below.refl w.heap.size w)
 have H : (if (l0.length : Int) = (l1.length : Int) then (tinderref08_Same.l0 k l0 l1 0) else (some false)) = some r := h
 clear h
 by_cases c3 : (l0.length : Int) = (l1.length : Int)
 ·rw [if_pos c3] at H
  have c3b0 : ((l0.length : Int) == (l1.length : Int)) = true := beq_iff_eq.mpr c3
  have c3b1 : ((l0.length : Int) != (l1.length : Int)) = false := bne_eq_false_iff_eq.mpr c3
  have c3b2 : (l0.length == l1.length) = true := by first | simpa using c3 | (simp at c3 ⊢; omega)
  clear c3
  have H' := Aside0.mk H
  clear H
  go_enter Tryd.func14, Tryd.ntmps14
  go_wp2
  go_loopg [5] k (fun kq v5 w' => ∃ (x5_1 : Int), v5 = .int .i64 x5_1 ∧ Aside0 (tinderref08_Same.l0 kq l0 l1 x5_1 = some r) ∧ Aside0 (kq ≤ k) ∧ Aside0 (Below w.heap.size w w'))
  case atStart => exact ⟨(0), (by first | rfl | (simp; done) | (simp [*]; done)), H', ⟨Nat.le_refl _⟩, ⟨by repeat (first | (with_reducible first | exact HB.out | apply below_alloc | apply pw_below_drewN | apply below_drew1) | exact HB.out)⟩⟩
  case round =>
   clear H'
   try clear c1
   try clear p2
   try clear c3
   try clear c3b0
   try clear c3b1
   try clear c3b2
   obtain ⟨x5_1, rfl, HA, HK1, HB⟩ := hrel
   cases gk with
   | zero => exact absurd HA.out (by simp [tinderref08_Same.l0])
   | succ k1 =>
    have H := HA.out
    clear HA
    simp only [tinderref08_Same.l0] at H
    by_cases c4 : x5_1 < (l0.length : Int)
    ·rw [if_pos c4] at H
     have c4b0 : decide (x5_1 < (l0.length : Int)) = true := decide_eq_true c4
     clear c4
     by_cases c5 : 0 ≤ x5_1
     ·rw [if_pos c5] at H
      have c5b0 : decide (0 ≤ x5_1) = true := decide_eq_true c5
      clear c5
      by_cases c6 : x5_1 < (l1.length : Int)
      ·rw [if_pos c6] at H
       have c6b0 : decide (x5_1 < (l1.length : Int)) = true := decide_eq_true c6
       clear c6
       replace H := Option.bind_eq_some_iff.mp H
       obtain ⟨t003, A70, H⟩ := H
       replace H : (if t003 = true then (tinderref08_Same.l0 k1 l0 l1 (wrap64 (x5_1 + 1))) else (some false)) = some r := H
       have A7 := Aside0.mk A70
       clear A70
       by_cases c8 : t003 = true
       ·subst c8
        have H1 : (tinderref08_Same.l0 k1 l0 l1 (wrap64 (x5_1 + 1))) = some r := by rw [if_pos rfl] at H; exact H
        clear H
        have H := H1
        clear H1
        have H' := Aside0.mk H
        clear H
        try go_wp2
        have n0_ := Aside0.mk (below_drew1 HB.out)
        clear HB
        have HB := n0_
        clear n0_
        have p001 : 0 ≤ (x5_1 : Int) := of_decide_eq_true (by first | (with_reducible assumption) | assumption)
        have q001 : x5_1 < (l0.length : Int) := of_decide_eq_true (by first | (with_reducible assumption) | assumption)
        obtain ⟨ad001, A001_1, c001_1, A001_3, c001_3, A001_4, c001_4, e001, hx001_0, hx001_1, hx001_2, hx001_3, hx001_4, hl001_1, hi001_1, hl001_3, hi001_3, hl001_4, hi001_4⟩ := at_T44 HR0.out x5_1 p001 q001
        have hw001_4 := hx001_4
        have hw001_3 := hx001_3
        have hw001_2 := hx001_2
        have hw001_1 := hx001_1
        have hw001_0 := hx001_0
        cases e001
        replace hx001_0 := (HB.out.cell (World.block_lt_of_cell? w _ hx001_0)).trans hx001_0
        replace hx001_1 := (HB.out.cell (World.block_lt_of_cell? w _ hx001_1)).trans hx001_1
        replace hx001_2 := (HB.out.cell (World.block_lt_of_cell? w _ hx001_2)).trans hx001_2
        replace hx001_3 := (HB.out.cell (World.block_lt_of_cell? w _ hx001_3)).trans hx001_3
        replace hx001_4 := (HB.out.cell (World.block_lt_of_cell? w _ hx001_4)).trans hx001_4
        have HR001_1 := Aside0.mk hi001_1
        have HC001_1 := Aside0.mk hl001_1
        clear hi001_1 hl001_1
        have HR001_3 := Aside0.mk hi001_3
        have HC001_3 := Aside0.mk hl001_3
        clear hi001_3 hl001_3
        have HR001_4 := Aside0.mk hi001_4
        have HC001_4 := Aside0.mk hl001_4
        clear hi001_4 hl001_4
        replace p001 := eq_true p001
        replace q001 := eq_true q001
        have p002 : 0 ≤ (x5_1 : Int) := of_decide_eq_true (by first | (with_reducible assumption) | assumption)
        have q002 : x5_1 < (l1.length : Int) := of_decide_eq_true (by first | (with_reducible assumption) | assumption)
        obtain ⟨ad002, A002_1, c002_1, A002_3, c002_3, A002_4, c002_4, e002, hx002_0, hx002_1, hx002_2, hx002_3, hx002_4, hl002_1, hi002_1, hl002_3, hi002_3, hl002_4, hi002_4⟩ := at_T44 HR1.out x5_1 p002 q002
        have hw002_4 := hx002_4
        have hw002_3 := hx002_3
        have hw002_2 := hx002_2
        have hw002_1 := hx002_1
        have hw002_0 := hx002_0
        cases e002
        replace hx002_0 := (HB.out.cell (World.block_lt_of_cell? w _ hx002_0)).trans hx002_0
        replace hx002_1 := (HB.out.cell (World.block_lt_of_cell? w _ hx002_1)).trans hx002_1
        replace hx002_2 := (HB.out.cell (World.block_lt_of_cell? w _ hx002_2)).trans hx002_2
        replace hx002_3 := (HB.out.cell (World.block_lt_of_cell? w _ hx002_3)).trans hx002_3
        replace hx002_4 := (HB.out.cell (World.block_lt_of_cell? w _ hx002_4)).trans hx002_4
        have HR002_1 := Aside0.mk hi002_1
        have HC002_1 := Aside0.mk hl002_1
        clear hi002_1 hl002_1
        have HR002_3 := Aside0.mk hi002_3
        have HC002_3 := Aside0.mk hl002_3
        clear hi002_3 hl002_3
        have HR002_4 := Aside0.mk hi002_4
        have HC002_4 := Aside0.mk hl002_4
        clear hi002_4 hl002_4
        replace p002 := eq_true p002
        replace q002 := eq_true q002
        refine start_ (n := 10) (S := fun w' => w'.cell? (ad001.add ((x5_1).toNat * 5)) = some (.string ((rd_T44 l0 x5_1).f0)) ∧ w'.cell? ⟨(ad001.add ((x5_1).toNat * 5)).block, (ad001.add ((x5_1).toNat * 5)).off + 1, none⟩ = some (.slice A001_1 ((rd_T44 l0 x5_1).f1).length c001_1) ∧ w'.cell? ⟨(ad001.add ((x5_1).toNat * 5)).block, (ad001.add ((x5_1).toNat * 5)).off + 2, none⟩ = some (.int .i64 ((rd_T44 l0 x5_1).f2)) ∧ w'.cell? ⟨(ad001.add ((x5_1).toNat * 5)).block, (ad001.add ((x5_1).toNat * 5)).off + 3, none⟩ = some (.slice A001_3 ((rd_T44 l0 x5_1).f3).length c001_3) ∧ w'.cell? ⟨(ad001.add ((x5_1).toNat * 5)).block, (ad001.add ((x5_1).toNat * 5)).off + 4, none⟩ = some (.slice A001_4 ((rd_T44 l0 x5_1).f4).length c001_4) ∧ w'.cell? (ad002.add ((x5_1).toNat * 5)) = some (.string ((rd_T44 l1 x5_1).f0)) ∧ w'.cell? ⟨(ad002.add ((x5_1).toNat * 5)).block, (ad002.add ((x5_1).toNat * 5)).off + 1, none⟩ = some (.slice A002_1 ((rd_T44 l1 x5_1).f1).length c002_1) ∧ w'.cell? ⟨(ad002.add ((x5_1).toNat * 5)).block, (ad002.add ((x5_1).toNat * 5)).off + 2, none⟩ = some (.int .i64 ((rd_T44 l1 x5_1).f2)) ∧ w'.cell? ⟨(ad002.add ((x5_1).toNat * 5)).block, (ad002.add ((x5_1).toNat * 5)).off + 3, none⟩ = some (.slice A002_3 ((rd_T44 l1 x5_1).f3).length c002_3) ∧ w'.cell? ⟨(ad002.add ((x5_1).toNat * 5)).block, (ad002.add ((x5_1).toNat * 5)).off + 4, none⟩ = some (.slice A002_4 ((rd_T44 l1 x5_1).f4).length c002_4)) (ds := []) #[false, false, false, false, false, false, false, false, false, false] (by kernel_rfl) rfl rfl ⟨((HB.out.cell (World.block_lt_of_cell? w _ hw001_0)).trans hw001_0), ((HB.out.cell (World.block_lt_of_cell? w _ hw001_1)).trans hw001_1), ((HB.out.cell (World.block_lt_of_cell? w _ hw001_2)).trans hw001_2), ((HB.out.cell (World.block_lt_of_cell? w _ hw001_3)).trans hw001_3), ((HB.out.cell (World.block_lt_of_cell? w _ hw001_4)).trans hw001_4), ((HB.out.cell (World.block_lt_of_cell? w _ hw002_0)).trans hw002_0), ((HB.out.cell (World.block_lt_of_cell? w _ hw002_1)).trans hw002_1), ((HB.out.cell (World.block_lt_of_cell? w _ hw002_2)).trans hw002_2), ((HB.out.cell (World.block_lt_of_cell? w _ hw002_3)).trans hw002_3), ((HB.out.cell (World.block_lt_of_cell? w _ hw002_4)).trans hw002_4)⟩ (fun hHeld => ?_); refine with_tabW tinderref08_Same.tab6 tinderref08_Same.bits6 (fun HT_ HW_ => ?_)
        generalize wr.drew = w9 at HB HR001_1 HR001_3 HR001_4 HR002_1 HR002_3 HR002_4 hx001_0 hx001_1 hx001_2 hx001_3 hx001_4 hx002_0 hx002_1 hx002_2 hx002_3 hx002_4 hHeld ⊢
        refine pure_ (i := 0) (N := some 17) (v := ?_) (a' := ?_) #[true, false, false, false, false, false, false, false, false, false] rfl rfl (any_of HT_.out (by kernel_rfl)) (fun _ _ _ h => h) (Or.inl ⟨by rfl, ?_⟩) ?_ ?_
        rotate_left
        ·intro w'
         go_simp
         with_reducible rfl
        rotate_left
        ·simp only [Act.put, List.setIfInBounds_toArray, List.set_cons_zero, List.set_cons_succ, i64_w, i32_w]
         rfl
        refine pure_ (i := 1) (N := some 18) (v := ?_) (a' := ?_) #[true, true, false, false, false, false, false, false, false, false] rfl rfl (any_of HT_.out (by kernel_rfl)) (fun _ _ _ h => h) (Or.inl ⟨by rfl, ?_⟩) ?_ ?_
        rotate_left
        ·intro w'
         go_simp
         with_reducible rfl
        rotate_left
        ·simp only [Act.put, List.setIfInBounds_toArray, List.set_cons_zero, List.set_cons_succ, i64_w, i32_w]
         rfl
        refine pure_ (i := 2) (N := some 19) (v := ?_) (a' := ?_) #[true, true, true, false, false, false, false, false, false, false] rfl rfl (any_of HT_.out (by kernel_rfl)) (fun _ _ _ h => h) (Or.inl ⟨by rfl, ?_⟩) ?_ ?_
        rotate_left
        ·intro w'
         go_simp
         with_reducible rfl
        rotate_left
        ·simp only [Act.put, List.setIfInBounds_toArray, List.set_cons_zero, List.set_cons_succ, i64_w, i32_w]
         rfl
        refine pure_ (i := 4) (N := some 21) (v := ?_) (a' := ?_) #[true, true, true, false, true, false, false, false, false, false] rfl rfl (any_of HT_.out (by kernel_rfl)) (fun _ _ _ h => h) (Or.inl ⟨by rfl, ?_⟩) ?_ ?_
        rotate_left
        ·intro w'
         go_simp
         with_reducible rfl
        rotate_left
        ·simp only [Act.put, List.setIfInBounds_toArray, List.set_cons_zero, List.set_cons_succ, i64_w, i32_w]
         rfl
        refine pure_ (i := 5) (N := some 22) (v := ?_) (a' := ?_) #[true, true, true, false, true, true, false, false, false, false] rfl rfl (any_of HT_.out (by kernel_rfl)) (fun _ _ _ h => h) (Or.inl ⟨by rfl, ?_⟩) ?_ ?_
        rotate_left
        ·intro w'
         go_simp
         with_reducible rfl
        rotate_left
        ·simp only [Act.put, List.setIfInBounds_toArray, List.set_cons_zero, List.set_cons_succ, i64_w, i32_w]
         rfl
        refine pure_ (i := 6) (N := some 23) (v := ?_) (a' := ?_) #[true, true, true, false, true, true, true, false, false, false] rfl rfl (any_of HT_.out (by kernel_rfl)) (fun _ _ _ h => h) (Or.inl ⟨by rfl, ?_⟩) ?_ ?_
        rotate_left
        ·intro w'
         go_simp
         with_reducible rfl
        rotate_left
        ·simp only [Act.put, List.setIfInBounds_toArray, List.set_cons_zero, List.set_cons_succ, i64_w, i32_w]
         rfl
        refine take_ (i := 3) (N := some 20) (v := ?_) (a' := ?_) #[true, true, true, true, true, true, true, false, false, false] rfl rfl (take_ofW HT_.out HW_.out (by kernel_rfl)) (fun _ _ _ h => h) (Or.inl ⟨by rfl, ?_⟩) hHeld ?_ ?_
        rotate_left
        ·rintro w' ⟨s0, s1, s2, s3, s4, s5, s6, s7, s8, s9⟩
         go_simp
         with_reducible rfl
        rotate_left
        ·simp only [Act.put, List.setIfInBounds_toArray, List.set_cons_zero, List.set_cons_succ, i64_w, i32_w]
         rfl
        refine take_ (i := 7) (N := some 24) (v := ?_) (a' := ?_) #[true, true, true, true, true, true, true, true, false, false] rfl rfl (take_ofW HT_.out HW_.out (by kernel_rfl)) (fun _ _ _ h => h) (Or.inl ⟨by rfl, ?_⟩) hHeld ?_ ?_
        rotate_left
        ·rintro w' ⟨s0, s1, s2, s3, s4, s5, s6, s7, s8, s9⟩
         go_simp
         with_reducible rfl
        rotate_left
        ·simp only [Act.put, List.setIfInBounds_toArray, List.set_cons_zero, List.set_cons_succ, i64_w, i32_w]
         rfl
        refine one_ (i := 8) (N := some 25) #[true, true, true, true, true, true, true, true, true, false] rfl rfl (one_of HT_.out (by kernel_rfl)) (by decide) (fun K hK => ?_)
        refine goes_ Tryd.func39 (by kernel_rfl) rfl #[.agg #[.string ((rd_T44 l0 x5_1).f0), .slice A001_1 ((rd_T44 l0 x5_1).f1).length c001_1, .int .i64 ((rd_T44 l0 x5_1).f2), .slice A001_3 ((rd_T44 l0 x5_1).f3).length c001_3, .slice A001_4 ((rd_T44 l0 x5_1).f4).length c001_4], .agg #[.string ((rd_T44 l1 x5_1).f0), .slice A002_1 ((rd_T44 l1 x5_1).f1).length c002_1, .int .i64 ((rd_T44 l1 x5_1).f2), .slice A002_3 ((rd_T44 l1 x5_1).f3).length c002_3, .slice A002_4 ((rd_T44 l1 x5_1).f4).length c002_4]] (by rfl) rfl rfl (by (try simp only [List.map_toArray, List.map_cons, List.map_nil]); first | done | rfl | (simp only [List.length_drop, List.length_take]; rfl)) ?_
        with_reducible refine (tinderref08_SameNode.calls k1 ((rd_T44 l0 x5_1).f0) _ _ ((rd_T44 l0 x5_1).f1) ((rd_T44 l0 x5_1).f2) _ _ ((rd_T44 l0 x5_1).f3) _ _ ((rd_T44 l0 x5_1).f4) ((rd_T44 l1 x5_1).f0) _ _ ((rd_T44 l1 x5_1).f1) ((rd_T44 l1 x5_1).f2) _ _ ((rd_T44 l1 x5_1).f3) _ _ ((rd_T44 l1 x5_1).f4) true _ ?side1 ?side2 ?side3 ?side4 ?side5 ?side6 ?side7 ?side8 ?side9 ?side10 ?side11 ?side12 A7.out).mono ?_
        (case side1 => repeat (first | exact (Kd.C_below HR001_1.out HB.out) | (with_reducible refine Kd.C_alloc ?_ _) | (with_reducible refine Kd.C_drewN ?_ _) | (with_reducible refine Kd.C_drew ?_)))
        (case side2 => exact HC001_1.out)
        (case side3 => repeat (first | exact (Kd.C_below HR001_3.out HB.out) | (with_reducible refine Kd.C_alloc ?_ _) | (with_reducible refine Kd.C_drewN ?_ _) | (with_reducible refine Kd.C_drew ?_)))
        (case side4 => exact HC001_3.out)
        (case side5 => repeat (first | exact (Kd.C_below HR001_4.out HB.out) | (with_reducible refine Kd.C_alloc ?_ _) | (with_reducible refine Kd.C_drewN ?_ _) | (with_reducible refine Kd.C_drew ?_)))
        (case side6 => exact HC001_4.out)
        (case side7 => repeat (first | exact (Kd.C_below HR002_1.out HB.out) | (with_reducible refine Kd.C_alloc ?_ _) | (with_reducible refine Kd.C_drewN ?_ _) | (with_reducible refine Kd.C_drew ?_)))
        (case side8 => exact HC002_1.out)
        (case side9 => repeat (first | exact (Kd.C_below HR002_3.out HB.out) | (with_reducible refine Kd.C_alloc ?_ _) | (with_reducible refine Kd.C_drewN ?_ _) | (with_reducible refine Kd.C_drew ?_)))
        (case side10 => exact HC002_3.out)
        (case side11 => repeat (first | exact (Kd.C_below HR002_4.out HB.out) | (with_reducible refine Kd.C_alloc ?_ _) | (with_reducible refine Kd.C_drewN ?_ _) | (with_reducible refine Kd.C_drew ?_)))
        (case side12 => exact HC002_4.out)
        rintro e w10 ⟨rfl, hb⟩
        refine ⟨_, rfl, ?_⟩
        have n0_ := Aside0.mk (below_step (by repeat (first | (with_reducible first | exact HB.out | apply below_alloc | apply pw_below_drewN | apply below_drew1) | exact HB.out)) hb)
        clear HB
        have HB := n0_
        clear n0_
        (try clear hb)
        (try clear hb2)
        (try clear hk)
        (try clear hi)
        refine hK.out _ _ ⟨((HB.out.cell (World.block_lt_of_cell? w _ hw001_0)).trans hw001_0), ((HB.out.cell (World.block_lt_of_cell? w _ hw001_1)).trans hw001_1), ((HB.out.cell (World.block_lt_of_cell? w _ hw001_2)).trans hw001_2), ((HB.out.cell (World.block_lt_of_cell? w _ hw001_3)).trans hw001_3), ((HB.out.cell (World.block_lt_of_cell? w _ hw001_4)).trans hw001_4), ((HB.out.cell (World.block_lt_of_cell? w _ hw002_0)).trans hw002_0), ((HB.out.cell (World.block_lt_of_cell? w _ hw002_1)).trans hw002_1), ((HB.out.cell (World.block_lt_of_cell? w _ hw002_2)).trans hw002_2), ((HB.out.cell (World.block_lt_of_cell? w _ hw002_3)).trans hw002_3), ((HB.out.cell (World.block_lt_of_cell? w _ hw002_4)).trans hw002_4)⟩ (fun hHeld => ?_)
        clear hK K
        refine norm_ (a' := ?_) ?_ ?_
        rotate_left
        ·show Act.put _ (some 25) _ = _
         simp only [Act.put, List.setIfInBounds_toArray, List.set_cons_zero, List.set_cons_succ, i64_w, i32_w]
         rfl
        refine pure_ (i := 9) (N := some 26) (v := ?_) (a' := ?_) #[true, true, true, true, true, true, true, true, true, true] rfl rfl (any_of HT_.out (by kernel_rfl)) (fun _ _ _ h => h) (Or.inl ⟨by rfl, ?_⟩) ?_ ?_
        rotate_left
        ·intro w'
         go_simp
         with_reducible rfl
        rotate_left
        ·simp only [Act.put, List.setIfInBounds_toArray, List.set_cons_zero, List.set_cons_succ, i64_w, i32_w]
         rfl
        refine done_ (done_of HT_.out (by kernel_rfl)) ?_
        try go_wp2
        go_roundg k1
        case measure => have := HK1.out; omega
        case rel => exact ⟨(wrap64 (x5_1 + 1)), (by first | rfl | (simp; done) | (simp [*]; done)), H', ⟨by have := HK1.out; omega⟩, ⟨by repeat (first | (with_reducible first | exact HB.out | apply below_alloc | apply pw_below_drewN | apply below_drew1) | exact HB.out)⟩⟩
       ·replace c8 := Bool.eq_false_iff.mpr c8
        subst c8
        have H1 : (some false) = some r := by rw [if_neg (show ¬ (false = true) by decide)] at H; exact H
        clear H
        have H := H1
        clear H1
        obtain rfl := Option.some.inj H
        try go_wp2
        have n0_ := Aside0.mk (below_drew1 HB.out)
        clear HB
        have HB := n0_
        clear n0_
        have p001 : 0 ≤ (x5_1 : Int) := of_decide_eq_true (by first | (with_reducible assumption) | assumption)
        have q001 : x5_1 < (l0.length : Int) := of_decide_eq_true (by first | (with_reducible assumption) | assumption)
        obtain ⟨ad001, A001_1, c001_1, A001_3, c001_3, A001_4, c001_4, e001, hx001_0, hx001_1, hx001_2, hx001_3, hx001_4, hl001_1, hi001_1, hl001_3, hi001_3, hl001_4, hi001_4⟩ := at_T44 HR0.out x5_1 p001 q001
        have hw001_4 := hx001_4
        have hw001_3 := hx001_3
        have hw001_2 := hx001_2
        have hw001_1 := hx001_1
        have hw001_0 := hx001_0
        cases e001
        replace hx001_0 := (HB.out.cell (World.block_lt_of_cell? w _ hx001_0)).trans hx001_0
        replace hx001_1 := (HB.out.cell (World.block_lt_of_cell? w _ hx001_1)).trans hx001_1
        replace hx001_2 := (HB.out.cell (World.block_lt_of_cell? w _ hx001_2)).trans hx001_2
        replace hx001_3 := (HB.out.cell (World.block_lt_of_cell? w _ hx001_3)).trans hx001_3
        replace hx001_4 := (HB.out.cell (World.block_lt_of_cell? w _ hx001_4)).trans hx001_4
        have HR001_1 := Aside0.mk hi001_1
        have HC001_1 := Aside0.mk hl001_1
        clear hi001_1 hl001_1
        have HR001_3 := Aside0.mk hi001_3
        have HC001_3 := Aside0.mk hl001_3
        clear hi001_3 hl001_3
        have HR001_4 := Aside0.mk hi001_4
        have HC001_4 := Aside0.mk hl001_4
        clear hi001_4 hl001_4
        replace p001 := eq_true p001
        replace q001 := eq_true q001
        have p002 : 0 ≤ (x5_1 : Int) := of_decide_eq_true (by first | (with_reducible assumption) | assumption)
        have q002 : x5_1 < (l1.length : Int) := of_decide_eq_true (by first | (with_reducible assumption) | assumption)
        obtain ⟨ad002, A002_1, c002_1, A002_3, c002_3, A002_4, c002_4, e002, hx002_0, hx002_1, hx002_2, hx002_3, hx002_4, hl002_1, hi002_1, hl002_3, hi002_3, hl002_4, hi002_4⟩ := at_T44 HR1.out x5_1 p002 q002
        have hw002_4 := hx002_4
        have hw002_3 := hx002_3
        have hw002_2 := hx002_2
        have hw002_1 := hx002_1
        have hw002_0 := hx002_0
        cases e002
        replace hx002_0 := (HB.out.cell (World.block_lt_of_cell? w _ hx002_0)).trans hx002_0
        replace hx002_1 := (HB.out.cell (World.block_lt_of_cell? w _ hx002_1)).trans hx002_1
        replace hx002_2 := (HB.out.cell (World.block_lt_of_cell? w _ hx002_2)).trans hx002_2
        replace hx002_3 := (HB.out.cell (World.block_lt_of_cell? w _ hx002_3)).trans hx002_3
        replace hx002_4 := (HB.out.cell (World.block_lt_of_cell? w _ hx002_4)).trans hx002_4
        have HR002_1 := Aside0.mk hi002_1
        have HC002_1 := Aside0.mk hl002_1
        clear hi002_1 hl002_1
        have HR002_3 := Aside0.mk hi002_3
        have HC002_3 := Aside0.mk hl002_3
        clear hi002_3 hl002_3
        have HR002_4 := Aside0.mk hi002_4
        have HC002_4 := Aside0.mk hl002_4
        clear hi002_4 hl002_4
        replace p002 := eq_true p002
        replace q002 := eq_true q002
        refine start_ (n := 10) (S := fun w' => w'.cell? (ad001.add ((x5_1).toNat * 5)) = some (.string ((rd_T44 l0 x5_1).f0)) ∧ w'.cell? ⟨(ad001.add ((x5_1).toNat * 5)).block, (ad001.add ((x5_1).toNat * 5)).off + 1, none⟩ = some (.slice A001_1 ((rd_T44 l0 x5_1).f1).length c001_1) ∧ w'.cell? ⟨(ad001.add ((x5_1).toNat * 5)).block, (ad001.add ((x5_1).toNat * 5)).off + 2, none⟩ = some (.int .i64 ((rd_T44 l0 x5_1).f2)) ∧ w'.cell? ⟨(ad001.add ((x5_1).toNat * 5)).block, (ad001.add ((x5_1).toNat * 5)).off + 3, none⟩ = some (.slice A001_3 ((rd_T44 l0 x5_1).f3).length c001_3) ∧ w'.cell? ⟨(ad001.add ((x5_1).toNat * 5)).block, (ad001.add ((x5_1).toNat * 5)).off + 4, none⟩ = some (.slice A001_4 ((rd_T44 l0 x5_1).f4).length c001_4) ∧ w'.cell? (ad002.add ((x5_1).toNat * 5)) = some (.string ((rd_T44 l1 x5_1).f0)) ∧ w'.cell? ⟨(ad002.add ((x5_1).toNat * 5)).block, (ad002.add ((x5_1).toNat * 5)).off + 1, none⟩ = some (.slice A002_1 ((rd_T44 l1 x5_1).f1).length c002_1) ∧ w'.cell? ⟨(ad002.add ((x5_1).toNat * 5)).block, (ad002.add ((x5_1).toNat * 5)).off + 2, none⟩ = some (.int .i64 ((rd_T44 l1 x5_1).f2)) ∧ w'.cell? ⟨(ad002.add ((x5_1).toNat * 5)).block, (ad002.add ((x5_1).toNat * 5)).off + 3, none⟩ = some (.slice A002_3 ((rd_T44 l1 x5_1).f3).length c002_3) ∧ w'.cell? ⟨(ad002.add ((x5_1).toNat * 5)).block, (ad002.add ((x5_1).toNat * 5)).off + 4, none⟩ = some (.slice A002_4 ((rd_T44 l1 x5_1).f4).length c002_4)) (ds := []) #[false, false, false, false, false, false, false, false, false, false] (by kernel_rfl) rfl rfl ⟨((HB.out.cell (World.block_lt_of_cell? w _ hw001_0)).trans hw001_0), ((HB.out.cell (World.block_lt_of_cell? w _ hw001_1)).trans hw001_1), ((HB.out.cell (World.block_lt_of_cell? w _ hw001_2)).trans hw001_2), ((HB.out.cell (World.block_lt_of_cell? w _ hw001_3)).trans hw001_3), ((HB.out.cell (World.block_lt_of_cell? w _ hw001_4)).trans hw001_4), ((HB.out.cell (World.block_lt_of_cell? w _ hw002_0)).trans hw002_0), ((HB.out.cell (World.block_lt_of_cell? w _ hw002_1)).trans hw002_1), ((HB.out.cell (World.block_lt_of_cell? w _ hw002_2)).trans hw002_2), ((HB.out.cell (World.block_lt_of_cell? w _ hw002_3)).trans hw002_3), ((HB.out.cell (World.block_lt_of_cell? w _ hw002_4)).trans hw002_4)⟩ (fun hHeld => ?_); refine with_tabW tinderref08_Same.tab6 tinderref08_Same.bits6 (fun HT_ HW_ => ?_)
        generalize wr.drew = w11 at HB HR001_1 HR001_3 HR001_4 HR002_1 HR002_3 HR002_4 hx001_0 hx001_1 hx001_2 hx001_3 hx001_4 hx002_0 hx002_1 hx002_2 hx002_3 hx002_4 hHeld ⊢
        refine pure_ (i := 0) (N := some 17) (v := ?_) (a' := ?_) #[true, false, false, false, false, false, false, false, false, false] rfl rfl (any_of HT_.out (by kernel_rfl)) (fun _ _ _ h => h) (Or.inl ⟨by rfl, ?_⟩) ?_ ?_
        rotate_left
        ·intro w'
         go_simp
         with_reducible rfl
        rotate_left
        ·simp only [Act.put, List.setIfInBounds_toArray, List.set_cons_zero, List.set_cons_succ, i64_w, i32_w]
         rfl
        refine pure_ (i := 1) (N := some 18) (v := ?_) (a' := ?_) #[true, true, false, false, false, false, false, false, false, false] rfl rfl (any_of HT_.out (by kernel_rfl)) (fun _ _ _ h => h) (Or.inl ⟨by rfl, ?_⟩) ?_ ?_
        rotate_left
        ·intro w'
         go_simp
         with_reducible rfl
        rotate_left
        ·simp only [Act.put, List.setIfInBounds_toArray, List.set_cons_zero, List.set_cons_succ, i64_w, i32_w]
         rfl
        refine pure_ (i := 2) (N := some 19) (v := ?_) (a' := ?_) #[true, true, true, false, false, false, false, false, false, false] rfl rfl (any_of HT_.out (by kernel_rfl)) (fun _ _ _ h => h) (Or.inl ⟨by rfl, ?_⟩) ?_ ?_
        rotate_left
        ·intro w'
         go_simp
         with_reducible rfl
        rotate_left
        ·simp only [Act.put, List.setIfInBounds_toArray, List.set_cons_zero, List.set_cons_succ, i64_w, i32_w]
         rfl
        refine pure_ (i := 4) (N := some 21) (v := ?_) (a' := ?_) #[true, true, true, false, true, false, false, false, false, false] rfl rfl (any_of HT_.out (by kernel_rfl)) (fun _ _ _ h => h) (Or.inl ⟨by rfl, ?_⟩) ?_ ?_
        rotate_left
        ·intro w'
         go_simp
         with_reducible rfl
        rotate_left
        ·simp only [Act.put, List.setIfInBounds_toArray, List.set_cons_zero, List.set_cons_succ, i64_w, i32_w]
         rfl
        refine pure_ (i := 5) (N := some 22) (v := ?_) (a' := ?_) #[true, true, true, false, true, true, false, false, false, false] rfl rfl (any_of HT_.out (by kernel_rfl)) (fun _ _ _ h => h) (Or.inl ⟨by rfl, ?_⟩) ?_ ?_
        rotate_left
        ·intro w'
         go_simp
         with_reducible rfl
        rotate_left
        ·simp only [Act.put, List.setIfInBounds_toArray, List.set_cons_zero, List.set_cons_succ, i64_w, i32_w]
         rfl
        refine pure_ (i := 6) (N := some 23) (v := ?_) (a' := ?_) #[true, true, true, false, true, true, true, false, false, false] rfl rfl (any_of HT_.out (by kernel_rfl)) (fun _ _ _ h => h) (Or.inl ⟨by rfl, ?_⟩) ?_ ?_
        rotate_left
        ·intro w'
         go_simp
         with_reducible rfl
        rotate_left
        ·simp only [Act.put, List.setIfInBounds_toArray, List.set_cons_zero, List.set_cons_succ, i64_w, i32_w]
         rfl
        refine take_ (i := 3) (N := some 20) (v := ?_) (a' := ?_) #[true, true, true, true, true, true, true, false, false, false] rfl rfl (take_ofW HT_.out HW_.out (by kernel_rfl)) (fun _ _ _ h => h) (Or.inl ⟨by rfl, ?_⟩) hHeld ?_ ?_
        rotate_left
        ·rintro w' ⟨s0, s1, s2, s3, s4, s5, s6, s7, s8, s9⟩
         go_simp
         with_reducible rfl
        rotate_left
        ·simp only [Act.put, List.setIfInBounds_toArray, List.set_cons_zero, List.set_cons_succ, i64_w, i32_w]
         rfl
        refine take_ (i := 7) (N := some 24) (v := ?_) (a' := ?_) #[true, true, true, true, true, true, true, true, false, false] rfl rfl (take_ofW HT_.out HW_.out (by kernel_rfl)) (fun _ _ _ h => h) (Or.inl ⟨by rfl, ?_⟩) hHeld ?_ ?_
        rotate_left
        ·rintro w' ⟨s0, s1, s2, s3, s4, s5, s6, s7, s8, s9⟩
         go_simp
         with_reducible rfl
        rotate_left
        ·simp only [Act.put, List.setIfInBounds_toArray, List.set_cons_zero, List.set_cons_succ, i64_w, i32_w]
         rfl
        refine one_ (i := 8) (N := some 25) #[true, true, true, true, true, true, true, true, true, false] rfl rfl (one_of HT_.out (by kernel_rfl)) (by decide) (fun K hK => ?_)
        refine goes_ Tryd.func39 (by kernel_rfl) rfl #[.agg #[.string ((rd_T44 l0 x5_1).f0), .slice A001_1 ((rd_T44 l0 x5_1).f1).length c001_1, .int .i64 ((rd_T44 l0 x5_1).f2), .slice A001_3 ((rd_T44 l0 x5_1).f3).length c001_3, .slice A001_4 ((rd_T44 l0 x5_1).f4).length c001_4], .agg #[.string ((rd_T44 l1 x5_1).f0), .slice A002_1 ((rd_T44 l1 x5_1).f1).length c002_1, .int .i64 ((rd_T44 l1 x5_1).f2), .slice A002_3 ((rd_T44 l1 x5_1).f3).length c002_3, .slice A002_4 ((rd_T44 l1 x5_1).f4).length c002_4]] (by rfl) rfl rfl (by (try simp only [List.map_toArray, List.map_cons, List.map_nil]); first | done | rfl | (simp only [List.length_drop, List.length_take]; rfl)) ?_
        with_reducible refine (tinderref08_SameNode.calls k1 ((rd_T44 l0 x5_1).f0) _ _ ((rd_T44 l0 x5_1).f1) ((rd_T44 l0 x5_1).f2) _ _ ((rd_T44 l0 x5_1).f3) _ _ ((rd_T44 l0 x5_1).f4) ((rd_T44 l1 x5_1).f0) _ _ ((rd_T44 l1 x5_1).f1) ((rd_T44 l1 x5_1).f2) _ _ ((rd_T44 l1 x5_1).f3) _ _ ((rd_T44 l1 x5_1).f4) false _ ?side1 ?side2 ?side3 ?side4 ?side5 ?side6 ?side7 ?side8 ?side9 ?side10 ?side11 ?side12 A7.out).mono ?_
        (case side1 => repeat (first | exact (Kd.C_below HR001_1.out HB.out) | (with_reducible refine Kd.C_alloc ?_ _) | (with_reducible refine Kd.C_drewN ?_ _) | (with_reducible refine Kd.C_drew ?_)))
        (case side2 => exact HC001_1.out)
        (case side3 => repeat (first | exact (Kd.C_below HR001_3.out HB.out) | (with_reducible refine Kd.C_alloc ?_ _) | (with_reducible refine Kd.C_drewN ?_ _) | (with_reducible refine Kd.C_drew ?_)))
        (case side4 => exact HC001_3.out)
        (case side5 => repeat (first | exact (Kd.C_below HR001_4.out HB.out) | (with_reducible refine Kd.C_alloc ?_ _) | (with_reducible refine Kd.C_drewN ?_ _) | (with_reducible refine Kd.C_drew ?_)))
        (case side6 => exact HC001_4.out)
        (case side7 => repeat (first | exact (Kd.C_below HR002_1.out HB.out) | (with_reducible refine Kd.C_alloc ?_ _) | (with_reducible refine Kd.C_drewN ?_ _) | (with_reducible refine Kd.C_drew ?_)))
        (case side8 => exact HC002_1.out)
        (case side9 => repeat (first | exact (Kd.C_below HR002_3.out HB.out) | (with_reducible refine Kd.C_alloc ?_ _) | (with_reducible refine Kd.C_drewN ?_ _) | (with_reducible refine Kd.C_drew ?_)))
        (case side10 => exact HC002_3.out)
        (case side11 => repeat (first | exact (Kd.C_below HR002_4.out HB.out) | (with_reducible refine Kd.C_alloc ?_ _) | (with_reducible refine Kd.C_drewN ?_ _) | (with_reducible refine Kd.C_drew ?_)))
        (case side12 => exact HC002_4.out)
        rintro e w12 ⟨rfl, hb⟩
        refine ⟨_, rfl, ?_⟩
        have n0_ := Aside0.mk (below_step (by repeat (first | (with_reducible first | exact HB.out | apply below_alloc | apply pw_below_drewN | apply below_drew1) | exact HB.out)) hb)
        clear HB
        have HB := n0_
        clear n0_
        (try clear hb)
        (try clear hb2)
        (try clear hk)
        (try clear hi)
        refine hK.out _ _ ⟨((HB.out.cell (World.block_lt_of_cell? w _ hw001_0)).trans hw001_0), ((HB.out.cell (World.block_lt_of_cell? w _ hw001_1)).trans hw001_1), ((HB.out.cell (World.block_lt_of_cell? w _ hw001_2)).trans hw001_2), ((HB.out.cell (World.block_lt_of_cell? w _ hw001_3)).trans hw001_3), ((HB.out.cell (World.block_lt_of_cell? w _ hw001_4)).trans hw001_4), ((HB.out.cell (World.block_lt_of_cell? w _ hw002_0)).trans hw002_0), ((HB.out.cell (World.block_lt_of_cell? w _ hw002_1)).trans hw002_1), ((HB.out.cell (World.block_lt_of_cell? w _ hw002_2)).trans hw002_2), ((HB.out.cell (World.block_lt_of_cell? w _ hw002_3)).trans hw002_3), ((HB.out.cell (World.block_lt_of_cell? w _ hw002_4)).trans hw002_4)⟩ (fun hHeld => ?_)
        clear hK K
        refine norm_ (a' := ?_) ?_ ?_
        rotate_left
        ·show Act.put _ (some 25) _ = _
         simp only [Act.put, List.setIfInBounds_toArray, List.set_cons_zero, List.set_cons_succ, i64_w, i32_w]
         rfl
        refine pure_ (i := 9) (N := some 26) (v := ?_) (a' := ?_) #[true, true, true, true, true, true, true, true, true, true] rfl rfl (any_of HT_.out (by kernel_rfl)) (fun _ _ _ h => h) (Or.inl ⟨by rfl, ?_⟩) ?_ ?_
        rotate_left
        ·intro w'
         go_simp
         with_reducible rfl
        rotate_left
        ·simp only [Act.put, List.setIfInBounds_toArray, List.set_cons_zero, List.set_cons_succ, i64_w, i32_w]
         rfl
        refine done_ (done_of HT_.out (by kernel_rfl)) ?_
        try go_wp2
        go_ret
        exact ⟨by first | rfl | (simp [errW_none, errW_some] <;> rfl) | (simp [*, errW_none, errW_some] <;> rfl), by repeat (first | (with_reducible first | exact HB.out | apply below_alloc | apply pw_below_drewN | apply below_drew1) | exact HB.out)⟩
      ·rw [if_neg c6] at H
       exact absurd H (by simp)
     ·rw [if_neg c5] at H
      exact absurd H (by simp)
    ·rw [if_neg c4] at H
     have c4b0 : decide (x5_1 < (l0.length : Int)) = false := decide_eq_false c4
     clear c4
     obtain rfl := Option.some.inj H
     go_wp2
     go_ret
     exact ⟨by first | rfl | (simp [errW_none, errW_some] <;> rfl) | (simp [*, errW_none, errW_some] <;> rfl), by repeat (first | (with_reducible first | exact HB.out | apply below_alloc | apply pw_below_drewN | apply below_drew1) | exact HB.out)⟩
 ·rw [if_neg c3] at H
  have c3b0 : ((l0.length : Int) == (l1.length : Int)) = false := beq_eq_false_iff_ne.mpr c3
  have c3b1 : ((l0.length : Int) != (l1.length : Int)) = true := bne_iff_ne.mpr c3
  have c3b2 : (l0.length == l1.length) = false := by first | simpa using c3 | (simp at c3 ⊢; omega)
  obtain rfl := Option.some.inj H
  go_enter Tryd.func14, Tryd.ntmps14
  go_wp2
  go_ret
  exact ⟨by first | rfl | (simp [errW_none, errW_some] <;> rfl) | (simp [*, errW_none, errW_some] <;> rfl), by repeat (first | (with_reducible first | exact HB.out | apply below_alloc | apply pw_below_drewN | apply below_drew1) | exact HB.out)⟩

end Go.Proofs.YtnalcjgefbelnaaDoor.Q
end
section
set_option linter.unusedSimpArgs false
set_option linter.unusedVariables false
namespace Go.Proofs.YtnalcjgefbelnaaDoor.Q
open Go.RowKit Go.Proofs.YtnalcjgefbelnaaDoorW.PrintWords Go.Proofs.YtnalcjgefbelnaaDoorW.PrintLast
theorem same3_go (a b : List Int) (hl : a.length = b.length) (hm : a.length ≤ 9223372036854775807) : ∀ (d k : Nat) (i : Int), 0 ≤ i → i + d = a.length → d < k → tinderref03_Same.l0 k a b i = some (decide (a.drop i.toNat = b.drop i.toNat))
 | 0, k, i, h0, h1, hk => by
  obtain ⟨k, rfl⟩ : ∃ m, k = m + 1 := ⟨k - 1, by omega⟩
  rw [tinderref03_Same.l0, if_neg (by omega), List.drop_eq_nil_of_le (by omega), List.drop_eq_nil_of_le (by omega), decide_eq_true rfl]
 | d + 1, k, i, h0, h1, hk => by
  obtain ⟨k, rfl⟩ : ∃ m, k = m + 1 := ⟨k - 1, by omega⟩
  have hw : wrap64 (i + 1) = i + 1 := by unfold wrap64; omega
  rw [tinderref03_Same.l0, if_pos (by omega), if_pos h0, if_pos (by omega), hw, same3_go a b hl hm d k (i + 1) (by omega) (by omega) (by omega), int_drop a i h0 (by omega), int_drop b i h0 (by omega)]
  by_cases he : rd a i = rd b i
  ·rw [if_pos he]
   congr 1
   refine decide_eq_decide.2 ⟨fun h => by rw [he, h], fun h => (List.cons.inj h).2⟩
  ·rw [if_neg he, decide_eq_false (fun h => he (List.cons.inj h).1)]
theorem same3_eq (a b : List Int) (hm : a.length ≤ 9223372036854775807) (k : Nat) (hk : a.length < k) : tinderref03_Same.f k a b = some (decide (a = b)) := by
 unfold tinderref03_Same.f
 by_cases hl : a.length = b.length
 ·rw [if_pos (by omega), same3_go a b hl hm a.length k 0 (Int.le_refl _) (by omega) hk]
  rfl
 ·rw [if_neg (by omega), decide_eq_false (fun h => hl (by rw [h]))]
theorem any_take {α : Type} (P : α → Bool) (z : α) (l : List α) (n i : Nat) (hi : i < n) (hn : n ≤ l.length) : ((l.take n).drop i).any P = (P (l.getD i z) || ((l.take n).drop (i + 1)).any P) := by
 rw [List.drop_eq_getElem_cons (show i < (l.take n).length by rw [List.length_take]; omega), List.any_cons]
 congr 2
 rw [List.getElem_take, List.getD_eq_getElem?_getD, List.getElem?_eq_getElem (show i < l.length by omega)]
 rfl
theorem twin_go (t : List S44) (p : Int) (s : ByteArray) (u : List Int) (n : Nat) (hn : n ≤ t.length) (ht : t.length ≤ 1000) (hU : ∀ x ∈ t, x.f1.length ≤ 9223372036854775807) (F : Nat) (hF : ∀ x ∈ t, x.f1.length < F) : ∀ (d k : Nat) (i : Int), 0 ≤ i → i + d = n → d + F + 1 ≤ k → tinderref08_twin.l0 k t n p s u i = some (((t.take n).drop i.toNat).any (isN p s u))
 | 0, k, i, h0, h1, hk => by
  obtain ⟨k, rfl⟩ : ∃ m, k = m + 1 := ⟨k - 1, by omega⟩
  rw [tinderref08_twin.l0, if_neg (by omega), List.drop_eq_nil_of_le (by rw [List.length_take]; omega)]
  rfl
 | d + 1, k, i, h0, h1, hk => by
  obtain ⟨k, rfl⟩ : ∃ m, k = m + 1 := ⟨k - 1, by omega⟩
  have hw : wrap64 (i + 1) = i + 1 := by unfold wrap64; omega
  have hx : rd_T44 t i ∈ t := by
   unfold rd_T44
   rw [List.getD_eq_getElem?_getD, List.getElem?_eq_getElem (show i.toNat < t.length by omega)]
   exact List.getElem_mem _
  have ih := twin_go t p s u n hn ht hU F hF d k (i + 1) (by omega) (by omega) (by omega)
  rw [tinderref08_twin.l0, if_pos (by omega), if_pos h0, if_pos (by omega), hw, ih, same3_eq _ _ (hU _ hx) k (by have := hF _ hx; omega), Option.bind_some, any_take (isN p s u) z44 t n i.toNat (by omega) hn, show (i + 1).toNat = i.toNat + 1 by omega]
  rw [show t.getD i.toNat z44 = rd_T44 t i from rfl, isN]
  by_cases h2 : (rd_T44 t i).f2 = p
  ·rw [if_pos h2]
   by_cases h3 : (rd_T44 t i).f0.toList = s.toList
   ·rw [if_pos h3]
    by_cases h4 : (rd_T44 t i).f1 = u
    ·simp [h2, h3, h4]
    ·simp [h2, h3, h4]
   ·rw [if_neg h3]
    simp [h3]
  ·rw [if_neg h2]
   simp [h2]
theorem pfind_go (l : List S53) (s : ByteArray) (hl : l.length ≤ 1000000) : ∀ (d k : Nat) (i : Int), 0 ≤ i → i + d = l.length → d < k → tinderref08_find.l0 k l s i = some (if idxP (isP s) (l.drop i.toNat) < 0 then -1 else idxP (isP s) (l.drop i.toNat) + i)
 | 0, k, i, h0, h1, hk => by
  obtain ⟨k, rfl⟩ : ∃ m, k = m + 1 := ⟨k - 1, by omega⟩
  rw [tinderref08_find.l0, if_neg (by omega), List.drop_eq_nil_of_le (by omega)]
  rfl
 | d + 1, k, i, h0, h1, hk => by
  obtain ⟨k, rfl⟩ : ∃ m, k = m + 1 := ⟨k - 1, by omega⟩
  have hw : wrap64 (i + 1) = i + 1 := by unfold wrap64; omega
  have hr := idxP_range (isP s) (l.drop (i + 1).toNat)
  have he : l.drop i.toNat = rd_T53 l i :: l.drop (i + 1).toNat := by
   rw [List.drop_eq_getElem_cons (show i.toNat < l.length by omega), show (i + 1).toNat = i.toNat + 1 by omega]
   simp [rd_T53, List.getD_eq_getElem?_getD, List.getElem?_eq_getElem (show i.toNat < l.length by omega)]
  rw [tinderref08_find.l0, if_pos (by omega), if_pos h0, hw, pfind_go l s hl d k (i + 1) (by omega) (by omega) (by omega), he, idxP]
  by_cases h2 : (rd_T53 l i).f0.toList = s.toList
  ·have hp : isP s (rd_T53 l i) = true := beq_iff_eq.2 h2
   rw [if_pos h2, if_pos hp, if_neg (by decide), Int.zero_add]
  ·have hp : isP s (rd_T53 l i) = false := beq_eq_false_iff_ne.2 h2
   rw [if_neg h2, if_neg (show ¬ isP s (rd_T53 l i) = true by rw [hp]; exact Bool.false_ne_true)]
   by_cases h3 : idxP (isP s) (l.drop (i + 1).toNat) < 0
   ·rw [if_pos h3, if_pos h3, if_pos (by decide)]
   ·rw [if_neg h3, if_neg h3, if_neg (by omega)]
    congr 1
    omega
theorem pfind_eq (l : List S53) (s : ByteArray) (hl : l.length ≤ 1000000) (k : Nat) (hk : l.length < k) : tinderref08_find.f k l s = some (idxP (isP s) l) := by
 have hr := idxP_range (isP s) l
 unfold tinderref08_find.f
 rw [pfind_go l s hl l.length k 0 (Int.le_refl _) (by omega) hk]
 rw [show l.drop (0 : Int).toNat = l from rfl]
 congr 1
 split <;> omega
theorem range_at (n i : Nat) (h : i < n) (p : Nat → Bool) : ((List.range n).drop i).all p = (p i && ((List.range n).drop (i + 1)).all p) := by
 rw [List.drop_eq_getElem_cons (show i < (List.range n).length by rw [List.length_range]; exact h), List.all_cons, List.getElem_range]
theorem range_end (n i : Nat) (h : n ≤ i) (p : Nat → Bool) : ((List.range n).drop i).all p = true := by
 rw [List.drop_eq_nil_of_le (by rw [List.length_range]; exact h)]
 rfl
/-- The round over a device's properties. -/
theorem props_go (t : List S44) (n : Int) (nm : ByteArray) (u : List Int) (p : Int) (l : List S53) (ce : List Int) (hl : l.length ≤ 16) (R : Bool) (K : Nat) (hR : ∀ k, K ≤ k → tinderref08_Formed.l0 k t (wrap64 (n + 1)) = some R) : ∀ (d k : Nat) (i : Int), 0 ≤ i → i + d = l.length → d + K + 500 ≤ k → tinderref08_Formed.l1 k t n i nm u p l ce = some (((List.range l.length).drop i.toNat).all (pOk l) && R)
 | 0, k, i, h0, h1, hk => by
  obtain ⟨k, rfl⟩ : ∃ m, k = m + 1 := ⟨k - 1, by omega⟩
  rw [tinderref08_Formed.l1, if_neg (by omega), hR k (by omega), range_end _ _ (by omega), Bool.true_and]
 | d + 1, k, i, h0, h1, hk => by
  obtain ⟨k, rfl⟩ : ∃ m, k = m + 1 := ⟨k - 1, by omega⟩
  have hw : wrap64 (i + 1) = i + 1 := by unfold wrap64; omega
  have ih := props_go t n nm u p l ce hl R K hR d k (i + 1) (by omega) (by omega) (by omega)
  have hr := idxP_range (isP (rd_T53 l i).f0) (l.take i.toNat)
  have ha := idxP_any (isP (rd_T53 l i).f0) (l.take i.toNat)
  rw [tinderref08_Formed.l1, if_pos (by omega), if_pos h0, refnamed_eq k (by omega), Option.bind_some, if_pos (show i ≤ (l.length : Int) by omega), pfind_eq _ _ (by rw [List.length_take]; omega) k (by rw [List.length_take]; omega), Option.bind_some, hw, ih, range_at l.length i.toNat (by omega) (pOk l), show (i + 1).toNat = i.toNat + 1 by omega]
  rw [show pOk l i.toNat = (namedF (rd_T53 l i).f0 && (decide ((rd_T53 l i).f1.length ≤ 256) && !(l.take i.toNat).any (isP (rd_T53 l i).f0))) from rfl, ← ha]
  by_cases h2 : namedF (rd_T53 l i).f0 = true
  ·rw [if_pos h2, h2]
   by_cases h3 : ((rd_T53 l i).f1.length : Int) > 256
   ·rw [if_pos h3, decide_eq_false (show ¬ (rd_T53 l i).f1.length ≤ 256 by omega)]
    rfl
   ·rw [if_neg h3, decide_eq_true (show (rd_T53 l i).f1.length ≤ 256 by omega)]
    by_cases h4 : 0 ≤ idxP (isP (rd_T53 l i).f0) (l.take i.toNat)
    ·rw [if_pos h4, decide_eq_true h4]
     rfl
    ·rw [if_neg h4, decide_eq_false h4]
     rfl
  ·rw [if_neg h2, Bool.eq_false_iff.2 h2]
   rfl
def nodeR (t : List S44) (i : Nat) : Bool := (!decide (16 < ((t.getD i z44).f4.length : Int)) && propsF (t.getD i z44).f3) && (if (i : Int) == 0 then true else kidOk (t.take i) i (t.getD i z44))
/-- From the device's second part on. -/
theorem node_tail (t : List S44) (i : Int) (x : S44) (R : Bool) (K : Nat) (hR : ∀ k, K ≤ k → tinderref08_Formed.l0 k t (wrap64 (i + 1)) = some R) (b : Bool) (k : Nat) (hk : K + 600 ≤ k) : tinderref08_Formed.j2 k t i b x.f0 x.f1 x.f2 x.f3 x.f4 = some (!b && ((!decide (16 < (x.f4.length : Int)) && propsF x.f3) && R)) := by
 obtain ⟨k, rfl⟩ : ∃ m, k = m + 1 + 1 := ⟨k - 2, by omega⟩
 rw [tinderref08_Formed.j2]
 cases b
 ·rw [if_neg (by decide), tinderref08_Formed.j3, tinderref08_Formed.j3]
  unfold propsF
  by_cases h3 : (x.f3.length : Int) > 16
  ·rw [if_pos h3, if_pos rfl, decide_eq_false (show ¬ x.f3.length ≤ 16 by omega)]
   simp
  ·rw [if_neg h3]
   by_cases h4 : (x.f4.length : Int) > 16
   ·rw [decide_eq_true h4, if_pos rfl]
    simp
   ·rw [decide_eq_false h4, if_neg (by decide), props_go t i _ _ _ x.f3 _ (by omega) R K hR x.f3.length k 0 (Int.le_refl _) (by omega) (by omega), decide_eq_true (show x.f3.length ≤ 16 by omega)]
    simp
 ·rw [if_pos rfl]
  rfl
theorem nodes_go (t : List S44) (ht : t.length ≤ 1000) (hU : ∀ x ∈ t, x.f1.length ≤ 9223372036854775807) (F : Nat) (hF : ∀ x ∈ t, x.f1.length < F) (B : Nat) (hB : F + 3000 ≤ B) : ∀ (d k : Nat) (i : Int), 0 ≤ i → i + d = t.length → d * B + 1 ≤ k → tinderref08_Formed.l0 k t i = some (((List.range t.length).drop i.toNat).all (nodeR t))
 | 0, k, i, h0, h1, hk => by
  obtain ⟨k, rfl⟩ : ∃ m, k = m + 1 := ⟨k - 1, by omega⟩
  rw [tinderref08_Formed.l0, if_neg (by omega), range_end _ _ (by omega)]
 | d + 1, k, i, h0, h1, hk => by
  obtain ⟨k, rfl⟩ : ∃ m, k = m + 1 := ⟨k - 1, by omega⟩
  rw [Nat.add_mul, Nat.one_mul] at hk
  have hw : wrap64 (i + 1) = i + 1 := by unfold wrap64; omega
  have ei : ((i.toNat : Nat) : Int) = i := by omega
  obtain ⟨R, hRe⟩ : ∃ R, R = ((List.range t.length).drop (i + 1).toNat).all (nodeR t) := ⟨_, rfl⟩
  have hR : ∀ k', d * B + 1 ≤ k' → tinderref08_Formed.l0 k' t (wrap64 (i + 1)) = some R := fun k' hk' => by
   rw [hw, nodes_go t ht hU F hF B hB d k' (i + 1) (by omega) (by omega) hk', hRe]
  have tail := fun b => node_tail t i (rd_T44 t i) R _ hR b k (by omega)
  rw [range_at t.length i.toNat (by omega) (nodeR t), show i.toNat + 1 = (i + 1).toNat by omega, ← hRe]
  rw [show nodeR t i.toNat = ((!decide (16 < ((rd_T44 t i).f4.length : Int)) && propsF (rd_T44 t i).f3) && (if i == 0 then true else kidOk (t.take i.toNat) i (rd_T44 t i))) by
   unfold nodeR
   rw [ei]
   rfl]
  rw [tinderref08_Formed.l0, if_pos (by omega), if_pos h0]
  by_cases hi : i > 0
  ·rw [if_pos hi, refnamed_eq k (by omega), Option.bind_some, if_neg (show ¬ (i == 0) = true by rw [beq_eq_false_iff_ne.2 (by omega)]; exact Bool.false_ne_true)]
   have htw : tinderref08_twin.f k t i (rd_T44 t i).f2 (rd_T44 t i).f0 (rd_T44 t i).f1 = some ((t.take i.toNat).any (isN (rd_T44 t i).f2 (rd_T44 t i).f0 (rd_T44 t i).f1)) := by
    have h := twin_go t (rd_T44 t i).f2 (rd_T44 t i).f0 (rd_T44 t i).f1 i.toNat (by omega) ht hU F hF i.toNat k 0 (Int.le_refl _) (by omega) (by omega)
    rw [ei] at h
    exact h
   rw [htw, Option.bind_some, tail, tail, kidOk]
   generalize (!decide (16 < ((rd_T44 t i).f4.length : Int)) && propsF (rd_T44 t i).f3) = q
   generalize (t.take i.toNat).any (isN (rd_T44 t i).f2 (rd_T44 t i).f0 (rd_T44 t i).f1) = a
   by_cases h2 : namedF (rd_T44 t i).f0 = true
   ·rw [if_pos h2, h2]
    by_cases h3 : ((rd_T44 t i).f1.length : Int) > 4
    ·rw [if_pos h3, decide_eq_true (show (4 : Int) < (rd_T44 t i).f1.length from h3)]
     simp
    ·rw [if_neg h3, decide_eq_false (show ¬ (4 : Int) < (rd_T44 t i).f1.length from h3)]
     by_cases h4 : (rd_T44 t i).f2 < 0
     ·rw [if_pos h4, decide_eq_true h4]
      simp
     ·rw [if_neg h4, decide_eq_false h4]
      by_cases h5 : (rd_T44 t i).f2 ≥ i
      ·rw [if_pos h5, decide_eq_true (show i ≤ (rd_T44 t i).f2 from h5)]
       simp
      ·rw [if_neg h5, decide_eq_false (show ¬ i ≤ (rd_T44 t i).f2 from h5)]
       cases a <;> cases q <;> rfl
   ·rw [if_neg h2, Bool.eq_false_iff.2 h2]
    simp
  ·rw [if_neg hi, tail, if_pos (show (i == 0) = true by rw [beq_iff_eq]; omega)]
   simp
theorem node_first (t : List S44) (h : 0 < t.length) : (List.range t.length).all (nodeOk t) = (rootOk (rd_T44 t 0) && (List.range t.length).all (nodeR t)) := by
 have e1 := range_at t.length 0 h (nodeOk t)
 have e2 := range_at t.length 0 h (nodeR t)
 rw [List.drop_zero] at e1 e2
 rw [e1, e2]
 have e3 : ((List.range t.length).drop 1).all (nodeOk t) = ((List.range t.length).drop 1).all (nodeR t) := by
  rw [Bool.eq_iff_iff, List.all_eq_true, List.all_eq_true]
  have key : ∀ j ∈ (List.range t.length).drop 1, nodeOk t j = nodeR t j := by
   intro j hj
   have h1 : 1 ≤ j := by
    obtain ⟨m, hm, rfl⟩ := List.getElem_of_mem hj
    rw [List.getElem_drop, List.getElem_range]
    omega
   unfold nodeOk nodeR
   rw [if_neg (show ¬ ((j : Int) == 0) = true by rw [beq_eq_false_iff_ne.2 (by omega)]; exact Bool.false_ne_true), if_neg (show ¬ ((j : Int) == 0) = true by rw [beq_eq_false_iff_ne.2 (by omega)]; exact Bool.false_ne_true)]
  exact ⟨fun hh j hj => by rw [← key j hj]; exact hh j hj, fun hh j hj => by rw [key j hj]; exact hh j hj⟩
 rw [show (0 + 1 : Nat) = 1 from rfl, e3]
 have e4 : nodeOk t 0 = (rootOk (rd_T44 t 0) && nodeR t 0) := by
  unfold nodeOk nodeR
  rw [show rd_T44 t 0 = t.getD 0 z44 from rfl]
  simp [Bool.and_comm]
 rw [e4, Bool.and_assoc]
theorem refFormed_eq (t : List S44) (hU : ∀ x ∈ t, x.f1.length ≤ 9223372036854775807) (F : Nat) (hF : ∀ x ∈ t, x.f1.length < F) (B : Nat) (hB : F + 3000 ≤ B) (k : Nat) (hk : 32 * B + 10 ≤ k) : tinderref08_Formed.f k t = some (treeF t) := by
 obtain ⟨k, rfl⟩ : ∃ m, k = m + 1 := ⟨k - 1, by omega⟩
 have hT : ∀ b, tinderref08_Formed.j0 (k + 1) t b = if b = true then some false else tinderref08_Formed.l0 k t 0 := fun b => by rw [tinderref08_Formed.j0]
 unfold tinderref08_Formed.f treeF
 by_cases h1 : (t.length : Int) < 1
 ·rw [if_pos h1, hT, if_pos rfl, beq_iff_eq.2 (show (t.length : Int) = 0 by omega)]
  rfl
 ·rw [if_neg h1, beq_eq_false_iff_ne.2 (show (t.length : Int) ≠ 0 by omega)]
  by_cases h2 : (t.length : Int) > 32
  ·rw [if_pos h2, hT, if_pos rfl, decide_eq_true (show (32 : Int) < t.length from h2)]
   rfl
  ·rw [if_neg h2, decide_eq_false (show ¬ (32 : Int) < t.length from h2), if_pos (by omega), node_first t (by omega)]
   have hn : tinderref08_Formed.l0 k t 0 = some ((List.range t.length).all (nodeR t)) := by
    have hm : t.length * B ≤ 32 * B := Nat.mul_le_mul_right _ (by omega)
    have h := nodes_go t (by omega) hU F hF B hB t.length k 0 (Int.le_refl _) (by omega) (by omega)
    exact h
   rw [hT, hT, hn, rootOk]
   generalize (List.range t.length).all (nodeR t) = q
   by_cases h3 : (rd_T44 t 0).f0.toList = ([] : List UInt8)
   ·rw [if_pos h3, beq_iff_eq.2 h3]
    by_cases h4 : ((rd_T44 t 0).f1.length : Int) > 0
    ·rw [if_pos h4, beq_eq_false_iff_ne.2 (show ((rd_T44 t 0).f1.length : Int) ≠ 0 by omega), if_pos rfl]
     simp
    ·rw [if_neg h4, beq_iff_eq.2 (show ((rd_T44 t 0).f1.length : Int) = 0 by omega)]
     rw [bne]
     cases (rd_T44 t 0).f2 == -1 <;> simp
   ·rw [if_neg h3, beq_eq_false_iff_ne.2 h3, if_pos rfl]
    simp
end Go.Proofs.YtnalcjgefbelnaaDoor.Q
end
section
set_option linter.unusedSimpArgs false
set_option linter.unusedVariables false
namespace Go.Proofs.YtnalcjgefbelnaaDoor.Q
open Go.RowKit Go.Proofs.YtnalcjgefbelnaaDoorW.PrintWords Go.Proofs.YtnalcjgefbelnaaDoorW.PrintLast
theorem same4_self (x : List Int) : tinderref04_Same.f x x = some true := by
 unfold tinderref04_Same.f
 rw [beq_self_eq_true]
theorem sameprops_go (n : ByteArray) (u : List Int) (p : Int) (l : List S53) (ce : List Int) (hl : l.length ≤ 1000000000000000) : ∀ (d k : Nat) (i : Int), 0 ≤ i → i + d = l.length → d < k → tinderref08_SameNode.l0 k i n u p l ce n u p l ce = some true
 | 0, k, i, h0, h1, hk => by
  obtain ⟨k, rfl⟩ : ∃ m, k = m + 1 := ⟨k - 1, by omega⟩
  rw [tinderref08_SameNode.l0, if_neg (by omega)]
 | d + 1, k, i, h0, h1, hk => by
  obtain ⟨k, rfl⟩ : ∃ m, k = m + 1 := ⟨k - 1, by omega⟩
  have hw : wrap64 (i + 1) = i + 1 := by unfold wrap64; omega
  rw [tinderref08_SameNode.l0, if_pos (by omega), if_pos h0, if_pos (by omega), if_pos rfl, same4_self, Option.bind_some, if_pos rfl, hw]
  exact sameprops_go n u p l ce hl d k (i + 1) (by omega) (by omega) (by omega)
/-- Lists of a device that are no longer than B. -/
def LenN (B : Nat) (x : S44) : Prop := x.f1.length ≤ B ∧ x.f4.length ≤ B ∧ x.f3.length ≤ B
theorem samenode_eq (x : S44) (B : Nat) (hB : B ≤ 1000000000000000) (h : LenN B x) (k : Nat) (hk : B + 3 ≤ k) : tinderref08_SameNode.f k x.f0 x.f1 x.f2 x.f3 x.f4 x.f0 x.f1 x.f2 x.f3 x.f4 = some true := by
 obtain ⟨k, rfl⟩ : ∃ m, k = m + 1 := ⟨k - 1, by omega⟩
 obtain ⟨h1, h4, h3⟩ := h
 unfold tinderref08_SameNode.f
 rw [if_pos rfl, if_pos rfl, same3_eq _ _ (by omega) _ (by omega), Option.bind_some, decide_eq_true rfl, if_pos rfl, same3_eq _ _ (by omega) _ (by omega), Option.bind_some, decide_eq_true rfl, if_pos rfl, tinderref08_SameNode.j0, show ((x.f3.length : Int) != (x.f3.length : Int)) = false by simp, if_neg (by decide)]
 exact sameprops_go _ _ _ _ _ (by omega) x.f3.length k 0 (Int.le_refl _) (by omega) (by omega)
theorem same8_go (t : List S44) (B : Nat) (hB : B ≤ 1000000000000000) (ht : t.length ≤ 1000000000000000) (hL : ∀ x ∈ t, LenN B x) : ∀ (d k : Nat) (i : Int), 0 ≤ i → i + d = t.length → d + B + 4 ≤ k → tinderref08_Same.l0 k t t i = some true
 | 0, k, i, h0, h1, hk => by
  obtain ⟨k, rfl⟩ : ∃ m, k = m + 1 := ⟨k - 1, by omega⟩
  rw [tinderref08_Same.l0, if_neg (by omega)]
 | d + 1, k, i, h0, h1, hk => by
  obtain ⟨k, rfl⟩ : ∃ m, k = m + 1 := ⟨k - 1, by omega⟩
  have hw : wrap64 (i + 1) = i + 1 := by unfold wrap64; omega
  have hx : rd_T44 t i ∈ t := by
   unfold rd_T44
   rw [List.getD_eq_getElem?_getD, List.getElem?_eq_getElem (show i.toNat < t.length by omega)]
   exact List.getElem_mem _
  rw [tinderref08_Same.l0, if_pos (by omega), if_pos h0, if_pos (by omega), samenode_eq _ B hB (hL _ hx) k (by omega), Option.bind_some, if_pos rfl, hw]
  exact same8_go t B hB ht hL d k (i + 1) (by omega) (by omega) (by omega)
theorem same8_eq (t : List S44) (B : Nat) (hB : B ≤ 1000000000000000) (ht : t.length ≤ 1000000000000000) (hL : ∀ x ∈ t, LenN B x) (k : Nat) (hk : t.length + B + 4 ≤ k) : tinderref08_Same.f k t t = some true := by
 unfold tinderref08_Same.f
 rw [if_pos rfl]
 exact same8_go t B hB ht hL t.length k 0 (Int.le_refl _) (by omega) hk
end Go.Proofs.YtnalcjgefbelnaaDoor.Q
end
section
namespace Go.Proofs.YtnalcjgefbelnaaDoor.Q
open Go.RowKit Go.Proofs.YtnalcjgefbelnaaDoorW.PrintWords Go.Proofs.YtnalcjgefbelnaaDoorW.PrintLast Go.Proofs.YtnalcjgefbelnaaDoorW.PrintMore
set_option linter.unusedVariables false
set_option linter.unusedSimpArgs false

attribute [local go_sem] max2_int min2_int max_two min_two max_three min_three max_four min_four
/-! ### tree_check: function 53 -/
def tree_check.f (l0 : List (S44)) (a1 : Int) : Option (Int) := (tree_Formed.f l0).bind fun t54001 => (if t54001 = true then (if a1 < 0 then (some 19) else (if a1 ≥ (l0.length : Int) then (some 19) else (some 0))) else (some 1))
set_option maxHeartbeats 8000000 in
set_option maxRecDepth 100000 in
theorem tree_check.calls (A0 : Option Addr) (c0 : Nat) (l0 : List (S44)) (a1 : Int) (r : Int) (w : World) (hr0 : Kd.C k44 w A0 l0.length l0) (hc0 : l0.length ≤ c0) (h : tree_check.f l0 a1 = some r) :
  Calls Tryd.prog 53 #[.slice A0 l0.length c0, .int .i64 a1] w fun e w' => e = .returned (.int .i64 r) ∧ Below w.heap.size w w' := by
 have HR0 := Aside0.mk hr0
 have HC0 := Aside0.mk hc0
 clear hr0 hc0
 have HB := Aside0.mk (Below.refl w.heap.size w)
 have H : ((tree_Formed.f l0).bind fun t54001 => (if t54001 = true then (if a1 < 0 then (some 19) else (if a1 ≥ (l0.length : Int) then (some 19) else (some 0))) else (some 1))) = some r := h
 clear h
 replace H := Option.bind_eq_some_iff.mp H
 obtain ⟨t54001, A30, H⟩ := H
 replace H : (if t54001 = true then (if a1 < 0 then (some 19) else (if a1 ≥ (l0.length : Int) then (some 19) else (some 0))) else (some 1)) = some r := H
 have A3 := Aside0.mk A30
 clear A30
 by_cases c4 : t54001 = true
 ·subst c4
  have H1 : (if a1 < 0 then (some 19) else (if a1 ≥ (l0.length : Int) then (some 19) else (some 0))) = some r := by rw [if_pos rfl] at H; exact H
  clear H
  have H := H1
  clear H1
  by_cases c5 : a1 < 0
  ·rw [if_pos c5] at H
   have c5b0 : decide (a1 < 0) = true := decide_eq_true c5
   clear c5
   obtain rfl := Option.some.inj H
   go_enter Tryd.func53, Tryd.ntmps53
   go_wp2_with (first | ((with_reducible refine gate_callee (f := 12) rfl ?_); refine goesL_ (some 7) rfl rfl Tryd.func12 (by kernel_rfl) rfl #[.slice A0 l0.length c0] rfl (by (try simp only [List.map_toArray, List.map_cons, List.map_nil]); first | done | rfl | (simp only [List.length_drop, List.length_take]; rfl)) ?_; (with_reducible refine (tree_Formed.calls _ _ l0 true _ ?side1 ?side2 A3.out).mono ?_); (case side1 => repeat (first | exact HR0.out | (with_reducible refine Kd.C_alloc ?_ _) | (with_reducible refine Kd.C_drewN ?_ _) | (with_reducible refine Kd.C_drew ?_))); (case side2 => exact HC0.out); rintro e w6 ⟨rfl, hb⟩; refine ⟨_, rfl, ?_⟩; have n0_ := Aside0.mk (below_step (by repeat (first | (with_reducible first | exact HB.out | apply below_alloc | apply pw_below_drewN | apply below_drew1) | exact HB.out)) hb); clear HB; have HB := n0_; clear n0_; (try clear hb); (try clear hb2); (try clear hk); (try clear hi)))
   go_ret
   exact ⟨by first | rfl | (simp [errW_none, errW_some] <;> rfl) | (simp [*, errW_none, errW_some] <;> rfl), by repeat (first | (with_reducible first | exact HB.out | apply below_alloc | apply pw_below_drewN | apply below_drew1) | exact HB.out)⟩
  ·rw [if_neg c5] at H
   have c5b0 : decide (a1 < 0) = false := decide_eq_false c5
   clear c5
   by_cases c7 : a1 ≥ (l0.length : Int)
   ·rw [if_pos c7] at H
    have c7b0 : decide ((l0.length : Int) ≤ a1) = true := decide_eq_true c7
    clear c7
    obtain rfl := Option.some.inj H
    go_enter Tryd.func53, Tryd.ntmps53
    go_wp2_with (first | ((with_reducible refine gate_callee (f := 12) rfl ?_); refine goesL_ (some 7) rfl rfl Tryd.func12 (by kernel_rfl) rfl #[.slice A0 l0.length c0] rfl (by (try simp only [List.map_toArray, List.map_cons, List.map_nil]); first | done | rfl | (simp only [List.length_drop, List.length_take]; rfl)) ?_; (with_reducible refine (tree_Formed.calls _ _ l0 true _ ?side1 ?side2 A3.out).mono ?_); (case side1 => repeat (first | exact HR0.out | (with_reducible refine Kd.C_alloc ?_ _) | (with_reducible refine Kd.C_drewN ?_ _) | (with_reducible refine Kd.C_drew ?_))); (case side2 => exact HC0.out); rintro e w8 ⟨rfl, hb⟩; refine ⟨_, rfl, ?_⟩; have n0_ := Aside0.mk (below_step (by repeat (first | (with_reducible first | exact HB.out | apply below_alloc | apply pw_below_drewN | apply below_drew1) | exact HB.out)) hb); clear HB; have HB := n0_; clear n0_; (try clear hb); (try clear hb2); (try clear hk); (try clear hi)))
    go_ret
    exact ⟨by first | rfl | (simp [errW_none, errW_some] <;> rfl) | (simp [*, errW_none, errW_some] <;> rfl), by repeat (first | (with_reducible first | exact HB.out | apply below_alloc | apply pw_below_drewN | apply below_drew1) | exact HB.out)⟩
   ·rw [if_neg c7] at H
    have c7b0 : decide ((l0.length : Int) ≤ a1) = false := decide_eq_false c7
    clear c7
    obtain rfl := Option.some.inj H
    go_enter Tryd.func53, Tryd.ntmps53
    go_wp2_with (first | ((with_reducible refine gate_callee (f := 12) rfl ?_); refine goesL_ (some 7) rfl rfl Tryd.func12 (by kernel_rfl) rfl #[.slice A0 l0.length c0] rfl (by (try simp only [List.map_toArray, List.map_cons, List.map_nil]); first | done | rfl | (simp only [List.length_drop, List.length_take]; rfl)) ?_; (with_reducible refine (tree_Formed.calls _ _ l0 true _ ?side1 ?side2 A3.out).mono ?_); (case side1 => repeat (first | exact HR0.out | (with_reducible refine Kd.C_alloc ?_ _) | (with_reducible refine Kd.C_drewN ?_ _) | (with_reducible refine Kd.C_drew ?_))); (case side2 => exact HC0.out); rintro e w9 ⟨rfl, hb⟩; refine ⟨_, rfl, ?_⟩; have n0_ := Aside0.mk (below_step (by repeat (first | (with_reducible first | exact HB.out | apply below_alloc | apply pw_below_drewN | apply below_drew1) | exact HB.out)) hb); clear HB; have HB := n0_; clear n0_; (try clear hb); (try clear hb2); (try clear hk); (try clear hi)))
    go_ret
    exact ⟨by first | rfl | (simp [errW_none, errW_some] <;> rfl) | (simp [*, errW_none, errW_some] <;> rfl), by repeat (first | (with_reducible first | exact HB.out | apply below_alloc | apply pw_below_drewN | apply below_drew1) | exact HB.out)⟩
 ·replace c4 := Bool.eq_false_iff.mpr c4
  subst c4
  have H1 : (some 1) = some r := by rw [if_neg (show ¬ (false = true) by decide)] at H; exact H
  clear H
  have H := H1
  clear H1
  obtain rfl := Option.some.inj H
  go_enter Tryd.func53, Tryd.ntmps53
  go_wp2_with (first | ((with_reducible refine gate_callee (f := 12) rfl ?_); refine goesL_ (some 7) rfl rfl Tryd.func12 (by kernel_rfl) rfl #[.slice A0 l0.length c0] rfl (by (try simp only [List.map_toArray, List.map_cons, List.map_nil]); first | done | rfl | (simp only [List.length_drop, List.length_take]; rfl)) ?_; (with_reducible refine (tree_Formed.calls _ _ l0 false _ ?side1 ?side2 A3.out).mono ?_); (case side1 => repeat (first | exact HR0.out | (with_reducible refine Kd.C_alloc ?_ _) | (with_reducible refine Kd.C_drewN ?_ _) | (with_reducible refine Kd.C_drew ?_))); (case side2 => exact HC0.out); rintro e w10 ⟨rfl, hb⟩; refine ⟨_, rfl, ?_⟩; have n0_ := Aside0.mk (below_step (by repeat (first | (with_reducible first | exact HB.out | apply below_alloc | apply pw_below_drewN | apply below_drew1) | exact HB.out)) hb); clear HB; have HB := n0_; clear n0_; (try clear hb); (try clear hb2); (try clear hk); (try clear hi)))
  go_ret
  exact ⟨by first | rfl | (simp [errW_none, errW_some] <;> rfl) | (simp [*, errW_none, errW_some] <;> rfl), by repeat (first | (with_reducible first | exact HB.out | apply below_alloc | apply pw_below_drewN | apply below_drew1) | exact HB.out)⟩

end Go.Proofs.YtnalcjgefbelnaaDoor.Q
end
section
set_option linter.unusedSimpArgs false
set_option linter.unusedVariables false
namespace Go.Proofs.YtnalcjgefbelnaaDoor.Q
open Go.RowKit Go.Proofs.YtnalcjgefbelnaaDoorW.PrintWords Go.Proofs.YtnalcjgefbelnaaDoorW.PrintLast Go.Proofs.YtnalcjgefbelnaaDoorW.PrintMore
attribute [local go_sem] max2_int min2_int max_two min_two max_three min_three max_four min_four
def tree_Add.f (l0 : List S44) (a1 : Int) (a2 : ByteArray) (l3 : List Int) : Option (List S44 × Int × Int) := (tree_check.f l0 a1).bind fun e => if e = 0 then (if namedF a2 = true then (if (4 : Int) < (l3.length : Int) then some (([] : List S44), 0, 1) else (if l0.any (isN a1 a2 l3) = true then some (([] : List S44), 0, 20) else (if (l0.length : Int) = 32 then some (([] : List S44), 0, 22) else (if l0.length ≤ 32 ∧ shortT l0 = true then some (l0 ++ [(⟨a2, l3, a1, [], []⟩ : S44)], (l0.length : Int), 0) else none)))) else some (([] : List S44), 0, 1)) else some (([] : List S44), 0, e)
set_option maxHeartbeats 8000000 in
set_option maxRecDepth 100000 in
theorem tree_Add.calls (A0 : Option Addr) (c0 : Nat) (l0 : List S44) (a1 : Int) (a2 : ByteArray) (A3 : Option Addr) (c3 : Nat) (l3 : List Int) (r1 : List S44) (r2 r3 : Int) (w : World) (hr0 : Kd.C k44 w A0 l0.length l0) (hc0 : l0.length ≤ c0) (hr3 : Kd.C (Kd.int .u32) w A3 l3.length l3) (hc3 : l3.length ≤ c3) (h : tree_Add.f l0 a1 a2 l3 = some (r1, r2, r3)) :
  Calls Tryd.prog 19 #[.slice A0 l0.length c0, .int .i64 a1, .string a2, .slice A3 l3.length c3] w fun e w' => ∃ v0_ : Value, e = .returned (.tuple #[v0_, .int .i64 r2, .int .i64 r3]) ∧ Kd.R k44 44 w' w.heap.size (fun _ => True) v0_ r1 ∧ Below w.heap.size w w' := by
 have hu44 := Tryd.underlying44
 unfold tree_Add.f at h
 obtain ⟨e0, A1, H⟩ := Option.bind_eq_some_iff.mp h
 clear h
 have HCK := Aside0.mk (tree_check.calls A0 c0 l0 a1 e0 w hr0 hc0 A1)
 have HNM := Aside0.mk (fun (W : World) => prop_Named.calls 400 a2 (namedF a2) W (named_eq 400 (by decide) a2))
 have HC0 := Aside0.mk hr0
 have HC3 := Aside0.mk hr3
 have HK0 := Aside0.mk hc0
 have HK3 := Aside0.mk hc3
 have HCN := Aside0.mk (fun (g1 g2 g3 : Nat) (W : World) (hb : Below w.heap.size w W) (h1 : W.heap[g1]? = some (.cells #[.int .i64 a1] 3 (0, 0))) (h2 : W.heap[g2]? = some (.cells #[.string a2] 9 (0, 0))) (h3 : W.heap[g3]? = some (.cells #[.slice A3 l3.length c3] 31 (0, 0))) => containsNode_calls a1 a2 l3 A3 c3 g1 g2 g3 A0 c0 l0 W (Kd.C_below hr0 hb) h1 h2 h3 (Kd.C_below hr3 hb) hc3)
 clear hr0 hc0 hr3 hc3 A1
 by_cases he : e0 = 0
 ·subst he
  rw [if_pos rfl] at H
  cases hn : namedF a2
  ·rw [if_neg (by rw [hn]; decide)] at H
   simp only [Option.some.injEq, Prod.mk.injEq] at H
   obtain ⟨rfl, rfl, rfl⟩ := H
   rw [hn] at HNM
   clear hn
   go_enter Tryd.func19, Tryd.ntmps19
   go_wp2_with (first
    | (go_at_call 53; refine HCK.out.mono ?_; rintro e w1 ⟨rfl, hb⟩; have HB := Aside0.mk hb; clear hb)
    | (go_at_call 41; refine (HNM.out _).mono ?_; rintro e w2 ⟨rfl, hb⟩; replace HB := Aside0.mk (below_step HB.out hb); clear hb))
   exact bodyPost_ret (results_tmp3 rfl _ _ _) rfl ⟨_, rfl, Kd.R_nil _ _ _ _ _, HB.out⟩
  ·rw [if_pos hn] at H
   rw [hn] at HNM
   clear hn
   by_cases h4 : (4 : Int) < (l3.length : Int)
   ·rw [if_pos h4] at H
    simp only [Option.some.injEq, Prod.mk.injEq] at H
    obtain ⟨rfl, rfl, rfl⟩ := H
    have d4 : decide ((4 : Int) < (l3.length : Int)) = true := decide_eq_true h4
    go_enter Tryd.func19, Tryd.ntmps19
    go_wp2_with (first
     | (go_at_call 53; refine HCK.out.mono ?_; rintro e w1 ⟨rfl, hb⟩; have HB := Aside0.mk hb; clear hb)
     | (go_at_call 41; refine (HNM.out _).mono ?_; rintro e w2 ⟨rfl, hb⟩; replace HB := Aside0.mk (below_step HB.out hb); clear hb))
    exact bodyPost_ret (results_tmp3 rfl _ _ _) rfl ⟨_, rfl, Kd.R_nil _ _ _ _ _, HB.out⟩
   ·rw [if_neg h4] at H
    have d4 : decide ((4 : Int) < (l3.length : Int)) = false := decide_eq_false h4
    have HCU := Aside0.mk (show slices_Clone_uint32_uint32.f l3 = some l3 by unfold slices_Clone_uint32_uint32.f; rw [if_pos (by omega)])
    clear h4
    cases ha : l0.any (isN a1 a2 l3)
    ·rw [if_neg (by rw [ha]; decide)] at H
     rw [ha] at HCN
     clear ha
     by_cases h32 : (l0.length : Int) = 32
     ·rw [if_pos h32] at H
      simp only [Option.some.injEq, Prod.mk.injEq] at H
      obtain ⟨rfl, rfl, rfl⟩ := H
      have d32 : ((l0.length : Int) == 32) = true := beq_iff_eq.2 h32
      clear h32
      go_enter Tryd.func19, Tryd.ntmps19
      go_wp2_with (first
       | (go_at_call 53; refine HCK.out.mono ?_; rintro e w1 ⟨rfl, hb⟩; have HB := Aside0.mk hb; clear hb)
       | (go_at_call 41; refine (HNM.out _).mono ?_; rintro e w2 ⟨rfl, hb⟩; replace HB := Aside0.mk (below_step HB.out hb); clear hb)
       | (go_at_call 43; (with_reducible refine (is_calls a1 a2 A3 l3.length c3 _).mono ?_); rintro e w3 ⟨g1, g2, g3, rfl, hgs, h1, h2, h3, hb⟩; replace HB := Aside0.mk (below_step HB.out hb); have H1 := Aside0.mk h1; have H2 := Aside0.mk h2; have H3 := Aside0.mk h3; clear hgs h1 h2 h3 hb)
       | (go_at_call 42; (with_reducible refine (HCN.out g1 g2 g3 _ HB.out H1.out H2.out H3.out).mono ?_); rintro e w4 ⟨rfl, hb⟩; replace HB := Aside0.mk (below_step HB.out hb); clear hb))
      exact bodyPost_ret (results_tmp3 rfl _ _ _) rfl ⟨_, rfl, Kd.R_nil _ _ _ _ _, HB.out⟩
     ·rw [if_neg h32] at H
      have d32 : ((l0.length : Int) == 32) = false := beq_eq_false_iff_ne.2 h32
      by_cases hs : l0.length ≤ 32 ∧ shortT l0 = true
      ·rw [if_pos hs] at H
       simp only [Option.some.injEq, Prod.mk.injEq] at H
       obtain ⟨rfl, rfl, rfl⟩ := H
       have HCP := Aside0.mk (show tree_Copy.f l0 = some l0 by unfold tree_Copy.f; rw [if_pos hs.2])
       have HLN := Aside0.mk hs.1
       clear h32 hs
       go_enter Tryd.func19, Tryd.ntmps19
       go_wp2_with (first
        | (go_at_call 53; refine HCK.out.mono ?_; rintro e w1 ⟨rfl, hb⟩; have HB := Aside0.mk hb; clear hb)
        | (go_at_call 41; refine (HNM.out _).mono ?_; rintro e w2 ⟨rfl, hb⟩; replace HB := Aside0.mk (below_step HB.out hb); clear hb)
        | (go_at_call 43; (with_reducible refine (is_calls a1 a2 A3 l3.length c3 _).mono ?_); rintro e w3 ⟨g1, g2, g3, rfl, hgs, h1, h2, h3, hb⟩; replace HB := Aside0.mk (below_step HB.out hb); have H1 := Aside0.mk h1; have H2 := Aside0.mk h2; have H3 := Aside0.mk h3; clear hgs h1 h2 h3 hb)
        | (go_at_call 42; (with_reducible refine (HCN.out g1 g2 g3 _ HB.out H1.out H2.out H3.out).mono ?_); rintro e w4 ⟨rfl, hb⟩; replace HB := Aside0.mk (below_step HB.out hb); clear hb)
        | (go_at_call 15; (with_reducible refine (tree_Copy.calls A0 c0 l0 l0 _ (Kd.C_below HC0.out HB.out) HK0.out HCP.out).mono ?_); rintro e w5 ⟨v5, rfl, ho, hb⟩; replace ho := Kd.S_R ho; obtain ⟨A5, c5, rfl⟩ := Kd.R_slice ho; have HO5 := Aside0.mk (Kd.R_lower ho HB.out.size); have HLT := Aside0.mk (Kd.R_lt ho); replace HB := Aside0.mk (below_step HB.out hb); clear ho hb)
        | (go_at_call 48; (with_reducible refine (slices_Clone_uint32_uint32.calls A3 c3 l3 l3 _ (Kd.C_below HC3.out HB.out) HK3.out HCU.out).mono ?_); rintro e w6 ⟨v6, rfl, ho, hb⟩; obtain ⟨A6, c6, rfl⟩ := Kd.R_slice ho; have HO6 := Aside0.mk (Kd.R_lower (Kd.R_mono (Kd.R_bound ho) (ok' := fun k => w5.heap.size ≤ k) (fun k hk => hk.2.1)) HB.out.size); replace HO5 := Aside0.mk (Kd.R_below HO5.out hb); have HS6 := Aside0.mk hb.size; replace HB := Aside0.mk (below_step HB.out hb); clear ho hb)
        | ((with_reducible refine gate_builtin (b := .append) (xs := #[.tmp 39, .tmp 45]) rfl ?_); at_builtin; refine Kd.R_append k44 (w0 := w) w.heap.size rfl (.tmp 39) (.tmp 45) 22 44 (.agg #[(.string ⟨#[]⟩), (.slice none 0 0), (.int .i64 0), (.slice none 0 0), (.slice none 0 0)]) 96 rfl Tryd.underlying22 info44 rfl (by decide) (by decide) (.slice A5 l0.length c5) l0 (⟨a2, l3, a1, [], []⟩ : S44) [.string a2, .slice A6 l3.length c6, .int .i64 a1, .slice none 0 0, .slice none 0 0] (fun _ => True) (fun k => w5.heap.size ≤ k) rfl rfl (k44_mkM _ _ _ _ HO6.out (Kd.R_nil _ _ _ _ _) (Kd.R_nil _ _ _ _ _)) (fun k hk => ⟨trivial, fun e => by have := HLT.out k e.symm; omega⟩) (fun _ _ => trivial) HO5.out HB.out HB.out.size (by have := HLN.out; omega) ?_; intro v7 w7 ho hb hg hat; obtain ⟨A7, c7, rfl⟩ := Kd.R_slice ho; have HO7 := Aside0.mk ho; have HB7 := Aside0.mk hb; clear ho hb hg hat))
       exact bodyPost_ret (results_tmp3 rfl _ _ _) rfl ⟨.slice A7 (l0.length + 1) c7, rfl, by have h := HO7.out; rwa [show (l0 ++ [(⟨a2, l3, a1, [], []⟩ : S44)]).length = l0.length + 1 from by simp] at h, HB7.out⟩
      ·rw [if_neg hs] at H
       cases H
    ·rw [if_pos ha] at H
     rw [ha] at HCN
     clear ha
     simp only [Option.some.injEq, Prod.mk.injEq] at H
     obtain ⟨rfl, rfl, rfl⟩ := H
     go_enter Tryd.func19, Tryd.ntmps19
     go_wp2_with (first
      | (go_at_call 53; refine HCK.out.mono ?_; rintro e w1 ⟨rfl, hb⟩; have HB := Aside0.mk hb; clear hb)
      | (go_at_call 41; refine (HNM.out _).mono ?_; rintro e w2 ⟨rfl, hb⟩; replace HB := Aside0.mk (below_step HB.out hb); clear hb)
      | (go_at_call 43; (with_reducible refine (is_calls a1 a2 A3 l3.length c3 _).mono ?_); rintro e w3 ⟨g1, g2, g3, rfl, hgs, h1, h2, h3, hb⟩; replace HB := Aside0.mk (below_step HB.out hb); have H1 := Aside0.mk h1; have H2 := Aside0.mk h2; have H3 := Aside0.mk h3; clear hgs h1 h2 h3 hb)
      | (go_at_call 42; (with_reducible refine (HCN.out g1 g2 g3 _ HB.out H1.out H2.out H3.out).mono ?_); rintro e w4 ⟨rfl, hb⟩; replace HB := Aside0.mk (below_step HB.out hb); clear hb))
     exact bodyPost_ret (results_tmp3 rfl _ _ _) rfl ⟨_, rfl, Kd.R_nil _ _ _ _ _, HB.out⟩
 ·rw [if_neg he] at H
  simp only [Option.some.injEq, Prod.mk.injEq] at H
  obtain ⟨rfl, rfl, rfl⟩ := H
  have heb : (e0 == 0) = false := beq_eq_false_iff_ne.2 he
  have heb2 : (e0 != 0) = true := bne_iff_ne.2 he
  clear he
  go_enter Tryd.func19, Tryd.ntmps19
  go_wp2_with (first
   | (go_at_call 53; refine HCK.out.mono ?_; rintro e w1 ⟨rfl, hb⟩; have HB := Aside0.mk hb; clear hb))
  exact bodyPost_ret (results_tmp3 rfl _ _ _) rfl ⟨_, rfl, Kd.R_nil _ _ _ _ _, HB.out⟩
end Go.Proofs.YtnalcjgefbelnaaDoor.Q
end
section
namespace Go.Proofs.YtnalcjgefbelnaaDoor.Q
open Go.RowKit Go.Proofs.YtnalcjgefbelnaaDoorW.PrintWords Go.Proofs.YtnalcjgefbelnaaDoorW.PrintLast Go.Proofs.YtnalcjgefbelnaaDoorW.PrintMore
set_option linter.unusedVariables false
set_option linter.unusedSimpArgs false

attribute [local go_sem] max2_int min2_int max_two min_two max_three min_three max_four min_four
/-! ### tinderref03_Copy: function 51 -/
def tinderref03_Copy.f (l0 : List Int) : Option (List Int) := if ([] : List Int).length + l0.length < 35184372088832 then (some (([] : List Int) ++ l0)) else (none)
set_option maxHeartbeats 8000000 in
set_option maxRecDepth 100000 in
theorem tinderref03_Copy.calls (A0 : Option Addr) (c0 : Nat) (l0 : List Int) (r : List Int) (w : World) (hr0 : Kd.C (Kd.int .u32) w A0 l0.length l0) (hc0 : l0.length ≤ c0) (h : tinderref03_Copy.f l0 = some r) :
  Calls Tryd.prog 51 #[.slice A0 l0.length c0] w fun e w' => ∃ v0_ : Value, e = .returned (v0_) ∧ Kd.R (Kd.int .u32) 66 w' w.heap.size (fun _ => True) v0_ r ∧ Below w.heap.size w w' := by
 have HR0 := Aside0.mk hr0
 have HC0 := Aside0.mk hc0
 clear hr0 hc0
 have HB := Aside0.mk (Below.refl w.heap.size w)
 have H : (if ([] : List Int).length + l0.length < 35184372088832 then (some (([] : List Int) ++ l0)) else (none)) = some r := h
 clear h
 by_cases c2 : ([] : List Int).length + l0.length < 35184372088832
 ·rw [if_pos c2] at H
  have LMc2 := Aside0.mk c2
  clear c2
  obtain ⟨y52001, hy52001⟩ : ∃ y_ : List Int, y_ = (([] : List Int) ++ l0) := ⟨_, rfl⟩
  replace H : (some y52001) = some r := by first | (rw [hy52001]; with_reducible exact H) | (have H2_ := (Option.bind_some _ _).symm.trans H; rw [hy52001]; with_reducible exact H2_) | (have H2_ := (Option.bind_some _ _).symm.trans H; with_reducible exact H2_) | with_reducible exact H | (rw [hy52001]; exact H) | exact H
  have Ny52001 := Aside0.mk hy52001
  clear hy52001
  obtain rfl := Option.some.inj H
  go_enter Tryd.func51, Tryd.ntmps51
  go_wp2_with (first | ((with_reducible refine gate_builtin (b := .append) (xs := #[.tmp 4, .tmp 5]) rfl ?_); at_builtin; refine Kd.R_append_rows (Kd.int .u32) (w0 := w) w.heap.size rfl (.tmp 4) (.tmp 5) 31 66 (.int .u32 0) 4 rfl Tryd.underlying31 info66 rfl (by decide) (by omega) (.slice none 0 0) ([] : List Int) l0 _ _ _ (fun _ => True) (fun _ => False) rfl rfl ?aO ?aR (fun _ _ h => h) (fun _ h => h.elim) ?aF ?aB ?aS ?aL ?_; (case aR => repeat (first | exact HR0.out | (with_reducible refine Kd.C_alloc ?_ _) | (with_reducible refine Kd.C_drewN ?_ _) | (with_reducible refine Kd.C_drew ?_))); (case aB => exact (by repeat (first | (with_reducible first | exact HB.out | apply below_alloc | apply pw_below_drewN | apply below_drew1) | exact HB.out))); (case aF => exact (fun _ _ => trivial)); (case aO => exact ((Kd.R_nil _ _ _ _ (fun _ => True)))); (case aS => exact (below_size (by repeat (first | (with_reducible first | exact HB.out | apply below_alloc | apply pw_below_drewN | apply below_drew1) | exact HB.out)))); (case aL => have := LMc2.out; omega); intro v52002 w3 ho hb hg hat; rw [← Ny52001.out] at ho; have n0_ := Aside0.mk (hb); have n1_ := Aside0.mk (ho); clear HB; have HB := n0_; have HO52003 := n1_; clear n0_ n1_; clear ho hb hg hat))
  go_ret
  exact ⟨_, by first | rfl | (simp [errW_none, errW_some] <;> rfl) | (simp [*, errW_none, errW_some] <;> rfl), by (with_reducible repeat (first | apply Kd.R_alloc | apply Kd.R_drewN | apply Kd.R_drew)); exact HO52003.out, by repeat (first | (with_reducible first | exact HB.out | apply below_alloc | apply pw_below_drewN | apply below_drew1) | exact HB.out)⟩
 ·rw [if_neg c2] at H
  exact absurd H (by simp)

end Go.Proofs.YtnalcjgefbelnaaDoor.Q
end
section
namespace Go.Proofs.YtnalcjgefbelnaaDoor.Q
open Go.RowKit Go.Proofs.YtnalcjgefbelnaaDoorW.PrintWords Go.Proofs.YtnalcjgefbelnaaDoorW.PrintLast Go.Proofs.YtnalcjgefbelnaaDoorW.PrintMore
set_option linter.unusedVariables false
set_option linter.unusedSimpArgs false

attribute [local go_sem] max2_int min2_int max_two min_two max_three min_three max_four min_four
/-! ### tinderref04_Copy: function 52 -/
def tinderref04_Copy.f (l0 : List Int) : Option (List Int) := if ([] : List Int).length + l0.length < 140737488355328 then (some (([] : List Int) ++ l0)) else (none)
set_option maxHeartbeats 8000000 in
set_option maxRecDepth 100000 in
theorem tinderref04_Copy.calls (A0 : Option Addr) (c0 : Nat) (l0 : List Int) (r : List Int) (w : World) (hr0 : Kd.C (Kd.int .u8) w A0 l0.length l0) (hc0 : l0.length ≤ c0) (h : tinderref04_Copy.f l0 = some r) :
  Calls Tryd.prog 52 #[.slice A0 l0.length c0] w fun e w' => ∃ v0_ : Value, e = .returned (v0_) ∧ Kd.R (Kd.int .u8) 5 w' w.heap.size (fun _ => True) v0_ r ∧ Below w.heap.size w w' := by
 have HR0 := Aside0.mk hr0
 have HC0 := Aside0.mk hc0
 clear hr0 hc0
 have HB := Aside0.mk (Below.refl w.heap.size w)
 have H : (if ([] : List Int).length + l0.length < 140737488355328 then (some (([] : List Int) ++ l0)) else (none)) = some r := h
 clear h
 by_cases c2 : ([] : List Int).length + l0.length < 140737488355328
 ·rw [if_pos c2] at H
  have LMc2 := Aside0.mk c2
  clear c2
  obtain ⟨y53001, hy53001⟩ : ∃ y_ : List Int, y_ = (([] : List Int) ++ l0) := ⟨_, rfl⟩
  replace H : (some y53001) = some r := by first | (rw [hy53001]; with_reducible exact H) | (have H2_ := (Option.bind_some _ _).symm.trans H; rw [hy53001]; with_reducible exact H2_) | (have H2_ := (Option.bind_some _ _).symm.trans H; with_reducible exact H2_) | with_reducible exact H | (rw [hy53001]; exact H) | exact H
  have Ny53001 := Aside0.mk hy53001
  clear hy53001
  obtain rfl := Option.some.inj H
  go_enter Tryd.func52, Tryd.ntmps52
  go_wp2_with (first | ((with_reducible refine gate_builtin (b := .append) (xs := #[.tmp 4, .tmp 5]) rfl ?_); at_builtin; refine Kd.R_append_rows (Kd.int .u8) (w0 := w) w.heap.size rfl (.tmp 4) (.tmp 5) 28 5 (.int .u8 0) 1 rfl Tryd.underlying28 info5 rfl (by decide) (by omega) (.slice none 0 0) ([] : List Int) l0 _ _ _ (fun _ => True) (fun _ => False) rfl rfl ?aO ?aR (fun _ _ h => h) (fun _ h => h.elim) ?aF ?aB ?aS ?aL ?_; (case aR => repeat (first | exact HR0.out | (with_reducible refine Kd.C_alloc ?_ _) | (with_reducible refine Kd.C_drewN ?_ _) | (with_reducible refine Kd.C_drew ?_))); (case aB => exact (by repeat (first | (with_reducible first | exact HB.out | apply below_alloc | apply pw_below_drewN | apply below_drew1) | exact HB.out))); (case aF => exact (fun _ _ => trivial)); (case aO => exact ((Kd.R_nil _ _ _ _ (fun _ => True)))); (case aS => exact (below_size (by repeat (first | (with_reducible first | exact HB.out | apply below_alloc | apply pw_below_drewN | apply below_drew1) | exact HB.out)))); (case aL => have := LMc2.out; omega); intro v53002 w3 ho hb hg hat; rw [← Ny53001.out] at ho; have n0_ := Aside0.mk (hb); have n1_ := Aside0.mk (ho); clear HB; have HB := n0_; have HO53003 := n1_; clear n0_ n1_; clear ho hb hg hat))
  go_ret
  exact ⟨_, by first | rfl | (simp [errW_none, errW_some] <;> rfl) | (simp [*, errW_none, errW_some] <;> rfl), by (with_reducible repeat (first | apply Kd.R_alloc | apply Kd.R_drewN | apply Kd.R_drew)); exact HO53003.out, by repeat (first | (with_reducible first | exact HB.out | apply below_alloc | apply pw_below_drewN | apply below_drew1) | exact HB.out)⟩
 ·rw [if_neg c2] at H
  exact absurd H (by simp)

end Go.Proofs.YtnalcjgefbelnaaDoor.Q
end
section
namespace Go.Proofs.YtnalcjgefbelnaaDoor.Q
open Go.RowKit Go.Proofs.YtnalcjgefbelnaaDoorW.PrintWords Go.Proofs.YtnalcjgefbelnaaDoorW.PrintLast Go.Proofs.YtnalcjgefbelnaaDoorW.PrintMore
set_option linter.unusedVariables false
set_option linter.unusedSimpArgs false

attribute [local go_sem] max2_int min2_int max_two min_two max_three min_three max_four min_four
/-! ### tinderref08_Copy: function 18 -/
mutual
def tinderref08_Copy.l0 : Nat → List (S44) → List (S44) → Int → Option ((List (S44)))
 | 0, _, _, _ => none
 | k + 1, x0, x3, x4 => if x4 < (x0.length : Int) then (if 0 ≤ x4 then ((tinderref03_Copy.f ((rd_T44 x0 x4).f1)).bind fun t19004 => ((tinderref03_Copy.f ((rd_T44 x0 x4).f4)).bind fun t19008 => (tinderref08_Copy.l1 k x0 x3 x4 0 ((rd_T44 x0 x4).f0) t19004 ((rd_T44 x0 x4).f2) ([] : List (S53)) t19008))) else (none)) else (some x3)
def tinderref08_Copy.l1 : Nat → List (S44) → List (S44) → Int → Int → ByteArray → List Int → Int → List (S53) → List Int → Option ((List (S44)))
 | 0, _, _, _, _, _, _, _, _, _ => none
 | k + 1, x0, x3, x4, x6, x19012000, x19012001, x19012002, x19012003, x19012004 => if 0 ≤ x4 then (if x4 < (x0.length : Int) then (if x6 < (((rd_T44 x0 x4).f3).length : Int) then (if 0 ≤ x6 then ((tinderref04_Copy.f ((rd_T53 ((rd_T44 x0 x4).f3) x6).f1)).bind fun t19017 => (if x19012003.length < 3518437208883 then (tinderref08_Copy.l1 k x0 x3 x4 (wrap64 (x6 + 1)) x19012000 x19012001 x19012002 (x19012003 ++ [(⟨(rd_T53 ((rd_T44 x0 x4).f3) x6).f0, t19017⟩ : S53)]) x19012004) else (none))) else (none)) else (if x3.length < 1466015503701 then (tinderref08_Copy.l0 k x0 (x3 ++ [(⟨x19012000, x19012001, x19012002, x19012003, x19012004⟩ : S44)]) (wrap64 (x4 + 1))) else (none))) else (none)) else (none)
end
def tinderref08_Copy.f (k : Nat) (l0 : List (S44)) : Option ((List (S44))) := tinderref08_Copy.l0 k l0 ([] : List (S44)) 0
def tinderref08_Copy.T5 : Bool × List (List Nat × List Nat) := (true, [([], []), ([], []), ([0, 1], [0, 1]), ([2], [2]), ([3], [3]), ([], []), ([], []), ([5, 6], [5, 6]), ([7], [7]), ([8], [8]), ([], []), ([], []), ([10, 11], [10, 11]), ([12], [12]), ([13], [13]), ([14], [14]), ([], []), ([], []), ([16, 17], [16, 17]), ([18], [18]), ([19], [19]), ([20, 15], [20]), ([4, 9, 15, 21], [4, 9, 15, 21]), ([], []), ([23, 22, 21, 0, 1, 2, 3, 4, 5, 6, 7, 8, 9, 10, 11, 12, 13, 14, 15, 16, 17, 18, 19, 20, 21, 22, 23], [22, 23])])
def tinderref08_Copy.B5 : List Nat := [0, 0, 3, 7, 15, 0, 0, 96, 224, 480, 0, 0, 3072, 7168, 15360, 31744, 0, 0, 196608, 458752, 983040, 2096128, 4194303, 0, 16777215]
theorem tinderref08_Copy.tab5 : rtab .any (opsOf Tryd.f18 5) = tinderref08_Copy.T5 := by kernel_rfl
theorem tinderref08_Copy.bits5 : waitsOk tinderref08_Copy.T5.2 tinderref08_Copy.B5 = true := by kernel_rfl
def tinderref08_Copy.T9 : Bool × List (List Nat × List Nat) := (true, [([], []), ([0], [0]), ([], []), ([], []), ([2, 3], [2, 3]), ([4], [4]), ([5], [5]), ([], []), ([6, 7], [6, 7]), ([8], [8]), ([9], [9]), ([], []), ([], []), ([11, 12], [11, 12]), ([13], [13]), ([14], [14]), ([], []), ([15, 16], [15, 16]), ([17], [17]), ([18], [18]), ([19], [19]), ([10, 20], [10, 20]), ([21], [21]), ([1, 22, 20], [1, 22]), ([0, 1, 2, 3, 4, 5, 6, 7, 8, 9, 10, 11, 12, 13, 14, 15, 16, 17, 18, 19, 20, 21, 22, 23], []), ([24, 23, 23, 0, 1, 2, 3, 4, 5, 6, 7, 8, 9, 10, 11, 12, 13, 14, 15, 16, 17, 18, 19, 20, 21, 22, 23], [23, 24])])
def tinderref08_Copy.B9 : List Nat := [0, 1, 0, 0, 12, 28, 60, 0, 252, 508, 1020, 0, 0, 6144, 14336, 30720, 0, 129024, 260096, 522240, 1046528, 2097148, 4194300, 8388607, 16777215, 33554431]
theorem tinderref08_Copy.tab9 : rtab .any (opsOf Tryd.f18 9) = tinderref08_Copy.T9 := by kernel_rfl
theorem tinderref08_Copy.bits9 : waitsOk tinderref08_Copy.T9.2 tinderref08_Copy.B9 = true := by kernel_rfl

end Go.Proofs.YtnalcjgefbelnaaDoor.Q
end
section
namespace Go.Proofs.YtnalcjgefbelnaaDoor.Q
open Go.RowKit Go.Proofs.YtnalcjgefbelnaaDoorW.PrintWords Go.Proofs.YtnalcjgefbelnaaDoorW.PrintLast Go.Proofs.YtnalcjgefbelnaaDoorW.PrintMore
set_option linter.unusedVariables false
set_option linter.unusedSimpArgs false

attribute [local go_sem] max2_int min2_int max_two min_two max_three min_three max_four min_four
/-! ### tinderref08_wrong: function 54 -/
def tinderref08_wrong.f (k : Nat) (l0 : List (S44)) (a1 : Int) : Option (Int) := (tinderref08_Formed.f k l0).bind fun t55001 => (if t55001 = true then (if a1 < 0 then (some 19) else (if a1 ≥ (l0.length : Int) then (some 19) else (some 0))) else (some 1))
set_option maxHeartbeats 8000000 in
set_option maxRecDepth 100000 in
theorem tinderref08_wrong.calls (k : Nat) (A0 : Option Addr) (c0 : Nat) (l0 : List (S44)) (a1 : Int) (r : Int) (w : World) (hr0 : Kd.C k44 w A0 l0.length l0) (hc0 : l0.length ≤ c0) (h : tinderref08_wrong.f k l0 a1 = some r) :
  Calls Tryd.prog 54 #[.slice A0 l0.length c0, .int .i64 a1] w fun e w' => e = .returned (.int .i64 r) ∧ Below w.heap.size w w' := by
 have HR0 := Aside0.mk hr0
 have HC0 := Aside0.mk hc0
 clear hr0 hc0
 have HB := Aside0.mk (Below.refl w.heap.size w)
 have H : ((tinderref08_Formed.f k l0).bind fun t55001 => (if t55001 = true then (if a1 < 0 then (some 19) else (if a1 ≥ (l0.length : Int) then (some 19) else (some 0))) else (some 1))) = some r := h
 clear h
 replace H := Option.bind_eq_some_iff.mp H
 obtain ⟨t55001, A30, H⟩ := H
 replace H : (if t55001 = true then (if a1 < 0 then (some 19) else (if a1 ≥ (l0.length : Int) then (some 19) else (some 0))) else (some 1)) = some r := H
 have A3 := Aside0.mk A30
 clear A30
 by_cases c4 : t55001 = true
 ·subst c4
  have H1 : (if a1 < 0 then (some 19) else (if a1 ≥ (l0.length : Int) then (some 19) else (some 0))) = some r := by rw [if_pos rfl] at H; exact H
  clear H
  have H := H1
  clear H1
  by_cases c5 : a1 < 0
  ·rw [if_pos c5] at H
   have c5b0 : decide (a1 < 0) = true := decide_eq_true c5
   clear c5
   obtain rfl := Option.some.inj H
   go_enter Tryd.func54, Tryd.ntmps54
   go_wp2_with (first | ((with_reducible refine gate_callee (f := 13) rfl ?_); refine goesL_ (some 6) rfl rfl Tryd.func13 (by kernel_rfl) rfl #[.slice A0 l0.length c0] rfl (by (try simp only [List.map_toArray, List.map_cons, List.map_nil]); first | done | rfl | (simp only [List.length_drop, List.length_take]; rfl)) ?_; (with_reducible refine (tinderref08_Formed.calls k _ _ l0 true _ ?side1 ?side2 A3.out).mono ?_); (case side1 => repeat (first | exact HR0.out | (with_reducible refine Kd.C_alloc ?_ _) | (with_reducible refine Kd.C_drewN ?_ _) | (with_reducible refine Kd.C_drew ?_))); (case side2 => exact HC0.out); rintro e w6 ⟨rfl, hb⟩; refine ⟨_, rfl, ?_⟩; have n0_ := Aside0.mk (below_step (by repeat (first | (with_reducible first | exact HB.out | apply below_alloc | apply pw_below_drewN | apply below_drew1) | exact HB.out)) hb); clear HB; have HB := n0_; clear n0_; (try clear hb); (try clear hb2); (try clear hk); (try clear hi)))
   go_ret
   exact ⟨by first | rfl | (simp [errW_none, errW_some] <;> rfl) | (simp [*, errW_none, errW_some] <;> rfl), by repeat (first | (with_reducible first | exact HB.out | apply below_alloc | apply pw_below_drewN | apply below_drew1) | exact HB.out)⟩
  ·rw [if_neg c5] at H
   have c5b0 : decide (a1 < 0) = false := decide_eq_false c5
   clear c5
   by_cases c7 : a1 ≥ (l0.length : Int)
   ·rw [if_pos c7] at H
    have c7b0 : decide ((l0.length : Int) ≤ a1) = true := decide_eq_true c7
    clear c7
    obtain rfl := Option.some.inj H
    go_enter Tryd.func54, Tryd.ntmps54
    go_wp2_with (first | ((with_reducible refine gate_callee (f := 13) rfl ?_); refine goesL_ (some 6) rfl rfl Tryd.func13 (by kernel_rfl) rfl #[.slice A0 l0.length c0] rfl (by (try simp only [List.map_toArray, List.map_cons, List.map_nil]); first | done | rfl | (simp only [List.length_drop, List.length_take]; rfl)) ?_; (with_reducible refine (tinderref08_Formed.calls k _ _ l0 true _ ?side1 ?side2 A3.out).mono ?_); (case side1 => repeat (first | exact HR0.out | (with_reducible refine Kd.C_alloc ?_ _) | (with_reducible refine Kd.C_drewN ?_ _) | (with_reducible refine Kd.C_drew ?_))); (case side2 => exact HC0.out); rintro e w8 ⟨rfl, hb⟩; refine ⟨_, rfl, ?_⟩; have n0_ := Aside0.mk (below_step (by repeat (first | (with_reducible first | exact HB.out | apply below_alloc | apply pw_below_drewN | apply below_drew1) | exact HB.out)) hb); clear HB; have HB := n0_; clear n0_; (try clear hb); (try clear hb2); (try clear hk); (try clear hi)))
    go_ret
    exact ⟨by first | rfl | (simp [errW_none, errW_some] <;> rfl) | (simp [*, errW_none, errW_some] <;> rfl), by repeat (first | (with_reducible first | exact HB.out | apply below_alloc | apply pw_below_drewN | apply below_drew1) | exact HB.out)⟩
   ·rw [if_neg c7] at H
    have c7b0 : decide ((l0.length : Int) ≤ a1) = false := decide_eq_false c7
    clear c7
    obtain rfl := Option.some.inj H
    go_enter Tryd.func54, Tryd.ntmps54
    go_wp2_with (first | ((with_reducible refine gate_callee (f := 13) rfl ?_); refine goesL_ (some 6) rfl rfl Tryd.func13 (by kernel_rfl) rfl #[.slice A0 l0.length c0] rfl (by (try simp only [List.map_toArray, List.map_cons, List.map_nil]); first | done | rfl | (simp only [List.length_drop, List.length_take]; rfl)) ?_; (with_reducible refine (tinderref08_Formed.calls k _ _ l0 true _ ?side1 ?side2 A3.out).mono ?_); (case side1 => repeat (first | exact HR0.out | (with_reducible refine Kd.C_alloc ?_ _) | (with_reducible refine Kd.C_drewN ?_ _) | (with_reducible refine Kd.C_drew ?_))); (case side2 => exact HC0.out); rintro e w9 ⟨rfl, hb⟩; refine ⟨_, rfl, ?_⟩; have n0_ := Aside0.mk (below_step (by repeat (first | (with_reducible first | exact HB.out | apply below_alloc | apply pw_below_drewN | apply below_drew1) | exact HB.out)) hb); clear HB; have HB := n0_; clear n0_; (try clear hb); (try clear hb2); (try clear hk); (try clear hi)))
    go_ret
    exact ⟨by first | rfl | (simp [errW_none, errW_some] <;> rfl) | (simp [*, errW_none, errW_some] <;> rfl), by repeat (first | (with_reducible first | exact HB.out | apply below_alloc | apply pw_below_drewN | apply below_drew1) | exact HB.out)⟩
 ·replace c4 := Bool.eq_false_iff.mpr c4
  subst c4
  have H1 : (some 1) = some r := by rw [if_neg (show ¬ (false = true) by decide)] at H; exact H
  clear H
  have H := H1
  clear H1
  obtain rfl := Option.some.inj H
  go_enter Tryd.func54, Tryd.ntmps54
  go_wp2_with (first | ((with_reducible refine gate_callee (f := 13) rfl ?_); refine goesL_ (some 6) rfl rfl Tryd.func13 (by kernel_rfl) rfl #[.slice A0 l0.length c0] rfl (by (try simp only [List.map_toArray, List.map_cons, List.map_nil]); first | done | rfl | (simp only [List.length_drop, List.length_take]; rfl)) ?_; (with_reducible refine (tinderref08_Formed.calls k _ _ l0 false _ ?side1 ?side2 A3.out).mono ?_); (case side1 => repeat (first | exact HR0.out | (with_reducible refine Kd.C_alloc ?_ _) | (with_reducible refine Kd.C_drewN ?_ _) | (with_reducible refine Kd.C_drew ?_))); (case side2 => exact HC0.out); rintro e w10 ⟨rfl, hb⟩; refine ⟨_, rfl, ?_⟩; have n0_ := Aside0.mk (below_step (by repeat (first | (with_reducible first | exact HB.out | apply below_alloc | apply pw_below_drewN | apply below_drew1) | exact HB.out)) hb); clear HB; have HB := n0_; clear n0_; (try clear hb); (try clear hb2); (try clear hk); (try clear hi)))
  go_ret
  exact ⟨by first | rfl | (simp [errW_none, errW_some] <;> rfl) | (simp [*, errW_none, errW_some] <;> rfl), by repeat (first | (with_reducible first | exact HB.out | apply below_alloc | apply pw_below_drewN | apply below_drew1) | exact HB.out)⟩

end Go.Proofs.YtnalcjgefbelnaaDoor.Q
end
section
namespace Go.Proofs.YtnalcjgefbelnaaDoor.Q
open Go.RowKit Go.Proofs.YtnalcjgefbelnaaDoorW.PrintWords Go.Proofs.YtnalcjgefbelnaaDoorW.PrintLast Go.Proofs.YtnalcjgefbelnaaDoorW.PrintMore
set_option linter.unusedVariables false
set_option linter.unusedSimpArgs false

attribute [local go_sem] max2_int min2_int max_two min_two max_three min_three max_four min_four
/-! ### tinderref08_Add: function 20 -/
def tinderref08_Add.j0 : Nat → List (S44) → Int → ByteArray → List Int → Bool → Option ((List (S44)) × Int × Int)
 | 0, _, _, _, _, _ => none
 | k + 1, x0, x1, x2, x3, x19 => if x19 = true then (some (([] : List (S44)), 0, 1)) else ((tinderref08_twin.f k x0 (x0.length : Int) x1 x2 x3).bind fun t21003 => (if t21003 = true then (some (([] : List (S44)), 0, 20)) else (if (x0.length : Int) ≥ 32 then (some (([] : List (S44)), 0, 22)) else ((tinderref08_Copy.f k x0).bind fun t21004 => ((tinderref03_Copy.f x3).bind fun t21007 => (if t21004.length < 1466015503701 then (some ((t21004 ++ [(⟨x2, t21007, x1, ([] : List (S53)), ([] : List Int)⟩ : S44)]), (x0.length : Int), 0)) else (none)))))))
def tinderref08_Add.f (k : Nat) (l0 : List (S44)) (a1 : Int) (a2 : ByteArray) (l3 : List Int) : Option ((List (S44)) × Int × Int) := (tinderref08_wrong.f k l0 a1).bind fun t21001 => (if t21001 = 0 then ((tinderref05_Named.f k a2).bind fun t21002 => (if t21002 = true then (tinderref08_Add.j0 k l0 a1 a2 l3 (decide ((l3.length : Int) > 4))) else (tinderref08_Add.j0 k l0 a1 a2 l3 true))) else (some (([] : List (S44)), 0, t21001)))

end Go.Proofs.YtnalcjgefbelnaaDoor.Q
end
section
set_option linter.unusedSimpArgs false
set_option linter.unusedVariables false
namespace Go.Proofs.YtnalcjgefbelnaaDoor.Q
open Go.RowKit Go.Proofs.YtnalcjgefbelnaaDoorW.PrintWords Go.Proofs.YtnalcjgefbelnaaDoorW.PrintLast
/-- Lists short enough for a copy to be made. -/
def GoodN (x : S44) : Prop := x.f1.length < 35184372088832 ∧ x.f4.length < 35184372088832 ∧ x.f3.length < 3518437208883 ∧ ∀ p ∈ x.f3, p.f1.length < 140737488355328
def GoodT (t : List S44) : Prop := t.length < 1466015503701 ∧ ∀ x ∈ t, GoodN x
theorem goodN_len {x : S44} (h : GoodN x) : LenN 35184372088832 x := ⟨by have := h.1; omega, by have := h.2.1; omega, by have := h.2.2.1; omega⟩
theorem short_of {t : List S44} (h : GoodT t) : shortT t = true := by
 simp only [shortT, shortN, shortP, Bool.and_eq_true, decide_eq_true_eq, List.all_eq_true]
 refine ⟨by have := h.1; omega, fun x hx => ?_⟩
 obtain ⟨h1, h2, h3, h4⟩ := h.2 x hx
 exact ⟨by omega, by omega, by omega, h4⟩
theorem same8_good {t : List S44} (h : GoodT t) (k : Nat) (hk : 1000000000000000000000000000000 ≤ k) : tinderref08_Same.f k t t = some true :=
 same8_eq t 35184372088832 (by decide) (by have := h.1; omega) (fun x hx => goodN_len (h.2 x hx)) k (by have := h.1; omega)
theorem refFormed_good {t : List S44} (h : GoodT t) (k : Nat) (hk : 1000000000000000000000000000000 ≤ k) : tinderref08_Formed.f k t = some (treeF t) :=
 refFormed_eq t (fun x hx => by have := (h.2 x hx).1; omega) 35184372088832 (fun x hx => (h.2 x hx).1) 35184372091832 (by decide) k (by omega)
theorem copy3_eq (l : List Int) (h : l.length < 35184372088832) : tinderref03_Copy.f l = some l := by
 unfold tinderref03_Copy.f
 rw [if_pos (by rw [List.length_nil]; omega), List.nil_append]
theorem copy4_eq (l : List Int) (h : l.length < 140737488355328) : tinderref04_Copy.f l = some l := by
 unfold tinderref04_Copy.f
 rw [if_pos (by rw [List.length_nil]; omega), List.nil_append]
theorem take_snoc {α : Type} (l : List α) (z : α) (i : Nat) (h : i < l.length) : l.take i ++ [l.getD i z] = l.take (i + 1) := by
 rw [List.take_succ_eq_append_getElem h, List.getD_eq_getElem?_getD, List.getElem?_eq_getElem h]
 rfl
theorem rd44_mem (t : List S44) (i : Int) (h0 : 0 ≤ i) (h1 : i < t.length) : rd_T44 t i ∈ t := by
 unfold rd_T44
 rw [List.getD_eq_getElem?_getD, List.getElem?_eq_getElem (show i.toNat < t.length by omega)]
 exact List.getElem_mem _
theorem rd53_mem (t : List S53) (i : Int) (h0 : 0 ≤ i) (h1 : i < t.length) : rd_T53 t i ∈ t := by
 unfold rd_T53
 rw [List.getD_eq_getElem?_getD, List.getElem?_eq_getElem (show i.toNat < t.length by omega)]
 exact List.getElem_mem _
theorem copy1_go (t out : List S44) (i : Int) (hi : 0 ≤ i ∧ i < t.length) (x : S44) (hx : rd_T44 t i = x) (hL : GoodN x) (ho : out.length < 1466015503701) (R : Option (List S44)) (K : Nat) (hR : ∀ k', K ≤ k' → tinderref08_Copy.l0 k' t (out ++ [x]) (wrap64 (i + 1)) = R) : ∀ (d k : Nat) (j : Int), 0 ≤ j → j + d = x.f3.length → d + K + 1 ≤ k → tinderref08_Copy.l1 k t out i j x.f0 x.f1 x.f2 (x.f3.take j.toNat) x.f4 = R
 | 0, k, j, h0, h1, hk => by
  obtain ⟨k, rfl⟩ : ∃ m, k = m + 1 := ⟨k - 1, by omega⟩
  rw [tinderref08_Copy.l1, if_pos hi.1, if_pos hi.2, hx, if_neg (by omega), if_pos ho, List.take_of_length_le (by omega)]
  exact hR k (by omega)
 | d + 1, k, j, h0, h1, hk => by
  obtain ⟨k, rfl⟩ : ∃ m, k = m + 1 := ⟨k - 1, by omega⟩
  have hl3 := hL.2.2.1
  have hw : wrap64 (j + 1) = j + 1 := by unfold wrap64; omega
  have hp := rd53_mem x.f3 j h0 (by omega)
  have ih := copy1_go t out i hi x hx hL ho R K hR d k (j + 1) (by omega) (by omega) (by omega)
  rw [tinderref08_Copy.l1, if_pos hi.1, if_pos hi.2, hx, if_pos (by omega), if_pos h0, copy4_eq _ (hL.2.2.2 _ hp), Option.bind_some, if_pos (by rw [List.length_take]; omega), hw]
  rw [show ((⟨(rd_T53 x.f3 j).f0, (rd_T53 x.f3 j).f1⟩ : S53)) = x.f3.getD j.toNat z53 from rfl, take_snoc x.f3 z53 j.toNat (by omega), show j.toNat + 1 = (j + 1).toNat by omega]
  exact ih
theorem copy0_go (t : List S44) (h : GoodT t) (B : Nat) (hB : 3518437208890 ≤ B) : ∀ (d k : Nat) (i : Int), 0 ≤ i → i + d = t.length → d * B + 1 ≤ k → tinderref08_Copy.l0 k t (t.take i.toNat) i = some t
 | 0, k, i, h0, h1, hk => by
  obtain ⟨k, rfl⟩ : ∃ m, k = m + 1 := ⟨k - 1, by omega⟩
  rw [tinderref08_Copy.l0, if_neg (by omega), List.take_of_length_le (by omega)]
 | d + 1, k, i, h0, h1, hk => by
  obtain ⟨k, rfl⟩ : ∃ m, k = m + 1 := ⟨k - 1, by omega⟩
  rw [Nat.add_mul, Nat.one_mul] at hk
  have ht := h.1
  have hw : wrap64 (i + 1) = i + 1 := by unfold wrap64; omega
  have hN := h.2 _ (rd44_mem t i h0 (by omega))
  have hR : ∀ k', d * B + 1 ≤ k' → tinderref08_Copy.l0 k' t (t.take i.toNat ++ [rd_T44 t i]) (wrap64 (i + 1)) = some t := fun k' hk' => by
   have ih := copy0_go t h B hB d k' (i + 1) (by omega) (by omega) hk'
   rw [hw, show t.take i.toNat ++ [rd_T44 t i] = t.take (i + 1).toNat from by
    rw [show (i + 1).toNat = i.toNat + 1 by omega]
    exact take_snoc t z44 i.toNat (by omega)]
   exact ih
  have hl3 := hN.2.2.1
  rw [tinderref08_Copy.l0, if_pos (by omega), if_pos h0, copy3_eq _ hN.1, Option.bind_some, copy3_eq _ hN.2.1, Option.bind_some]
  exact copy1_go t (t.take i.toNat) i ⟨h0, by omega⟩ (rd_T44 t i) rfl hN (by rw [List.length_take]; omega) (some t) _ hR (rd_T44 t i).f3.length k 0 (Int.le_refl _) (by omega) (by omega)
theorem refCopy_eq {t : List S44} (h : GoodT t) (k : Nat) (hk : 1000000000000000000000000000000 ≤ k) : tinderref08_Copy.f k t = some t :=
 copy0_go t h 3518437208890 (Nat.le_refl _) t.length k 0 (Int.le_refl _) (by omega) (by have := h.1; omega)
theorem wrong_eq {t : List S44} (h : GoodT t) (n : Int) (k : Nat) (hk : 1000000000000000000000000000000 ≤ k) : tinderref08_wrong.f k t n = tree_check.f t n := by
 unfold tinderref08_wrong.f tree_check.f tree_Formed.f
 rw [refFormed_good h k hk]
theorem check_some (t : List S44) (n : Int) : ∃ e, tree_check.f t n = some e := by
 unfold tree_check.f tree_Formed.f
 rw [Option.bind_some]
 split
 ·split
  ·exact ⟨_, rfl⟩
  ·split <;> exact ⟨_, rfl⟩
 ·exact ⟨_, rfl⟩
theorem check_ok {t : List S44} {n : Int} (hF : treeF t = true) (h0 : 0 ≤ n) (h1 : n < t.length) : tree_check.f t n = some 0 := by
 unfold tree_check.f tree_Formed.f
 rw [Option.bind_some, if_pos hF, if_neg (by omega), if_neg (by omega)]
theorem check_form {l0 : List S44} {a1 : Int} (h : tree_check.f l0 a1 = some 0) : treeF l0 = true := by
 unfold tree_check.f tree_Formed.f at h
 rw [Option.bind_some] at h
 split at h
 ·assumption
 ·exact absurd h (by decide)
theorem form_len {t : List S44} (h : treeF t = true) : 1 ≤ t.length ∧ t.length ≤ 32 := by
 unfold treeF at h
 simp only [Bool.and_eq_true, Bool.not_eq_true', beq_eq_false_iff_ne, decide_eq_false_iff_not] at h
 omega
theorem form_node {t : List S44} (h : treeF t = true) (i : Nat) (hi : i < t.length) : nodeOk t i = true := by
 unfold treeF at h
 simp only [Bool.and_eq_true] at h
 exact List.all_eq_true.1 h.2.2 i (List.mem_range.2 hi)
theorem form_of {t : List S44} (h1 : 1 ≤ t.length) (h2 : t.length ≤ 32) (h : ∀ i, i < t.length → nodeOk t i = true) : treeF t = true := by
 unfold treeF
 simp only [Bool.and_eq_true, Bool.not_eq_true', beq_eq_false_iff_ne, decide_eq_false_iff_not]
 exact ⟨by omega, by omega, List.all_eq_true.2 fun i hi => h i (List.mem_range.1 hi)⟩
theorem node_props {t : List S44} (hF : treeF t = true) (i : Int) (h0 : 0 ≤ i) (hi : i < t.length) : propsF (rd_T44 t i).f3 = true := by
 have h1 := form_node hF i.toNat (by omega)
 unfold nodeOk at h1
 simp only [Bool.and_eq_true] at h1
 exact h1.1.2
/-- What Add answers. -/
def addF (t : List S44) (n : Int) (s : ByteArray) (u : List Int) : List S44 × Int × Int := if namedF s = true then (if (4 : Int) < (u.length : Int) then ([], 0, 1) else if t.any (isN n s u) = true then ([], 0, 20) else if (t.length : Int) = 32 then ([], 0, 22) else (t ++ [(⟨s, u, n, [], []⟩ : S44)], (t.length : Int), 0)) else ([], 0, 1)
end Go.Proofs.YtnalcjgefbelnaaDoor.Q
end
section
set_option linter.unusedSimpArgs false
set_option linter.unusedVariables false
namespace Go.Proofs.YtnalcjgefbelnaaDoor.Q
open Go.RowKit Go.Proofs.YtnalcjgefbelnaaDoorW.PrintWords Go.Proofs.YtnalcjgefbelnaaDoorW.PrintLast
def PropG (p : S53) : Prop := p.f0.size ≤ 140737488351232 ∧ (p.f1.length * 1 ≤ 140737488351232 ∧ ∀ b ∈ p.f1, (Lit.int .u8 b).wf = true)
def NodeG (a : S44) : Prop := a.f0.size ≤ 140737488351232 ∧ (a.f1.length * 4 ≤ 140737488351232 ∧ ∀ b ∈ a.f1, (Lit.int .u32 b).wf = true) ∧ (Lit.int .i64 a.f2).wf = true ∧ (a.f3.length * 40 ≤ 140737488351232 ∧ ∀ b ∈ a.f3, PropG b) ∧ (a.f4.length * 4 ≤ 140737488351232 ∧ ∀ b ∈ a.f4, (Lit.int .u32 b).wf = true)
def TreeG (z : List S44) : Prop := z.length * 96 ≤ 140737488351232 ∧ ∀ a ∈ z, NodeG a
def CaseG (z : S30) : Prop := TreeG z.f0 ∧ (Lit.int .i64 z.f1).wf = true ∧ z.f2.size ≤ 140737488351232 ∧ (z.f3.length * 1 ≤ 140737488351232 ∧ ∀ b ∈ z.f3, (Lit.int .u8 b).wf = true)
def UnitG (l : List Int) : Prop := l.length * 4 ≤ 140737488351232 ∧ ∀ b ∈ l, (Lit.int .u32 b).wf = true
theorem good_of {z : List S44} (h : TreeG z) : GoodT z := by
 refine ⟨by have := h.1; omega, fun x hx => ?_⟩
 obtain ⟨-, h1, -, h3, h4⟩ := h.2 x hx
 refine ⟨by have := h1.1; omega, by have := h4.1; omega, by have := h3.1; omega, fun p hp => ?_⟩
 have := (h3.2 p hp).2.1
 omega
theorem good_nil : GoodT [] := ⟨by decide, fun x hx => absurd hx List.not_mem_nil⟩
end Go.Proofs.YtnalcjgefbelnaaDoor.Q
end
