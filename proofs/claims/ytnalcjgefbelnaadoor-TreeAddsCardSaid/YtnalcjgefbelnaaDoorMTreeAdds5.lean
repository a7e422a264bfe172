/- Contracts of Go functions and plain facts, of several texts, one behind the other; no condition. -/
import Derived.Test.YtnalcjgefbelnaaDoorMTreeAdds2
import Derived.Test.YtnalcjgefbelnaaDoorMTreeAdds3
import Derived.Test.YtnalcjgefbelnaaDoorMTreeAdds4
section
namespace Go.Proofs.YtnalcjgefbelnaaDoor.Q
open Go.RowKit Go.Proofs.YtnalcjgefbelnaaDoorW.PrintWords Go.Proofs.YtnalcjgefbelnaaDoorW.PrintLast Go.Proofs.YtnalcjgefbelnaaDoorW.PrintMore
set_option linter.unusedVariables false
set_option linter.unusedSimpArgs false

attribute [local go_sem] max2_int min2_int max_two min_two max_three min_three max_four min_four
/-! ### tinderref04_Same: function 31 -/
def tinderref04_Same.f (l0 : List Int) (l1 : List Int) : Option (Bool) := some ((strOfNums l0).toList == (strOfNums l1).toList)
set_option maxHeartbeats 8000000 in
set_option maxRecDepth 100000 in
theorem tinderref04_Same.calls (A0 : Option Addr) (c0 : Nat) (l0 : List Int) (A1 : Option Addr) (c1 : Nat) (l1 : List Int) (r : Bool) (w : World) (hr0 : Kd.C (Kd.int .u8) w A0 l0.length l0) (hc0 : l0.length ≤ c0) (hr1 : Kd.C (Kd.int .u8) w A1 l1.length l1) (hc1 : l1.length ≤ c1) (h : tinderref04_Same.f l0 l1 = some r) :
  Calls Tryd.prog 31 #[.slice A0 l0.length c0, .slice A1 l1.length c1] w fun e w' => e = .returned (.bool r) ∧ Drawn0 w w' := by
 have HR0 := Aside0.mk hr0
 have HC0 := Aside0.mk hc0
 clear hr0 hc0
 have HR1 := Aside0.mk hr1
 have HC1 := Aside0.mk hc1
 clear hr1 hc1
 have H : (some ((strOfNums l0).toList == (strOfNums l1).toList)) = some r := h
 clear h
 obtain rfl := Option.some.inj H
 have hcv3 := Kd.C_string (P := Tryd.prog) (A := A0) (c := c0) Tryd.underlying28 Tryd.underlying5 Tryd.underlying9 HR0.out
 have hcv4 := Kd.C_string (P := Tryd.prog) (A := A1) (c := c1) Tryd.underlying28 Tryd.underlying5 Tryd.underlying9 HR1.out
 go_enter Tryd.func31, Tryd.ntmps31
 go_wp2
 go_ret
 exact ⟨by first | rfl | (simp; done) | (simp [*]; done), by repeat (first | exact Drawn0.refl _ | apply Drawn0.step)⟩

end Go.Proofs.YtnalcjgefbelnaaDoor.Q
end
section
namespace Go.Proofs.YtnalcjgefbelnaaDoor.Q
open Go.RowKit Go.Proofs.YtnalcjgefbelnaaDoorW.PrintWords Go.Proofs.YtnalcjgefbelnaaDoorW.PrintLast Go.Proofs.YtnalcjgefbelnaaDoorW.PrintMore
set_option linter.unusedVariables false
set_option linter.unusedSimpArgs false

attribute [local go_sem] max2_int min2_int max_two min_two max_three min_three max_four min_four
/-! ### tinderref08_SameNode: function 39 -/
mutual
def tinderref08_SameNode.j0 : Nat → Bool → ByteArray → List Int → Int → List (S53) → List Int → ByteArray → List Int → Int → List (S53) → List Int → Option (Bool)
 | 0, _, _, _, _, _, _, _, _, _, _, _ => none
 | k + 1, x42, x40002000, x40002001, x40002002, x40002003, x40002004, x40003000, x40003001, x40003002, x40003003, x40003004 => if x42 = true then (some false) else (tinderref08_SameNode.l0 k 0 x40002000 x40002001 x40002002 x40002003 x40002004 x40003000 x40003001 x40003002 x40003003 x40003004)
def tinderref08_SameNode.l0 : Nat → Int → ByteArray → List Int → Int → List (S53) → List Int → ByteArray → List Int → Int → List (S53) → List Int → Option (Bool)
 | 0, _, _, _, _, _, _, _, _, _, _, _ => none
 | k + 1, x5, x40002000, x40002001, x40002002, x40002003, x40002004, x40003000, x40003001, x40003002, x40003003, x40003004 => if x5 < (x40002003.length : Int) then (if 0 ≤ x5 then (if x5 < (x40003003.length : Int) then (if ((rd_T53 x40002003 x5).f0).toList = ((rd_T53 x40003003 x5).f0).toList then ((tinderref04_Same.f ((rd_T53 x40002003 x5).f1) ((rd_T53 x40003003 x5).f1)).bind fun t40009 => (if t40009 = true then (tinderref08_SameNode.l0 k (wrap64 (x5 + 1)) x40002000 x40002001 x40002002 x40002003 x40002004 x40003000 x40003001 x40003002 x40003003 x40003004) else (some false))) else (some false)) else (none)) else (none)) else (some true)
end
def tinderref08_SameNode.f (k : Nat) (a0_0 : ByteArray) (l0_1 : List Int) (a0_2 : Int) (l0_3 : List (S53)) (l0_4 : List Int) (a1_0 : ByteArray) (l1_1 : List Int) (a1_2 : Int) (l1_3 : List (S53)) (l1_4 : List Int) : Option (Bool) := if a0_0.toList = a1_0.toList then (if a0_2 = a1_2 then ((tinderref03_Same.f k l0_1 l1_1).bind fun t40003 => (if t40003 = true then ((tinderref03_Same.f k l0_4 l1_4).bind fun t40004 => (if t40004 = true then (tinderref08_SameNode.j0 k ((l0_3.length : Int) != (l1_3.length : Int)) a0_0 l0_1 a0_2 l0_3 l0_4 a1_0 l1_1 a1_2 l1_3 l1_4) else (tinderref08_SameNode.j0 k true a0_0 l0_1 a0_2 l0_3 l0_4 a1_0 l1_1 a1_2 l1_3 l1_4))) else (tinderref08_SameNode.j0 k true a0_0 l0_1 a0_2 l0_3 l0_4 a1_0 l1_1 a1_2 l1_3 l1_4))) else (tinderref08_SameNode.j0 k true a0_0 l0_1 a0_2 l0_3 l0_4 a1_0 l1_1 a1_2 l1_3 l1_4)) else (tinderref08_SameNode.j0 k true a0_0 l0_1 a0_2 l0_3 l0_4 a1_0 l1_1 a1_2 l1_3 l1_4)
set_option maxHeartbeats 8000000 in
set_option maxRecDepth 100000 in
theorem tinderref08_SameNode.calls (k : Nat) (a0_0 : ByteArray) (A0_1 : Option Addr) (c0_1 : Nat) (l0_1 : List Int) (a0_2 : Int) (A0_3 : Option Addr) (c0_3 : Nat) (l0_3 : List (S53)) (A0_4 : Option Addr) (c0_4 : Nat) (l0_4 : List Int) (a1_0 : ByteArray) (A1_1 : Option Addr) (c1_1 : Nat) (l1_1 : List Int) (a1_2 : Int) (A1_3 : Option Addr) (c1_3 : Nat) (l1_3 : List (S53)) (A1_4 : Option Addr) (c1_4 : Nat) (l1_4 : List Int) (r : Bool) (w : World) (hr0_1 : Kd.C (Kd.int .u32) w A0_1 l0_1.length l0_1) (hc0_1 : l0_1.length ≤ c0_1) (hr0_3 : Kd.C k53 w A0_3 l0_3.length l0_3) (hc0_3 : l0_3.length ≤ c0_3) (hr0_4 : Kd.C (Kd.int .u32) w A0_4 l0_4.length l0_4) (hc0_4 : l0_4.length ≤ c0_4) (hr1_1 : Kd.C (Kd.int .u32) w A1_1 l1_1.length l1_1) (hc1_1 : l1_1.length ≤ c1_1) (hr1_3 : Kd.C k53 w A1_3 l1_3.length l1_3) (hc1_3 : l1_3.length ≤ c1_3) (hr1_4 : Kd.C (Kd.int .u32) w A1_4 l1_4.length l1_4) (hc1_4 : l1_4.length ≤ c1_4) (h : tinderref08_SameNode.f k a0_0 l0_1 a0_2 l0_3 l0_4 a1_0 l1_1 a1_2 l1_3 l1_4 = some r) :
  Calls Tryd.prog 39 #[.agg #[.string a0_0, .slice A0_1 l0_1.length c0_1, .int .i64 a0_2, .slice A0_3 l0_3.length c0_3, .slice A0_4 l0_4.length c0_4], .agg #[.string a1_0, .slice A1_1 l1_1.length c1_1, .int .i64 a1_2, .slice A1_3 l1_3.length c1_3, .slice A1_4 l1_4.length c1_4]] w fun e w' => e = .returned (.bool r) ∧ Below w.heap.size w w' := by
 have hu44 := Tryd.underlying44
 have HR0_1 := Aside0.mk hr0_1
 have HC0_1 := Aside0.mk hc0_1
 clear hr0_1 hc0_1
 have HR0_3 := Aside0.mk hr0_3
 have HC0_3 := Aside0.mk hc0_3
 clear hr0_3 hc0_3
 have HR0_4 := Aside0.mk hr0_4
 have HC0_4 := Aside0.mk hc0_4
 clear hr0_4 hc0_4
 have HR1_1 := Aside0.mk hr1_1
 have HC1_1 := Aside0.mk hc1_1
 clear hr1_1 hc1_1
 have HR1_3 := Aside0.mk hr1_3
 have HC1_3 := Aside0.mk hc1_3
 clear hr1_3 hc1_3
 have HR1_4 := Aside0.mk hr1_4
 have HC1_4 := Aside0.mk hc1_4
 clear hr1_4 hc1_4
 have HB := Aside0.mk (Below.refl w.heap.size w)
 have H : (if a0_0.toList = a1_0.toList then (if a0_2 = a1_2 then ((tinderref03_Same.f k l0_1 l1_1).bind fun t40003 => (if t40003 = true then ((tinderref03_Same.f k l0_4 l1_4).bind fun t40004 => (if t40004 = true then (tinderref08_SameNode.j0 k ((l0_3.length : Int) != (l1_3.length : Int)) a0_0 l0_1 a0_2 l0_3 l0_4 a1_0 l1_1 a1_2 l1_3 l1_4) else (tinderref08_SameNode.j0 k true a0_0 l0_1 a0_2 l0_3 l0_4 a1_0 l1_1 a1_2 l1_3 l1_4))) else (tinderref08_SameNode.j0 k true a0_0 l0_1 a0_2 l0_3 l0_4 a1_0 l1_1 a1_2 l1_3 l1_4))) else (tinderref08_SameNode.j0 k true a0_0 l0_1 a0_2 l0_3 l0_4 a1_0 l1_1 a1_2 l1_3 l1_4)) else (tinderref08_SameNode.j0 k true a0_0 l0_1 a0_2 l0_3 l0_4 a1_0 l1_1 a1_2 l1_3 l1_4)) = some r := h
 clear h
 have HC3 := Aside0.mk H
 clear H
 go_enter Tryd.func39, Tryd.ntmps39
 go_upto_region 1 with (first | ((with_reducible refine gate_dst (N := 2) rfl ?_); (try (refine gate_guard (by rfl) ?_; dsimp only)); refine box_event ?hg (N := 2) ?hd (cs := #[.string a0_0, .slice A0_1 l0_1.length c0_1, .int .i64 a0_2, .slice A0_3 l0_3.length c0_3, .slice A0_4 l0_4.length c0_4]) (t := 44) ?hr ?_; (case hd => rfl); (case hg => rfl); (case hr => first | (go_simp; done) | (go_simp; rfl)); intro gb40001 hg w4 hbox hb; have n0_ := Aside0.mk (below_step (by repeat (first | (with_reducible first | exact HB.out | apply below_alloc | apply pw_below_drewN | apply below_drew1) | exact HB.out)) hb); have n1_ := Aside0.mk (hbox); have n2_ := Aside0.mk ((by rw [hg]; exact (below_size (by repeat (first | (with_reducible first | exact HB.out | apply below_alloc | apply pw_below_drewN | apply below_drew1) | exact HB.out))) : w.heap.size ≤ gb40001)); have n3_ := Aside0.mk ((by rw [hg]; exact (below_size (by repeat (first | (with_reducible first | exact HB.out | apply below_alloc | apply pw_below_drewN | apply below_drew1) | exact HB.out))) : w.heap.size ≤ gb40001)); clear HB; have HB := n0_; have BK40001 := n1_; have GW40001 := n2_; have GE40001 := n3_; clear n0_ n1_ n2_ n3_; clear hb hbox hg) | ((with_reducible refine gate_dst (N := 3) rfl ?_); (try (refine gate_guard (by rfl) ?_; dsimp only)); refine box_event ?hg (N := 3) ?hd (cs := #[.string a1_0, .slice A1_1 l1_1.length c1_1, .int .i64 a1_2, .slice A1_3 l1_3.length c1_3, .slice A1_4 l1_4.length c1_4]) (t := 44) ?hr ?_; (case hd => rfl); (case hg => rfl); (case hr => first | (go_simp; done) | (go_simp; rfl)); intro gb40002 hg w5 hbox hb; have n0_ := Aside0.mk (blk_below (g := gb40001) (o := .cells #[.string a0_0, .slice A0_1 l0_1.length c0_1, .int .i64 a0_2, .slice A0_3 l0_3.length c0_3, .slice A0_4 l0_4.length c0_4] 44 (0, 0)) (by (with_reducible repeat (first | refine blk_drewN ?_ _ | refine blk_drew ?_ | refine blk_alloc ?_ _)); exact BK40001.out) hb); have n1_ := Aside0.mk (below_step (by repeat (first | (with_reducible first | exact HB.out | apply below_alloc | apply pw_below_drewN | apply below_drew1 | refine below_set ?_ GE40001.out) | exact HB.out)) hb); have n2_ := Aside0.mk (hbox); have n3_ := Aside0.mk ((by rw [hg]; exact (below_size (by repeat (first | (with_reducible first | exact HB.out | apply below_alloc | apply pw_below_drewN | apply below_drew1 | refine below_set ?_ GE40001.out) | exact HB.out))) : w.heap.size ≤ gb40002)); have n4_ := Aside0.mk ((by rw [hg]; exact (below_size (by repeat (first | (with_reducible first | exact HB.out | apply below_alloc | apply pw_below_drewN | apply below_drew1 | refine below_set ?_ GE40001.out) | exact HB.out))) : w.heap.size ≤ gb40002)); have n5_ := Aside0.mk ((by rw [hg]; exact Nat.ne_of_lt (blk_lt (g := gb40001) (o := .cells #[.string a0_0, .slice A0_1 l0_1.length c0_1, .int .i64 a0_2, .slice A0_3 l0_3.length c0_3, .slice A0_4 l0_4.length c0_4] 44 (0, 0)) (by (with_reducible repeat (first | refine blk_drewN ?_ _ | refine blk_drew ?_ | refine blk_alloc ?_ _)); exact BK40001.out)) : gb40001 ≠ gb40002)); have n6_ := Aside0.mk ((by rw [hg]; exact Nat.ne_of_gt (blk_lt (g := gb40001) (o := .cells #[.string a0_0, .slice A0_1 l0_1.length c0_1, .int .i64 a0_2, .slice A0_3 l0_3.length c0_3, .slice A0_4 l0_4.length c0_4] 44 (0, 0)) (by (with_reducible repeat (first | refine blk_drewN ?_ _ | refine blk_drew ?_ | refine blk_alloc ?_ _)); exact BK40001.out)) : gb40002 ≠ gb40001)); clear BK40001; clear HB; have BK40001 := n0_; have HB := n1_; have BK40002 := n2_; have GW40002 := n3_; have GE40002 := n4_; have NB40001_40002 := n5_; have NB40002_40001 := n6_; clear n0_ n1_ n2_ n3_ n4_ n5_ n6_; clear hb hbox hg))
 repeat (go_quiet (first | ((with_reducible refine gate_dst (N := 2) rfl ?_); (try (refine gate_guard (by rfl) ?_; dsimp only)); refine box_event ?hg (N := 2) ?hd (cs := #[.string a0_0, .slice A0_1 l0_1.length c0_1, .int .i64 a0_2, .slice A0_3 l0_3.length c0_3, .slice A0_4 l0_4.length c0_4]) (t := 44) ?hr ?_; (case hd => rfl); (case hg => rfl); (case hr => first | (go_simp; done) | (go_simp; rfl)); intro gb40001 hg w4 hbox hb; have n0_ := Aside0.mk (below_step (by repeat (first | (with_reducible first | exact HB.out | apply below_alloc | apply pw_below_drewN | apply below_drew1) | exact HB.out)) hb); have n1_ := Aside0.mk (hbox); have n2_ := Aside0.mk ((by rw [hg]; exact (below_size (by repeat (first | (with_reducible first | exact HB.out | apply below_alloc | apply pw_below_drewN | apply below_drew1) | exact HB.out))) : w.heap.size ≤ gb40001)); have n3_ := Aside0.mk ((by rw [hg]; exact (below_size (by repeat (first | (with_reducible first | exact HB.out | apply below_alloc | apply pw_below_drewN | apply below_drew1) | exact HB.out))) : w.heap.size ≤ gb40001)); clear HB; have HB := n0_; have BK40001 := n1_; have GW40001 := n2_; have GE40001 := n3_; clear n0_ n1_ n2_ n3_; clear hb hbox hg) | ((with_reducible refine gate_dst (N := 3) rfl ?_); (try (refine gate_guard (by rfl) ?_; dsimp only)); refine box_event ?hg (N := 3) ?hd (cs := #[.string a1_0, .slice A1_1 l1_1.length c1_1, .int .i64 a1_2, .slice A1_3 l1_3.length c1_3, .slice A1_4 l1_4.length c1_4]) (t := 44) ?hr ?_; (case hd => rfl); (case hg => rfl); (case hr => first | (go_simp; done) | (go_simp; rfl)); intro gb40002 hg w5 hbox hb; have n0_ := Aside0.mk (blk_below (g := gb40001) (o := .cells #[.string a0_0, .slice A0_1 l0_1.length c0_1, .int .i64 a0_2, .slice A0_3 l0_3.length c0_3, .slice A0_4 l0_4.length c0_4] 44 (0, 0)) (by (with_reducible repeat (first | refine blk_drewN ?_ _ | refine blk_drew ?_ | refine blk_alloc ?_ _)); exact BK40001.out) hb); have n1_ := Aside0.mk (below_step (by repeat (first | (with_reducible first | exact HB.out | apply below_alloc | apply pw_below_drewN | apply below_drew1 | refine below_set ?_ GE40001.out) | exact HB.out)) hb); have n2_ := Aside0.mk (hbox); have n3_ := Aside0.mk ((by rw [hg]; exact (below_size (by repeat (first | (with_reducible first | exact HB.out | apply below_alloc | apply pw_below_drewN | apply below_drew1 | refine below_set ?_ GE40001.out) | exact HB.out))) : w.heap.size ≤ gb40002)); have n4_ := Aside0.mk ((by rw [hg]; exact (below_size (by repeat (first | (with_reducible first | exact HB.out | apply below_alloc | apply pw_below_drewN | apply below_drew1 | refine below_set ?_ GE40001.out) | exact HB.out))) : w.heap.size ≤ gb40002)); have n5_ := Aside0.mk ((by rw [hg]; exact Nat.ne_of_lt (blk_lt (g := gb40001) (o := .cells #[.string a0_0, .slice A0_1 l0_1.length c0_1, .int .i64 a0_2, .slice A0_3 l0_3.length c0_3, .slice A0_4 l0_4.length c0_4] 44 (0, 0)) (by (with_reducible repeat (first | refine blk_drewN ?_ _ | refine blk_drew ?_ | refine blk_alloc ?_ _)); exact BK40001.out)) : gb40001 ≠ gb40002)); have n6_ := Aside0.mk ((by rw [hg]; exact Nat.ne_of_gt (blk_lt (g := gb40001) (o := .cells #[.string a0_0, .slice A0_1 l0_1.length c0_1, .int .i64 a0_2, .slice A0_3 l0_3.length c0_3, .slice A0_4 l0_4.length c0_4] 44 (0, 0)) (by (with_reducible repeat (first | refine blk_drewN ?_ _ | refine blk_drew ?_ | refine blk_alloc ?_ _)); exact BK40001.out)) : gb40002 ≠ gb40001)); clear BK40001; clear HB; have BK40001 := n0_; have HB := n1_; have BK40002 := n2_; have GW40002 := n3_; have GE40002 := n4_; have NB40001_40002 := n5_; have NB40002_40001 := n6_; clear n0_ n1_ n2_ n3_ n4_ n5_ n6_; clear hb hbox hg)); go_upto_region 1 with (first | ((with_reducible refine gate_dst (N := 2) rfl ?_); (try (refine gate_guard (by rfl) ?_; dsimp only)); refine box_event ?hg (N := 2) ?hd (cs := #[.string a0_0, .slice A0_1 l0_1.length c0_1, .int .i64 a0_2, .slice A0_3 l0_3.length c0_3, .slice A0_4 l0_4.length c0_4]) (t := 44) ?hr ?_; (case hd => rfl); (case hg => rfl); (case hr => first | (go_simp; done) | (go_simp; rfl)); intro gb40001 hg w4 hbox hb; have n0_ := Aside0.mk (below_step (by repeat (first | (with_reducible first | exact HB.out | apply below_alloc | apply pw_below_drewN | apply below_drew1) | exact HB.out)) hb); have n1_ := Aside0.mk (hbox); have n2_ := Aside0.mk ((by rw [hg]; exact (below_size (by repeat (first | (with_reducible first | exact HB.out | apply below_alloc | apply pw_below_drewN | apply below_drew1) | exact HB.out))) : w.heap.size ≤ gb40001)); have n3_ := Aside0.mk ((by rw [hg]; exact (below_size (by repeat (first | (with_reducible first | exact HB.out | apply below_alloc | apply pw_below_drewN | apply below_drew1) | exact HB.out))) : w.heap.size ≤ gb40001)); clear HB; have HB := n0_; have BK40001 := n1_; have GW40001 := n2_; have GE40001 := n3_; clear n0_ n1_ n2_ n3_; clear hb hbox hg) | ((with_reducible refine gate_dst (N := 3) rfl ?_); (try (refine gate_guard (by rfl) ?_; dsimp only)); refine box_event ?hg (N := 3) ?hd (cs := #[.string a1_0, .slice A1_1 l1_1.length c1_1, .int .i64 a1_2, .slice A1_3 l1_3.length c1_3, .slice A1_4 l1_4.length c1_4]) (t := 44) ?hr ?_; (case hd => rfl); (case hg => rfl); (case hr => first | (go_simp; done) | (go_simp; rfl)); intro gb40002 hg w5 hbox hb; have n0_ := Aside0.mk (blk_below (g := gb40001) (o := .cells #[.string a0_0, .slice A0_1 l0_1.length c0_1, .int .i64 a0_2, .slice A0_3 l0_3.length c0_3, .slice A0_4 l0_4.length c0_4] 44 (0, 0)) (by (with_reducible repeat (first | refine blk_drewN ?_ _ | refine blk_drew ?_ | refine blk_alloc ?_ _)); exact BK40001.out) hb); have n1_ := Aside0.mk (below_step (by repeat (first | (with_reducible first | exact HB.out | apply below_alloc | apply pw_below_drewN | apply below_drew1 | refine below_set ?_ GE40001.out) | exact HB.out)) hb); have n2_ := Aside0.mk (hbox); have n3_ := Aside0.mk ((by rw [hg]; exact (below_size (by repeat (first | (with_reducible first | exact HB.out | apply below_alloc | apply pw_below_drewN | apply below_drew1 | refine below_set ?_ GE40001.out) | exact HB.out))) : w.heap.size ≤ gb40002)); have n4_ := Aside0.mk ((by rw [hg]; exact (below_size (by repeat (first | (with_reducible first | exact HB.out | apply below_alloc | apply pw_below_drewN | apply below_drew1 | refine below_set ?_ GE40001.out) | exact HB.out))) : w.heap.size ≤ gb40002)); have n5_ := Aside0.mk ((by rw [hg]; exact Nat.ne_of_lt (blk_lt (g := gb40001) (o := .cells #[.string a0_0, .slice A0_1 l0_1.length c0_1, .int .i64 a0_2, .slice A0_3 l0_3.length c0_3, .slice A0_4 l0_4.length c0_4] 44 (0, 0)) (by (with_reducible repeat (first | refine blk_drewN ?_ _ | refine blk_drew ?_ | refine blk_alloc ?_ _)); exact BK40001.out)) : gb40001 ≠ gb40002)); have n6_ := Aside0.mk ((by rw [hg]; exact Nat.ne_of_gt (blk_lt (g := gb40001) (o := .cells #[.string a0_0, .slice A0_1 l0_1.length c0_1, .int .i64 a0_2, .slice A0_3 l0_3.length c0_3, .slice A0_4 l0_4.length c0_4] 44 (0, 0)) (by (with_reducible repeat (first | refine blk_drewN ?_ _ | refine blk_drew ?_ | refine blk_alloc ?_ _)); exact BK40001.out)) : gb40002 ≠ gb40001)); clear BK40001; clear HB; have BK40001 := n0_; have HB := n1_; have BK40002 := n2_; have GW40002 := n3_; have GE40002 := n4_; have NB40001_40002 := n5_; have NB40002_40001 := n6_; clear n0_ n1_ n2_ n3_ n4_ n5_ n6_; clear hb hbox hg)))
 (try simp only [Act.put, List.setIfInBounds_toArray, List.set_cons_zero, List.set_cons_succ])
 go_cut [42] (fun v42 wc => ∃ (kq : Nat) (x42_2 : Bool), v42 = .bool x42_2 ∧ Aside0 (tinderref08_SameNode.j0 kq x42_2 a0_0 l0_1 a0_2 l0_3 l0_4 a1_0 l1_1 a1_2 l1_3 l1_4 = some r) ∧ Aside0 (kq ≤ k) ∧ Aside0 (wc.heap[gb40001]? = some (.cells #[.string a0_0, (.slice A0_1 l0_1.length c0_1), .int .i64 a0_2, (.slice A0_3 l0_3.length c0_3), (.slice A0_4 l0_4.length c0_4)] 44 (0, 0))) ∧ Aside0 (wc.heap[gb40002]? = some (.cells #[.string a1_0, (.slice A1_1 l1_1.length c1_1), .int .i64 a1_2, (.slice A1_3 l1_3.length c1_3), (.slice A1_4 l1_4.length c1_4)] 44 (0, 0))) ∧ Aside0 (Below w.heap.size w wc))
 case first =>
  have H := HC3.out
  clear HC3
  by_cases c6 : a0_0.toList = a1_0.toList
  ·rw [if_pos c6] at H
   have c6b0 : (a0_0.toList == a1_0.toList) = true := beq_iff_eq.mpr c6
   have c6b1 : (a0_0.toList != a1_0.toList) = false := bne_eq_false_iff_eq.mpr c6
   clear c6
   (first | rw [c6b0] | (simp only [i64_w, i32_w]; rw [c6b0]) | skip)
   by_cases c7 : a0_2 = a1_2
   ·rw [if_pos c7] at H
    have c7b0 : (a0_2 == a1_2) = true := beq_iff_eq.mpr c7
    have c7b1 : (a0_2 != a1_2) = false := bne_eq_false_iff_eq.mpr c7
    clear c7
    replace H := Option.bind_eq_some_iff.mp H
    obtain ⟨t40003, A80, H⟩ := H
    replace H : (if t40003 = true then ((tinderref03_Same.f k l0_4 l1_4).bind fun t40004 => (if t40004 = true then (tinderref08_SameNode.j0 k ((l0_3.length : Int) != (l1_3.length : Int)) a0_0 l0_1 a0_2 l0_3 l0_4 a1_0 l1_1 a1_2 l1_3 l1_4) else (tinderref08_SameNode.j0 k true a0_0 l0_1 a0_2 l0_3 l0_4 a1_0 l1_1 a1_2 l1_3 l1_4))) else (tinderref08_SameNode.j0 k true a0_0 l0_1 a0_2 l0_3 l0_4 a1_0 l1_1 a1_2 l1_3 l1_4)) = some r := H
    have A8 := Aside0.mk A80
    clear A80
    by_cases c9 : t40003 = true
    ·subst c9
     have H1 : ((tinderref03_Same.f k l0_4 l1_4).bind fun t40004 => (if t40004 = true then (tinderref08_SameNode.j0 k ((l0_3.length : Int) != (l1_3.length : Int)) a0_0 l0_1 a0_2 l0_3 l0_4 a1_0 l1_1 a1_2 l1_3 l1_4) else (tinderref08_SameNode.j0 k true a0_0 l0_1 a0_2 l0_3 l0_4 a1_0 l1_1 a1_2 l1_3 l1_4))) = some r := by rw [if_pos rfl] at H; exact H
     clear H
     have H := H1
     clear H1
     replace H := Option.bind_eq_some_iff.mp H
     obtain ⟨t40004, A100, H⟩ := H
     replace H : (if t40004 = true then (tinderref08_SameNode.j0 k ((l0_3.length : Int) != (l1_3.length : Int)) a0_0 l0_1 a0_2 l0_3 l0_4 a1_0 l1_1 a1_2 l1_3 l1_4) else (tinderref08_SameNode.j0 k true a0_0 l0_1 a0_2 l0_3 l0_4 a1_0 l1_1 a1_2 l1_3 l1_4)) = some r := H
     have A10 := Aside0.mk A100
     clear A100
     by_cases c11 : t40004 = true
     ·subst c11
      have H1 : (tinderref08_SameNode.j0 k ((l0_3.length : Int) != (l1_3.length : Int)) a0_0 l0_1 a0_2 l0_3 l0_4 a1_0 l1_1 a1_2 l1_3 l1_4) = some r := by rw [if_pos rfl] at H; exact H
      clear H
      have H := H1
      clear H1
      have H' := Aside0.mk H
      clear H
      have hnb12 := NB40001_40002.out
      have hnc12 := NB40002_40001.out
      have hcz13_0 : w5.cell? ⟨gb40001, 0, none⟩ = some (.string a0_0) := (blk_cell BK40001.out 0).trans rfl
      have hcz13_1 : w5.cell? ⟨gb40001, 1, none⟩ = some (.slice A0_1 l0_1.length c0_1) := (blk_cell BK40001.out 1).trans rfl
      have hcz13_2 : w5.cell? ⟨gb40001, 2, none⟩ = some (.int .i64 a0_2) := (blk_cell BK40001.out 2).trans rfl
      have hcz13_3 : w5.cell? ⟨gb40001, 3, none⟩ = some (.slice A0_3 l0_3.length c0_3) := (blk_cell BK40001.out 3).trans rfl
      have hcz13_4 : w5.cell? ⟨gb40001, 4, none⟩ = some (.slice A0_4 l0_4.length c0_4) := (blk_cell BK40001.out 4).trans rfl
      have hfz13_0 := blk_frozen BK40001.out 0
      have hfz13_1 := blk_frozen BK40001.out 1
      have hfz13_2 := blk_frozen BK40001.out 2
      have hfz13_3 := blk_frozen BK40001.out 3
      have hfz13_4 := blk_frozen BK40001.out 4
      have hcz14_0 : w5.cell? ⟨gb40002, 0, none⟩ = some (.string a1_0) := (blk_cell BK40002.out 0).trans rfl
      have hcz14_1 : w5.cell? ⟨gb40002, 1, none⟩ = some (.slice A1_1 l1_1.length c1_1) := (blk_cell BK40002.out 1).trans rfl
      have hcz14_2 : w5.cell? ⟨gb40002, 2, none⟩ = some (.int .i64 a1_2) := (blk_cell BK40002.out 2).trans rfl
      have hcz14_3 : w5.cell? ⟨gb40002, 3, none⟩ = some (.slice A1_3 l1_3.length c1_3) := (blk_cell BK40002.out 3).trans rfl
      have hcz14_4 : w5.cell? ⟨gb40002, 4, none⟩ = some (.slice A1_4 l1_4.length c1_4) := (blk_cell BK40002.out 4).trans rfl
      have hfz14_0 := blk_frozen BK40002.out 0
      have hfz14_1 := blk_frozen BK40002.out 1
      have hfz14_2 := blk_frozen BK40002.out 2
      have hfz14_3 := blk_frozen BK40002.out 3
      have hfz14_4 := blk_frozen BK40002.out 4
      go_wp2_with (first | (go_at_call 26; (with_reducible refine (tinderref03_Same.calls k _ _ l0_1 _ _ l1_1 true _ ?side1 ?side2 ?side3 ?side4 A8.out).mono ?_); (case side1 => repeat (first | exact (Kd.C_below HR0_1.out HB.out) | (with_reducible refine Kd.C_alloc ?_ _) | (with_reducible refine Kd.C_drewN ?_ _) | (with_reducible refine Kd.C_drew ?_))); (case side2 => exact HC0_1.out); (case side3 => repeat (first | exact (Kd.C_below HR1_1.out HB.out) | (with_reducible refine Kd.C_alloc ?_ _) | (with_reducible refine Kd.C_drewN ?_ _) | (with_reducible refine Kd.C_drew ?_))); (case side4 => exact HC1_1.out); rintro e w' ⟨rfl, ⟨nd, rfl⟩⟩; (try first | exact ⟨rfl, _, World.drewN_drewN _ _ _⟩ | exact ⟨rfl, _, Eq.trans (World.drewN_drewN _ _ _) (congrArg (World.drewN _) (Nat.add_assoc _ _ _))⟩)) | (go_at_call 26; (with_reducible refine (tinderref03_Same.calls k _ _ l0_4 _ _ l1_4 true _ ?side1 ?side2 ?side3 ?side4 A10.out).mono ?_); (case side1 => repeat (first | exact (Kd.C_below HR0_4.out (by repeat (first | (with_reducible first | exact HB.out | apply below_alloc | apply pw_below_drewN | apply below_drew1 | refine below_set ?_ GE40001.out | refine below_set ?_ GE40002.out) | exact HB.out))) | (with_reducible refine Kd.C_alloc ?_ _) | (with_reducible refine Kd.C_drewN ?_ _) | (with_reducible refine Kd.C_drew ?_))); (case side2 => exact HC0_4.out); (case side3 => repeat (first | exact (Kd.C_below HR1_4.out (by repeat (first | (with_reducible first | exact HB.out | apply below_alloc | apply pw_below_drewN | apply below_drew1 | refine below_set ?_ GE40001.out | refine below_set ?_ GE40002.out) | exact HB.out))) | (with_reducible refine Kd.C_alloc ?_ _) | (with_reducible refine Kd.C_drewN ?_ _) | (with_reducible refine Kd.C_drew ?_))); (case side4 => exact HC1_4.out); rintro e w' ⟨rfl, ⟨nd, rfl⟩⟩; (try first | exact ⟨rfl, _, World.drewN_drewN _ _ _⟩ | exact ⟨rfl, _, Eq.trans (World.drewN_drewN _ _ _) (congrArg (World.drewN _) (Nat.add_assoc _ _ _))⟩)))
      repeat (go_quiet (first | (go_at_call 26; (with_reducible refine (tinderref03_Same.calls k _ _ l0_1 _ _ l1_1 true _ ?side1 ?side2 ?side3 ?side4 A8.out).mono ?_); (case side1 => repeat (first | exact (Kd.C_below HR0_1.out HB.out) | (with_reducible refine Kd.C_alloc ?_ _) | (with_reducible refine Kd.C_drewN ?_ _) | (with_reducible refine Kd.C_drew ?_))); (case side2 => exact HC0_1.out); (case side3 => repeat (first | exact (Kd.C_below HR1_1.out HB.out) | (with_reducible refine Kd.C_alloc ?_ _) | (with_reducible refine Kd.C_drewN ?_ _) | (with_reducible refine Kd.C_drew ?_))); (case side4 => exact HC1_1.out); rintro e w' ⟨rfl, ⟨nd, rfl⟩⟩; (try first | exact ⟨rfl, _, World.drewN_drewN _ _ _⟩ | exact ⟨rfl, _, Eq.trans (World.drewN_drewN _ _ _) (congrArg (World.drewN _) (Nat.add_assoc _ _ _))⟩)) | (go_at_call 26; (with_reducible refine (tinderref03_Same.calls k _ _ l0_4 _ _ l1_4 true _ ?side1 ?side2 ?side3 ?side4 A10.out).mono ?_); (case side1 => repeat (first | exact (Kd.C_below HR0_4.out (by repeat (first | (with_reducible first | exact HB.out | apply below_alloc | apply pw_below_drewN | apply below_drew1 | refine below_set ?_ GE40001.out | refine below_set ?_ GE40002.out) | exact HB.out))) | (with_reducible refine Kd.C_alloc ?_ _) | (with_reducible refine Kd.C_drewN ?_ _) | (with_reducible refine Kd.C_drew ?_))); (case side2 => exact HC0_4.out); (case side3 => repeat (first | exact (Kd.C_below HR1_4.out (by repeat (first | (with_reducible first | exact HB.out | apply below_alloc | apply pw_below_drewN | apply below_drew1 | refine below_set ?_ GE40001.out | refine below_set ?_ GE40002.out) | exact HB.out))) | (with_reducible refine Kd.C_alloc ?_ _) | (with_reducible refine Kd.C_drewN ?_ _) | (with_reducible refine Kd.C_drew ?_))); (case side4 => exact HC1_4.out); rintro e w' ⟨rfl, ⟨nd, rfl⟩⟩; (try first | exact ⟨rfl, _, World.drewN_drewN _ _ _⟩ | exact ⟨rfl, _, Eq.trans (World.drewN_drewN _ _ _) (congrArg (World.drewN _) (Nat.add_assoc _ _ _))⟩))); try go_wp2_with (first | (go_at_call 26; (with_reducible refine (tinderref03_Same.calls k _ _ l0_1 _ _ l1_1 true _ ?side1 ?side2 ?side3 ?side4 A8.out).mono ?_); (case side1 => repeat (first | exact (Kd.C_below HR0_1.out HB.out) | (with_reducible refine Kd.C_alloc ?_ _) | (with_reducible refine Kd.C_drewN ?_ _) | (with_reducible refine Kd.C_drew ?_))); (case side2 => exact HC0_1.out); (case side3 => repeat (first | exact (Kd.C_below HR1_1.out HB.out) | (with_reducible refine Kd.C_alloc ?_ _) | (with_reducible refine Kd.C_drewN ?_ _) | (with_reducible refine Kd.C_drew ?_))); (case side4 => exact HC1_1.out); rintro e w' ⟨rfl, ⟨nd, rfl⟩⟩; (try first | exact ⟨rfl, _, World.drewN_drewN _ _ _⟩ | exact ⟨rfl, _, Eq.trans (World.drewN_drewN _ _ _) (congrArg (World.drewN _) (Nat.add_assoc _ _ _))⟩)) | (go_at_call 26; (with_reducible refine (tinderref03_Same.calls k _ _ l0_4 _ _ l1_4 true _ ?side1 ?side2 ?side3 ?side4 A10.out).mono ?_); (case side1 => repeat (first | exact (Kd.C_below HR0_4.out (by repeat (first | (with_reducible first | exact HB.out | apply below_alloc | apply pw_below_drewN | apply below_drew1 | refine below_set ?_ GE40001.out | refine below_set ?_ GE40002.out) | exact HB.out))) | (with_reducible refine Kd.C_alloc ?_ _) | (with_reducible refine Kd.C_drewN ?_ _) | (with_reducible refine Kd.C_drew ?_))); (case side2 => exact HC0_4.out); (case side3 => repeat (first | exact (Kd.C_below HR1_4.out (by repeat (first | (with_reducible first | exact HB.out | apply below_alloc | apply pw_below_drewN | apply below_drew1 | refine below_set ?_ GE40001.out | refine below_set ?_ GE40002.out) | exact HB.out))) | (with_reducible refine Kd.C_alloc ?_ _) | (with_reducible refine Kd.C_drewN ?_ _) | (with_reducible refine Kd.C_drew ?_))); (case side4 => exact HC1_4.out); rintro e w' ⟨rfl, ⟨nd, rfl⟩⟩; (try first | exact ⟨rfl, _, World.drewN_drewN _ _ _⟩ | exact ⟨rfl, _, Eq.trans (World.drewN_drewN _ _ _) (congrArg (World.drewN _) (Nat.add_assoc _ _ _))⟩))))
      go_meet
      case rel => exact ⟨_, (((l0_3.length : Int) != (l1_3.length : Int))), (by first | rfl | (simp; done) | (simp [*]; done)), H', ⟨by first | omega | exact Nat.le_refl _⟩, ⟨by (with_reducible repeat (first | refine blk_drewN ?_ _ | refine blk_drew ?_ | refine blk_alloc ?_ _)); exact BK40001.out⟩, ⟨by (with_reducible repeat (first | refine blk_drewN ?_ _ | refine blk_drew ?_ | refine blk_alloc ?_ _)); exact BK40002.out⟩, ⟨by repeat (first | (with_reducible first | exact HB.out | apply below_alloc | apply pw_below_drewN | apply below_drew1 | refine below_set ?_ GE40001.out | refine below_set ?_ GE40002.out) | exact HB.out)⟩⟩
     ·replace c11 := Bool.eq_false_iff.mpr c11
      subst c11
      have H1 : (tinderref08_SameNode.j0 k true a0_0 l0_1 a0_2 l0_3 l0_4 a1_0 l1_1 a1_2 l1_3 l1_4) = some r := by rw [if_neg (show ¬ (false = true) by decide)] at H; exact H
      clear H
      have H := H1
      clear H1
      have H' := Aside0.mk H
      clear H
      have hnb15 := NB40001_40002.out
      have hnc15 := NB40002_40001.out
      have hcz16_0 : w5.cell? ⟨gb40001, 0, none⟩ = some (.string a0_0) := (blk_cell BK40001.out 0).trans rfl
      have hcz16_1 : w5.cell? ⟨gb40001, 1, none⟩ = some (.slice A0_1 l0_1.length c0_1) := (blk_cell BK40001.out 1).trans rfl
      have hcz16_2 : w5.cell? ⟨gb40001, 2, none⟩ = some (.int .i64 a0_2) := (blk_cell BK40001.out 2).trans rfl
      have hcz16_3 : w5.cell? ⟨gb40001, 3, none⟩ = some (.slice A0_3 l0_3.length c0_3) := (blk_cell BK40001.out 3).trans rfl
      have hcz16_4 : w5.cell? ⟨gb40001, 4, none⟩ = some (.slice A0_4 l0_4.length c0_4) := (blk_cell BK40001.out 4).trans rfl
      have hfz16_0 := blk_frozen BK40001.out 0
      have hfz16_1 := blk_frozen BK40001.out 1
      have hfz16_2 := blk_frozen BK40001.out 2
      have hfz16_3 := blk_frozen BK40001.out 3
      have hfz16_4 := blk_frozen BK40001.out 4
      have hcz17_0 : w5.cell? ⟨gb40002, 0, none⟩ = some (.string a1_0) := (blk_cell BK40002.out 0).trans rfl
      have hcz17_1 : w5.cell? ⟨gb40002, 1, none⟩ = some (.slice A1_1 l1_1.length c1_1) := (blk_cell BK40002.out 1).trans rfl
      have hcz17_2 : w5.cell? ⟨gb40002, 2, none⟩ = some (.int .i64 a1_2) := (blk_cell BK40002.out 2).trans rfl
      have hcz17_3 : w5.cell? ⟨gb40002, 3, none⟩ = some (.slice A1_3 l1_3.length c1_3) := (blk_cell BK40002.out 3).trans rfl
      have hcz17_4 : w5.cell? ⟨gb40002, 4, none⟩ = some (.slice A1_4 l1_4.length c1_4) := (blk_cell BK40002.out 4).trans rfl
      have hfz17_0 := blk_frozen BK40002.out 0
      have hfz17_1 := blk_frozen BK40002.out 1
      have hfz17_2 := blk_frozen BK40002.out 2
      have hfz17_3 := blk_frozen BK40002.out 3
      have hfz17_4 := blk_frozen BK40002.out 4
      go_wp2_with (first | (go_at_call 26; (with_reducible refine (tinderref03_Same.calls k _ _ l0_1 _ _ l1_1 true _ ?side1 ?side2 ?side3 ?side4 A8.out).mono ?_); (case side1 => repeat (first | exact (Kd.C_below HR0_1.out HB.out) | (with_reducible refine Kd.C_alloc ?_ _) | (with_reducible refine Kd.C_drewN ?_ _) | (with_reducible refine Kd.C_drew ?_))); (case side2 => exact HC0_1.out); (case side3 => repeat (first | exact (Kd.C_below HR1_1.out HB.out) | (with_reducible refine Kd.C_alloc ?_ _) | (with_reducible refine Kd.C_drewN ?_ _) | (with_reducible refine Kd.C_drew ?_))); (case side4 => exact HC1_1.out); rintro e w' ⟨rfl, ⟨nd, rfl⟩⟩; (try first | exact ⟨rfl, _, World.drewN_drewN _ _ _⟩ | exact ⟨rfl, _, Eq.trans (World.drewN_drewN _ _ _) (congrArg (World.drewN _) (Nat.add_assoc _ _ _))⟩)) | (go_at_call 26; (with_reducible refine (tinderref03_Same.calls k _ _ l0_4 _ _ l1_4 false _ ?side1 ?side2 ?side3 ?side4 A10.out).mono ?_); (case side1 => repeat (first | exact (Kd.C_below HR0_4.out (by repeat (first | (with_reducible first | exact HB.out | apply below_alloc | apply pw_below_drewN | apply below_drew1 | refine below_set ?_ GE40001.out | refine below_set ?_ GE40002.out) | exact HB.out))) | (with_reducible refine Kd.C_alloc ?_ _) | (with_reducible refine Kd.C_drewN ?_ _) | (with_reducible refine Kd.C_drew ?_))); (case side2 => exact HC0_4.out); (case side3 => repeat (first | exact (Kd.C_below HR1_4.out (by repeat (first | (with_reducible first | exact HB.out | apply below_alloc | apply pw_below_drewN | apply below_drew1 | refine below_set ?_ GE40001.out | refine below_set ?_ GE40002.out) | exact HB.out))) | (with_reducible refine Kd.C_alloc ?_ _) | (with_reducible refine Kd.C_drewN ?_ _) | (with_reducible refine Kd.C_drew ?_))); (case side4 => exact HC1_4.out); rintro e w' ⟨rfl, ⟨nd, rfl⟩⟩; (try first | exact ⟨rfl, _, World.drewN_drewN _ _ _⟩ | exact ⟨rfl, _, Eq.trans (World.drewN_drewN _ _ _) (congrArg (World.drewN _) (Nat.add_assoc _ _ _))⟩)))
      repeat (go_quiet (first | (go_at_call 26; (with_reducible refine (tinderref03_Same.calls k _ _ l0_1 _ _ l1_1 true _ ?side1 ?side2 ?side3 ?side4 A8.out).mono ?_); (case side1 => repeat (first | exact (Kd.C_below HR0_1.out HB.out) | (with_reducible refine Kd.C_alloc ?_ _) | (with_reducible refine Kd.C_drewN ?_ _) | (with_reducible refine Kd.C_drew ?_))); (case side2 => exact HC0_1.out); (case side3 => repeat (first | exact (Kd.C_below HR1_1.out HB.out) | (with_reducible refine Kd.C_alloc ?_ _) | (with_reducible refine Kd.C_drewN ?_ _) | (with_reducible refine Kd.C_drew ?_))); (case side4 => exact HC1_1.out); rintro e w' ⟨rfl, ⟨nd, rfl⟩⟩; (try first | exact ⟨rfl, _, World.drewN_drewN _ _ _⟩ | exact ⟨rfl, _, Eq.trans (World.drewN_drewN _ _ _) (congrArg (World.drewN _) (Nat.add_assoc _ _ _))⟩)) | (go_at_call 26; (with_reducible refine (tinderref03_Same.calls k _ _ l0_4 _ _ l1_4 false _ ?side1 ?side2 ?side3 ?side4 A10.out).mono ?_); (case side1 => repeat (first | exact (Kd.C_below HR0_4.out (by repeat (first | (with_reducible first | exact HB.out | apply below_alloc | apply pw_below_drewN | apply below_drew1 | refine below_set ?_ GE40001.out | refine below_set ?_ GE40002.out) | exact HB.out))) | (with_reducible refine Kd.C_alloc ?_ _) | (with_reducible refine Kd.C_drewN ?_ _) | (with_reducible refine Kd.C_drew ?_))); (case side2 => exact HC0_4.out); (case side3 => repeat (first | exact (Kd.C_below HR1_4.out (by repeat (first | (with_reducible first | exact HB.out | apply below_alloc | apply pw_below_drewN | apply below_drew1 | refine below_set ?_ GE40001.out | refine below_set ?_ GE40002.out) | exact HB.out))) | (with_reducible refine Kd.C_alloc ?_ _) | (with_reducible refine Kd.C_drewN ?_ _) | (with_reducible refine Kd.C_drew ?_))); (case side4 => exact HC1_4.out); rintro e w' ⟨rfl, ⟨nd, rfl⟩⟩; (try first | exact ⟨rfl, _, World.drewN_drewN _ _ _⟩ | exact ⟨rfl, _, Eq.trans (World.drewN_drewN _ _ _) (congrArg (World.drewN _) (Nat.add_assoc _ _ _))⟩))); try go_wp2_with (first | (go_at_call 26; (with_reducible refine (tinderref03_Same.calls k _ _ l0_1 _ _ l1_1 true _ ?side1 ?side2 ?side3 ?side4 A8.out).mono ?_); (case side1 => repeat (first | exact (Kd.C_below HR0_1.out HB.out) | (with_reducible refine Kd.C_alloc ?_ _) | (with_reducible refine Kd.C_drewN ?_ _) | (with_reducible refine Kd.C_drew ?_))); (case side2 => exact HC0_1.out); (case side3 => repeat (first | exact (Kd.C_below HR1_1.out HB.out) | (with_reducible refine Kd.C_alloc ?_ _) | (with_reducible refine Kd.C_drewN ?_ _) | (with_reducible refine Kd.C_drew ?_))); (case side4 => exact HC1_1.out); rintro e w' ⟨rfl, ⟨nd, rfl⟩⟩; (try first | exact ⟨rfl, _, World.drewN_drewN _ _ _⟩ | exact ⟨rfl, _, Eq.trans (World.drewN_drewN _ _ _) (congrArg (World.drewN _) (Nat.add_assoc _ _ _))⟩)) | (go_at_call 26; (with_reducible refine (tinderref03_Same.calls k _ _ l0_4 _ _ l1_4 false _ ?side1 ?side2 ?side3 ?side4 A10.out).mono ?_); (case side1 => repeat (first | exact (Kd.C_below HR0_4.out (by repeat (first | (with_reducible first | exact HB.out | apply below_alloc | apply pw_below_drewN | apply below_drew1 | refine below_set ?_ GE40001.out | refine below_set ?_ GE40002.out) | exact HB.out))) | (with_reducible refine Kd.C_alloc ?_ _) | (with_reducible refine Kd.C_drewN ?_ _) | (with_reducible refine Kd.C_drew ?_))); (case side2 => exact HC0_4.out); (case side3 => repeat (first | exact (Kd.C_below HR1_4.out (by repeat (first | (with_reducible first | exact HB.out | apply below_alloc | apply pw_below_drewN | apply below_drew1 | refine below_set ?_ GE40001.out | refine below_set ?_ GE40002.out) | exact HB.out))) | (with_reducible refine Kd.C_alloc ?_ _) | (with_reducible refine Kd.C_drewN ?_ _) | (with_reducible refine Kd.C_drew ?_))); (case side4 => exact HC1_4.out); rintro e w' ⟨rfl, ⟨nd, rfl⟩⟩; (try first | exact ⟨rfl, _, World.drewN_drewN _ _ _⟩ | exact ⟨rfl, _, Eq.trans (World.drewN_drewN _ _ _) (congrArg (World.drewN _) (Nat.add_assoc _ _ _))⟩))))
      go_meet
      case rel => exact ⟨_, (true), (by first | rfl | (simp; done) | (simp [*]; done)), H', ⟨by first | omega | exact Nat.le_refl _⟩, ⟨by (with_reducible repeat (first | refine blk_drewN ?_ _ | refine blk_drew ?_ | refine blk_alloc ?_ _)); exact BK40001.out⟩, ⟨by (with_reducible repeat (first | refine blk_drewN ?_ _ | refine blk_drew ?_ | refine blk_alloc ?_ _)); exact BK40002.out⟩, ⟨by repeat (first | (with_reducible first | exact HB.out | apply below_alloc | apply pw_below_drewN | apply below_drew1 | refine below_set ?_ GE40001.out | refine below_set ?_ GE40002.out) | exact HB.out)⟩⟩
    ·replace c9 := Bool.eq_false_iff.mpr c9
     subst c9
     have H1 : (tinderref08_SameNode.j0 k true a0_0 l0_1 a0_2 l0_3 l0_4 a1_0 l1_1 a1_2 l1_3 l1_4) = some r := by rw [if_neg (show ¬ (false = true) by decide)] at H; exact H
     clear H
     have H := H1
     clear H1
     have H' := Aside0.mk H
     clear H
     have hnb18 := NB40001_40002.out
     have hnc18 := NB40002_40001.out
     have hcz19_0 : w5.cell? ⟨gb40001, 0, none⟩ = some (.string a0_0) := (blk_cell BK40001.out 0).trans rfl
     have hcz19_1 : w5.cell? ⟨gb40001, 1, none⟩ = some (.slice A0_1 l0_1.length c0_1) := (blk_cell BK40001.out 1).trans rfl
     have hcz19_2 : w5.cell? ⟨gb40001, 2, none⟩ = some (.int .i64 a0_2) := (blk_cell BK40001.out 2).trans rfl
     have hcz19_3 : w5.cell? ⟨gb40001, 3, none⟩ = some (.slice A0_3 l0_3.length c0_3) := (blk_cell BK40001.out 3).trans rfl
     have hcz19_4 : w5.cell? ⟨gb40001, 4, none⟩ = some (.slice A0_4 l0_4.length c0_4) := (blk_cell BK40001.out 4).trans rfl
     have hfz19_0 := blk_frozen BK40001.out 0
     have hfz19_1 := blk_frozen BK40001.out 1
     have hfz19_2 := blk_frozen BK40001.out 2
     have hfz19_3 := blk_frozen BK40001.out 3
     have hfz19_4 := blk_frozen BK40001.out 4
     have hcz20_0 : w5.cell? ⟨gb40002, 0, none⟩ = some (.string a1_0) := (blk_cell BK40002.out 0).trans rfl
     have hcz20_1 : w5.cell? ⟨gb40002, 1, none⟩ = some (.slice A1_1 l1_1.length c1_1) := (blk_cell BK40002.out 1).trans rfl
     have hcz20_2 : w5.cell? ⟨gb40002, 2, none⟩ = some (.int .i64 a1_2) := (blk_cell BK40002.out 2).trans rfl
     have hcz20_3 : w5.cell? ⟨gb40002, 3, none⟩ = some (.slice A1_3 l1_3.length c1_3) := (blk_cell BK40002.out 3).trans rfl
     have hcz20_4 : w5.cell? ⟨gb40002, 4, none⟩ = some (.slice A1_4 l1_4.length c1_4) := (blk_cell BK40002.out 4).trans rfl
     have hfz20_0 := blk_frozen BK40002.out 0
     have hfz20_1 := blk_frozen BK40002.out 1
     have hfz20_2 := blk_frozen BK40002.out 2
     have hfz20_3 := blk_frozen BK40002.out 3
     have hfz20_4 := blk_frozen BK40002.out 4
     go_wp2_with (first | (go_at_call 26; (with_reducible refine (tinderref03_Same.calls k _ _ l0_1 _ _ l1_1 false _ ?side1 ?side2 ?side3 ?side4 A8.out).mono ?_); (case side1 => repeat (first | exact (Kd.C_below HR0_1.out HB.out) | (with_reducible refine Kd.C_alloc ?_ _) | (with_reducible refine Kd.C_drewN ?_ _) | (with_reducible refine Kd.C_drew ?_))); (case side2 => exact HC0_1.out); (case side3 => repeat (first | exact (Kd.C_below HR1_1.out HB.out) | (with_reducible refine Kd.C_alloc ?_ _) | (with_reducible refine Kd.C_drewN ?_ _) | (with_reducible refine Kd.C_drew ?_))); (case side4 => exact HC1_1.out); rintro e w' ⟨rfl, ⟨nd, rfl⟩⟩; (try first | exact ⟨rfl, _, World.drewN_drewN _ _ _⟩ | exact ⟨rfl, _, Eq.trans (World.drewN_drewN _ _ _) (congrArg (World.drewN _) (Nat.add_assoc _ _ _))⟩)))
     repeat (go_quiet (first | (go_at_call 26; (with_reducible refine (tinderref03_Same.calls k _ _ l0_1 _ _ l1_1 false _ ?side1 ?side2 ?side3 ?side4 A8.out).mono ?_); (case side1 => repeat (first | exact (Kd.C_below HR0_1.out HB.out) | (with_reducible refine Kd.C_alloc ?_ _) | (with_reducible refine Kd.C_drewN ?_ _) | (with_reducible refine Kd.C_drew ?_))); (case side2 => exact HC0_1.out); (case side3 => repeat (first | exact (Kd.C_below HR1_1.out HB.out) | (with_reducible refine Kd.C_alloc ?_ _) | (with_reducible refine Kd.C_drewN ?_ _) | (with_reducible refine Kd.C_drew ?_))); (case side4 => exact HC1_1.out); rintro e w' ⟨rfl, ⟨nd, rfl⟩⟩; (try first | exact ⟨rfl, _, World.drewN_drewN _ _ _⟩ | exact ⟨rfl, _, Eq.trans (World.drewN_drewN _ _ _) (congrArg (World.drewN _) (Nat.add_assoc _ _ _))⟩))); try go_wp2_with (first | (go_at_call 26; (with_reducible refine (tinderref03_Same.calls k _ _ l0_1 _ _ l1_1 false _ ?side1 ?side2 ?side3 ?side4 A8.out).mono ?_); (case side1 => repeat (first | exact (Kd.C_below HR0_1.out HB.out) | (with_reducible refine Kd.C_alloc ?_ _) | (with_reducible refine Kd.C_drewN ?_ _) | (with_reducible refine Kd.C_drew ?_))); (case side2 => exact HC0_1.out); (case side3 => repeat (first | exact (Kd.C_below HR1_1.out HB.out) | (with_reducible refine Kd.C_alloc ?_ _) | (with_reducible refine Kd.C_drewN ?_ _) | (with_reducible refine Kd.C_drew ?_))); (case side4 => exact HC1_1.out); rintro e w' ⟨rfl, ⟨nd, rfl⟩⟩; (try first | exact ⟨rfl, _, World.drewN_drewN _ _ _⟩ | exact ⟨rfl, _, Eq.trans (World.drewN_drewN _ _ _) (congrArg (World.drewN _) (Nat.add_assoc _ _ _))⟩))))
     go_meet
     case rel => exact ⟨_, (true), (by first | rfl | (simp; done) | (simp [*]; done)), H', ⟨by first | omega | exact Nat.le_refl _⟩, ⟨by (with_reducible repeat (first | refine blk_drewN ?_ _ | refine blk_drew ?_ | refine blk_alloc ?_ _)); exact BK40001.out⟩, ⟨by (with_reducible repeat (first | refine blk_drewN ?_ _ | refine blk_drew ?_ | refine blk_alloc ?_ _)); exact BK40002.out⟩, ⟨by repeat (first | (with_reducible first | exact HB.out | apply below_alloc | apply pw_below_drewN | apply below_drew1 | refine below_set ?_ GE40001.out | refine below_set ?_ GE40002.out) | exact HB.out)⟩⟩
   ·rw [if_neg c7] at H
    have c7b0 : (a0_2 == a1_2) = false := beq_eq_false_iff_ne.mpr c7
    have c7b1 : (a0_2 != a1_2) = true := bne_iff_ne.mpr c7
    have H' := Aside0.mk H
    clear H
    have hnb21 := NB40001_40002.out
    have hnc21 := NB40002_40001.out
    have hcz22_0 : w5.cell? ⟨gb40001, 0, none⟩ = some (.string a0_0) := (blk_cell BK40001.out 0).trans rfl
    have hcz22_1 : w5.cell? ⟨gb40001, 1, none⟩ = some (.slice A0_1 l0_1.length c0_1) := (blk_cell BK40001.out 1).trans rfl
    have hcz22_2 : w5.cell? ⟨gb40001, 2, none⟩ = some (.int .i64 a0_2) := (blk_cell BK40001.out 2).trans rfl
    have hcz22_3 : w5.cell? ⟨gb40001, 3, none⟩ = some (.slice A0_3 l0_3.length c0_3) := (blk_cell BK40001.out 3).trans rfl
    have hcz22_4 : w5.cell? ⟨gb40001, 4, none⟩ = some (.slice A0_4 l0_4.length c0_4) := (blk_cell BK40001.out 4).trans rfl
    have hfz22_0 := blk_frozen BK40001.out 0
    have hfz22_1 := blk_frozen BK40001.out 1
    have hfz22_2 := blk_frozen BK40001.out 2
    have hfz22_3 := blk_frozen BK40001.out 3
    have hfz22_4 := blk_frozen BK40001.out 4
    have hcz23_0 : w5.cell? ⟨gb40002, 0, none⟩ = some (.string a1_0) := (blk_cell BK40002.out 0).trans rfl
    have hcz23_1 : w5.cell? ⟨gb40002, 1, none⟩ = some (.slice A1_1 l1_1.length c1_1) := (blk_cell BK40002.out 1).trans rfl
    have hcz23_2 : w5.cell? ⟨gb40002, 2, none⟩ = some (.int .i64 a1_2) := (blk_cell BK40002.out 2).trans rfl
    have hcz23_3 : w5.cell? ⟨gb40002, 3, none⟩ = some (.slice A1_3 l1_3.length c1_3) := (blk_cell BK40002.out 3).trans rfl
    have hcz23_4 : w5.cell? ⟨gb40002, 4, none⟩ = some (.slice A1_4 l1_4.length c1_4) := (blk_cell BK40002.out 4).trans rfl
    have hfz23_0 := blk_frozen BK40002.out 0
    have hfz23_1 := blk_frozen BK40002.out 1
    have hfz23_2 := blk_frozen BK40002.out 2
    have hfz23_3 := blk_frozen BK40002.out 3
    have hfz23_4 := blk_frozen BK40002.out 4
    go_wp2
    repeat (go_quiet (fail); try go_wp2)
    go_meet
    case rel => exact ⟨_, (true), (by first | rfl | (simp; done) | (simp [*]; done)), H', ⟨by first | omega | exact Nat.le_refl _⟩, ⟨by (with_reducible repeat (first | refine blk_drewN ?_ _ | refine blk_drew ?_ | refine blk_alloc ?_ _)); exact BK40001.out⟩, ⟨by (with_reducible repeat (first | refine blk_drewN ?_ _ | refine blk_drew ?_ | refine blk_alloc ?_ _)); exact BK40002.out⟩, ⟨by repeat (first | (with_reducible first | exact HB.out | apply below_alloc | apply pw_below_drewN | apply below_drew1 | refine below_set ?_ GE40001.out | refine below_set ?_ GE40002.out) | exact HB.out)⟩⟩
  ·rw [if_neg c6] at H
   have c6b0 : (a0_0.toList == a1_0.toList) = false := beq_eq_false_iff_ne.mpr c6
   have c6b1 : (a0_0.toList != a1_0.toList) = true := bne_iff_ne.mpr c6
   (first | rw [c6b0] | (simp only [i64_w, i32_w]; rw [c6b0]) | skip)
   have H' := Aside0.mk H
   clear H
   have hnb24 := NB40001_40002.out
   have hnc24 := NB40002_40001.out
   have hcz25_0 : w5.cell? ⟨gb40001, 0, none⟩ = some (.string a0_0) := (blk_cell BK40001.out 0).trans rfl
   have hcz25_1 : w5.cell? ⟨gb40001, 1, none⟩ = some (.slice A0_1 l0_1.length c0_1) := (blk_cell BK40001.out 1).trans rfl
   have hcz25_2 : w5.cell? ⟨gb40001, 2, none⟩ = some (.int .i64 a0_2) := (blk_cell BK40001.out 2).trans rfl
   have hcz25_3 : w5.cell? ⟨gb40001, 3, none⟩ = some (.slice A0_3 l0_3.length c0_3) := (blk_cell BK40001.out 3).trans rfl
   have hcz25_4 : w5.cell? ⟨gb40001, 4, none⟩ = some (.slice A0_4 l0_4.length c0_4) := (blk_cell BK40001.out 4).trans rfl
   have hfz25_0 := blk_frozen BK40001.out 0
   have hfz25_1 := blk_frozen BK40001.out 1
   have hfz25_2 := blk_frozen BK40001.out 2
   have hfz25_3 := blk_frozen BK40001.out 3
   have hfz25_4 := blk_frozen BK40001.out 4
   have hcz26_0 : w5.cell? ⟨gb40002, 0, none⟩ = some (.string a1_0) := (blk_cell BK40002.out 0).trans rfl
   have hcz26_1 : w5.cell? ⟨gb40002, 1, none⟩ = some (.slice A1_1 l1_1.length c1_1) := (blk_cell BK40002.out 1).trans rfl
   have hcz26_2 : w5.cell? ⟨gb40002, 2, none⟩ = some (.int .i64 a1_2) := (blk_cell BK40002.out 2).trans rfl
   have hcz26_3 : w5.cell? ⟨gb40002, 3, none⟩ = some (.slice A1_3 l1_3.length c1_3) := (blk_cell BK40002.out 3).trans rfl
   have hcz26_4 : w5.cell? ⟨gb40002, 4, none⟩ = some (.slice A1_4 l1_4.length c1_4) := (blk_cell BK40002.out 4).trans rfl
   have hfz26_0 := blk_frozen BK40002.out 0
   have hfz26_1 := blk_frozen BK40002.out 1
   have hfz26_2 := blk_frozen BK40002.out 2
   have hfz26_3 := blk_frozen BK40002.out 3
   have hfz26_4 := blk_frozen BK40002.out 4
   go_wp2
   repeat (go_quiet (fail); try go_wp2)
   go_meet
   case rel => exact ⟨_, (true), (by first | rfl | (simp; done) | (simp [*]; done)), H', ⟨by first | omega | exact Nat.le_refl _⟩, ⟨by (with_reducible repeat (first | refine blk_drewN ?_ _ | refine blk_drew ?_ | refine blk_alloc ?_ _)); exact BK40001.out⟩, ⟨by (with_reducible repeat (first | refine blk_drewN ?_ _ | refine blk_drew ?_ | refine blk_alloc ?_ _)); exact BK40002.out⟩, ⟨by repeat (first | (with_reducible first | exact HB.out | apply below_alloc | apply pw_below_drewN | apply below_drew1 | refine below_set ?_ GE40001.out | refine below_set ?_ GE40002.out) | exact HB.out)⟩⟩
 case rest =>
  clear HC3
  try clear c1
  try clear c2
  try clear p2
  try clear c3
  try clear c6
  try clear c6b0
  try clear c6b1
  try clear c7
  try clear c7b0
  try clear c7b1
  try clear c9
  try clear c11
  try clear c12
  try clear c15
  try clear c18
  try clear c21
  try clear c24
  try clear hcz13_0
  try clear hcz13_1
  try clear hcz13_2
  try clear hcz13_3
  try clear hcz13_4
  try clear hcz14_0
  try clear hcz14_1
  try clear hcz14_2
  try clear hcz14_3
  try clear hcz14_4
  try clear hcz16_0
  try clear hcz16_1
  try clear hcz16_2
  try clear hcz16_3
  try clear hcz16_4
  try clear hcz17_0
  try clear hcz17_1
  try clear hcz17_2
  try clear hcz17_3
  try clear hcz17_4
  try clear hcz19_0
  try clear hcz19_1
  try clear hcz19_2
  try clear hcz19_3
  try clear hcz19_4
  try clear hcz20_0
  try clear hcz20_1
  try clear hcz20_2
  try clear hcz20_3
  try clear hcz20_4
  try clear hcz22_0
  try clear hcz22_1
  try clear hcz22_2
  try clear hcz22_3
  try clear hcz22_4
  try clear hcz23_0
  try clear hcz23_1
  try clear hcz23_2
  try clear hcz23_3
  try clear hcz23_4
  try clear hcz25_0
  try clear hcz25_1
  try clear hcz25_2
  try clear hcz25_3
  try clear hcz25_4
  try clear hcz26_0
  try clear hcz26_1
  try clear hcz26_2
  try clear hcz26_3
  try clear hcz26_4
  try clear hfz13_0
  try clear hfz13_1
  try clear hfz13_2
  try clear hfz13_3
  try clear hfz13_4
  try clear hfz14_0
  try clear hfz14_1
  try clear hfz14_2
  try clear hfz14_3
  try clear hfz14_4
  try clear hfz16_0
  try clear hfz16_1
  try clear hfz16_2
  try clear hfz16_3
  try clear hfz16_4
  try clear hfz17_0
  try clear hfz17_1
  try clear hfz17_2
  try clear hfz17_3
  try clear hfz17_4
  try clear hfz19_0
  try clear hfz19_1
  try clear hfz19_2
  try clear hfz19_3
  try clear hfz19_4
  try clear hfz20_0
  try clear hfz20_1
  try clear hfz20_2
  try clear hfz20_3
  try clear hfz20_4
  try clear hfz22_0
  try clear hfz22_1
  try clear hfz22_2
  try clear hfz22_3
  try clear hfz22_4
  try clear hfz23_0
  try clear hfz23_1
  try clear hfz23_2
  try clear hfz23_3
  try clear hfz23_4
  try clear hfz25_0
  try clear hfz25_1
  try clear hfz25_2
  try clear hfz25_3
  try clear hfz25_4
  try clear hfz26_0
  try clear hfz26_1
  try clear hfz26_2
  try clear hfz26_3
  try clear hfz26_4
  obtain ⟨kq, x42_2, rfl, HA, HJ2, BK40001, BK40002, HB⟩ := hcut
  cases kq with
  | zero => exact absurd HA.out (by simp [tinderref08_SameNode.j0])
  | succ kj2 =>
   have H := HA.out
   clear HA
   simp only [tinderref08_SameNode.j0] at H
   by_cases c27 : x42_2 = true
   ·subst c27
    have H1 : (some false) = some r := by rw [if_pos rfl] at H; exact H
    clear H
    have H := H1
    clear H1
    obtain rfl := Option.some.inj H
    go_wp2
    repeat (go_quiet (fail); try go_wp2)
    go_ret
    exact ⟨by first | rfl | (simp [errW_none, errW_some] <;> rfl) | (simp [*, errW_none, errW_some] <;> rfl), by repeat (first | (with_reducible first | exact HB.out | apply below_alloc | apply pw_below_drewN | apply below_drew1 | refine below_set ?_ GE40001.out | refine below_set ?_ GE40002.out) | exact HB.out)⟩
   ·replace c27 := Bool.eq_false_iff.mpr c27
    subst c27
    have H1 : (tinderref08_SameNode.l0 kj2 0 a0_0 l0_1 a0_2 l0_3 l0_4 a1_0 l1_1 a1_2 l1_3 l1_4) = some r := by rw [if_neg (show ¬ (false = true) by decide)] at H; exact H
    clear H
    have H := H1
    clear H1
    have H' := Aside0.mk H
    clear H
    go_wp2
    repeat (go_quiet (fail); try go_wp2)
    go_loopg [5] kj2 (fun kq v5 w' => ∃ (x5_2 : Int), v5 = .int .i64 x5_2 ∧ Aside0 (tinderref08_SameNode.l0 kq x5_2 a0_0 l0_1 a0_2 l0_3 l0_4 a1_0 l1_1 a1_2 l1_3 l1_4 = some r) ∧ Aside0 (kq ≤ kj2) ∧ Aside0 (w'.heap[gb40001]? = some (.cells #[.string a0_0, (.slice A0_1 l0_1.length c0_1), .int .i64 a0_2, (.slice A0_3 l0_3.length c0_3), (.slice A0_4 l0_4.length c0_4)] 44 (0, 0))) ∧ Aside0 (w'.heap[gb40002]? = some (.cells #[.string a1_0, (.slice A1_1 l1_1.length c1_1), .int .i64 a1_2, (.slice A1_3 l1_3.length c1_3), (.slice A1_4 l1_4.length c1_4)] 44 (0, 0))) ∧ Aside0 (Below w.heap.size w w'))
    case atStart => exact ⟨(0), (by first | rfl | (simp; done) | (simp [*]; done)), H', ⟨Nat.le_refl _⟩, ⟨by (with_reducible repeat (first | refine blk_drewN ?_ _ | refine blk_drew ?_ | refine blk_alloc ?_ _)); exact BK40001.out⟩, ⟨by (with_reducible repeat (first | refine blk_drewN ?_ _ | refine blk_drew ?_ | refine blk_alloc ?_ _)); exact BK40002.out⟩, ⟨by repeat (first | (with_reducible first | exact HB.out | apply below_alloc | apply pw_below_drewN | apply below_drew1 | refine below_set ?_ GE40001.out | refine below_set ?_ GE40002.out) | exact HB.out)⟩⟩
    case round =>
     clear H'
     try clear c1
     try clear c2
     try clear p2
     try clear c3
     try clear c6
     try clear c6b0
     try clear c6b1
     try clear c7
     try clear c7b0
     try clear c7b1
     try clear c9
     try clear c11
     try clear c12
     try clear c15
     try clear c18
     try clear c21
     try clear c24
     try clear c27
     try clear hcz13_0
     try clear hcz13_1
     try clear hcz13_2
     try clear hcz13_3
     try clear hcz13_4
     try clear hcz14_0
     try clear hcz14_1
     try clear hcz14_2
     try clear hcz14_3
     try clear hcz14_4
     try clear hcz16_0
     try clear hcz16_1
     try clear hcz16_2
     try clear hcz16_3
     try clear hcz16_4
     try clear hcz17_0
     try clear hcz17_1
     try clear hcz17_2
     try clear hcz17_3
     try clear hcz17_4
     try clear hcz19_0
     try clear hcz19_1
     try clear hcz19_2
     try clear hcz19_3
     try clear hcz19_4
     try clear hcz20_0
     try clear hcz20_1
     try clear hcz20_2
     try clear hcz20_3
     try clear hcz20_4
     try clear hcz22_0
     try clear hcz22_1
     try clear hcz22_2
     try clear hcz22_3
     try clear hcz22_4
     try clear hcz23_0
     try clear hcz23_1
     try clear hcz23_2
     try clear hcz23_3
     try clear hcz23_4
     try clear hcz25_0
     try clear hcz25_1
     try clear hcz25_2
     try clear hcz25_3
     try clear hcz25_4
     try clear hcz26_0
     try clear hcz26_1
     try clear hcz26_2
     try clear hcz26_3
     try clear hcz26_4
     try clear hfz13_0
     try clear hfz13_1
     try clear hfz13_2
     try clear hfz13_3
     try clear hfz13_4
     try clear hfz14_0
     try clear hfz14_1
     try clear hfz14_2
     try clear hfz14_3
     try clear hfz14_4
     try clear hfz16_0
     try clear hfz16_1
     try clear hfz16_2
     try clear hfz16_3
     try clear hfz16_4
     try clear hfz17_0
     try clear hfz17_1
     try clear hfz17_2
     try clear hfz17_3
     try clear hfz17_4
     try clear hfz19_0
     try clear hfz19_1
     try clear hfz19_2
     try clear hfz19_3
     try clear hfz19_4
     try clear hfz20_0
     try clear hfz20_1
     try clear hfz20_2
     try clear hfz20_3
     try clear hfz20_4
     try clear hfz22_0
     try clear hfz22_1
     try clear hfz22_2
     try clear hfz22_3
     try clear hfz22_4
     try clear hfz23_0
     try clear hfz23_1
     try clear hfz23_2
     try clear hfz23_3
     try clear hfz23_4
     try clear hfz25_0
     try clear hfz25_1
     try clear hfz25_2
     try clear hfz25_3
     try clear hfz25_4
     try clear hfz26_0
     try clear hfz26_1
     try clear hfz26_2
     try clear hfz26_3
     try clear hfz26_4
     try clear p2
     obtain ⟨x5_2, rfl, HA, HK2, BK40001, BK40002, HB⟩ := hrel
     cases gk with
     | zero => exact absurd HA.out (by simp [tinderref08_SameNode.l0])
     | succ k2 =>
      have H := HA.out
      clear HA
      simp only [tinderref08_SameNode.l0] at H
      by_cases c28 : x5_2 < (l0_3.length : Int)
      ·rw [if_pos c28] at H
       have c28b0 : decide (x5_2 < (l0_3.length : Int)) = true := decide_eq_true c28
       clear c28
       by_cases c29 : 0 ≤ x5_2
       ·rw [if_pos c29] at H
        have c29b0 : decide (0 ≤ x5_2) = true := decide_eq_true c29
        clear c29
        by_cases c30 : x5_2 < (l1_3.length : Int)
        ·rw [if_pos c30] at H
         have c30b0 : decide (x5_2 < (l1_3.length : Int)) = true := decide_eq_true c30
         clear c30
         by_cases c31 : ((rd_T53 l0_3 x5_2).f0).toList = ((rd_T53 l1_3 x5_2).f0).toList
         ·rw [if_pos c31] at H
          have c31b0 : (((rd_T53 l0_3 x5_2).f0).toList == ((rd_T53 l1_3 x5_2).f0).toList) = true := beq_iff_eq.mpr c31
          have c31b1 : (((rd_T53 l0_3 x5_2).f0).toList != ((rd_T53 l1_3 x5_2).f0).toList) = false := bne_eq_false_iff_eq.mpr c31
          clear c31
          replace H := Option.bind_eq_some_iff.mp H
          obtain ⟨t40009, A320, H⟩ := H
          replace H : (if t40009 = true then (tinderref08_SameNode.l0 k2 (wrap64 (x5_2 + 1)) a0_0 l0_1 a0_2 l0_3 l0_4 a1_0 l1_1 a1_2 l1_3 l1_4) else (some false)) = some r := H
          have A32 := Aside0.mk A320
          clear A320
          by_cases c33 : t40009 = true
          ·subst c33
           have H1 : (tinderref08_SameNode.l0 k2 (wrap64 (x5_2 + 1)) a0_0 l0_1 a0_2 l0_3 l0_4 a1_0 l1_1 a1_2 l1_3 l1_4) = some r := by rw [if_pos rfl] at H; exact H
           clear H
           have H := H1
           clear H1
           have H' := Aside0.mk H
           clear H
           have hnb34 := NB40001_40002.out
           have hnc34 := NB40002_40001.out
           have hcz35_0 : wr.cell? ⟨gb40001, 0, none⟩ = some (.string a0_0) := (blk_cell BK40001.out 0).trans rfl
           have hcz35_1 : wr.cell? ⟨gb40001, 1, none⟩ = some (.slice A0_1 l0_1.length c0_1) := (blk_cell BK40001.out 1).trans rfl
           have hcz35_2 : wr.cell? ⟨gb40001, 2, none⟩ = some (.int .i64 a0_2) := (blk_cell BK40001.out 2).trans rfl
           have hcz35_3 : wr.cell? ⟨gb40001, 3, none⟩ = some (.slice A0_3 l0_3.length c0_3) := (blk_cell BK40001.out 3).trans rfl
           have hcz35_4 : wr.cell? ⟨gb40001, 4, none⟩ = some (.slice A0_4 l0_4.length c0_4) := (blk_cell BK40001.out 4).trans rfl
           have hfz35_0 := blk_frozen BK40001.out 0
           have hfz35_1 := blk_frozen BK40001.out 1
           have hfz35_2 := blk_frozen BK40001.out 2
           have hfz35_3 := blk_frozen BK40001.out 3
           have hfz35_4 := blk_frozen BK40001.out 4
           have p40005 : 0 ≤ (x5_2 : Int) := of_decide_eq_true (by first | (with_reducible assumption) | assumption)
           have q40005 : x5_2 < (l0_3.length : Int) := of_decide_eq_true (by first | (with_reducible assumption) | assumption)
           obtain ⟨ad40005, A40005_1, c40005_1, e40005, hx40005_0, hx40005_1, hl40005_1, hi40005_1⟩ := at_T53 HR0_3.out x5_2 p40005 q40005
           cases e40005
           replace hx40005_0 := (HB.out.cell (World.block_lt_of_cell? w _ hx40005_0)).trans hx40005_0
           replace hx40005_1 := (HB.out.cell (World.block_lt_of_cell? w _ hx40005_1)).trans hx40005_1
           have HR40005_1 := Aside0.mk hi40005_1
           have HC40005_1 := Aside0.mk hl40005_1
           clear hi40005_1 hl40005_1
           replace p40005 := eq_true p40005
           replace q40005 := eq_true q40005
           have hcz36_0 : wr.cell? ⟨gb40002, 0, none⟩ = some (.string a1_0) := (blk_cell BK40002.out 0).trans rfl
           have hcz36_1 : wr.cell? ⟨gb40002, 1, none⟩ = some (.slice A1_1 l1_1.length c1_1) := (blk_cell BK40002.out 1).trans rfl
           have hcz36_2 : wr.cell? ⟨gb40002, 2, none⟩ = some (.int .i64 a1_2) := (blk_cell BK40002.out 2).trans rfl
           have hcz36_3 : wr.cell? ⟨gb40002, 3, none⟩ = some (.slice A1_3 l1_3.length c1_3) := (blk_cell BK40002.out 3).trans rfl
           have hcz36_4 : wr.cell? ⟨gb40002, 4, none⟩ = some (.slice A1_4 l1_4.length c1_4) := (blk_cell BK40002.out 4).trans rfl
           have hfz36_0 := blk_frozen BK40002.out 0
           have hfz36_1 := blk_frozen BK40002.out 1
           have hfz36_2 := blk_frozen BK40002.out 2
           have hfz36_3 := blk_frozen BK40002.out 3
           have hfz36_4 := blk_frozen BK40002.out 4
           have p40006 : 0 ≤ (x5_2 : Int) := of_decide_eq_true (by first | (with_reducible assumption) | assumption)
           have q40006 : x5_2 < (l1_3.length : Int) := of_decide_eq_true (by first | (with_reducible assumption) | assumption)
           obtain ⟨ad40006, A40006_1, c40006_1, e40006, hx40006_0, hx40006_1, hl40006_1, hi40006_1⟩ := at_T53 HR1_3.out x5_2 p40006 q40006
           cases e40006
           replace hx40006_0 := (HB.out.cell (World.block_lt_of_cell? w _ hx40006_0)).trans hx40006_0
           replace hx40006_1 := (HB.out.cell (World.block_lt_of_cell? w _ hx40006_1)).trans hx40006_1
           have HR40006_1 := Aside0.mk hi40006_1
           have HC40006_1 := Aside0.mk hl40006_1
           clear hi40006_1 hl40006_1
           replace p40006 := eq_true p40006
           replace q40006 := eq_true q40006
           have p40007 : 0 ≤ (x5_2 : Int) := of_decide_eq_true (by first | (with_reducible assumption) | assumption)
           have q40007 : x5_2 < (l0_3.length : Int) := of_decide_eq_true (by first | (with_reducible assumption) | assumption)
           obtain ⟨ad40007, A40007_1, c40007_1, e40007, hx40007_0, hx40007_1, hl40007_1, hi40007_1⟩ := at_T53 HR0_3.out x5_2 p40007 q40007
           obtain rfl : ad40005 = ad40007 := (by injection e40007)
           replace hx40007_0 := (HB.out.cell (World.block_lt_of_cell? w _ hx40007_0)).trans hx40007_0
           replace hx40007_1 := (HB.out.cell (World.block_lt_of_cell? w _ hx40007_1)).trans hx40007_1
           have HR40007_1 := Aside0.mk hi40007_1
           have HC40007_1 := Aside0.mk hl40007_1
           clear hi40007_1 hl40007_1
           replace p40007 := eq_true p40007
           replace q40007 := eq_true q40007
           have ea_ := Option.some.inj (hx40005_1.symm.trans hx40007_1)
           injection ea_ with ea_ en_ ec_
           subst ea_
           subst ec_
           clear en_
           have p40008 : 0 ≤ (x5_2 : Int) := of_decide_eq_true (by first | (with_reducible assumption) | assumption)
           have q40008 : x5_2 < (l1_3.length : Int) := of_decide_eq_true (by first | (with_reducible assumption) | assumption)
           obtain ⟨ad40008, A40008_1, c40008_1, e40008, hx40008_0, hx40008_1, hl40008_1, hi40008_1⟩ := at_T53 HR1_3.out x5_2 p40008 q40008
           obtain rfl : ad40006 = ad40008 := (by injection e40008)
           replace hx40008_0 := (HB.out.cell (World.block_lt_of_cell? w _ hx40008_0)).trans hx40008_0
           replace hx40008_1 := (HB.out.cell (World.block_lt_of_cell? w _ hx40008_1)).trans hx40008_1
           have HR40008_1 := Aside0.mk hi40008_1
           have HC40008_1 := Aside0.mk hl40008_1
           clear hi40008_1 hl40008_1
           replace p40008 := eq_true p40008
           replace q40008 := eq_true q40008
           have ea_ := Option.some.inj (hx40006_1.symm.trans hx40008_1)
           injection ea_ with ea_ en_ ec_
           subst ea_
           subst ec_
           clear en_
           go_wp2_with (first | (go_at_call 31; (with_reducible refine (tinderref04_Same.calls _ _ ((rd_T53 l0_3 x5_2).f1) _ _ ((rd_T53 l1_3 x5_2).f1) true _ ?side1 ?side2 ?side3 ?side4 A32.out).mono ?_); (case side1 => repeat (first | exact (Kd.C_below HR40007_1.out HB.out) | (with_reducible refine Kd.C_alloc ?_ _) | (with_reducible refine Kd.C_drewN ?_ _) | (with_reducible refine Kd.C_drew ?_))); (case side2 => exact HC40007_1.out); (case side3 => repeat (first | exact (Kd.C_below HR40008_1.out HB.out) | (with_reducible refine Kd.C_alloc ?_ _) | (with_reducible refine Kd.C_drewN ?_ _) | (with_reducible refine Kd.C_drew ?_))); (case side4 => exact HC40008_1.out); rintro e w' ⟨rfl, ⟨nd, rfl⟩⟩; (try first | exact ⟨rfl, _, World.drewN_drewN _ _ _⟩ | exact ⟨rfl, _, Eq.trans (World.drewN_drewN _ _ _) (congrArg (World.drewN _) (Nat.add_assoc _ _ _))⟩)))
           repeat (go_quiet (first | (go_at_call 31; (with_reducible refine (tinderref04_Same.calls _ _ ((rd_T53 l0_3 x5_2).f1) _ _ ((rd_T53 l1_3 x5_2).f1) true _ ?side1 ?side2 ?side3 ?side4 A32.out).mono ?_); (case side1 => repeat (first | exact (Kd.C_below HR40007_1.out HB.out) | (with_reducible refine Kd.C_alloc ?_ _) | (with_reducible refine Kd.C_drewN ?_ _) | (with_reducible refine Kd.C_drew ?_))); (case side2 => exact HC40007_1.out); (case side3 => repeat (first | exact (Kd.C_below HR40008_1.out HB.out) | (with_reducible refine Kd.C_alloc ?_ _) | (with_reducible refine Kd.C_drewN ?_ _) | (with_reducible refine Kd.C_drew ?_))); (case side4 => exact HC40008_1.out); rintro e w' ⟨rfl, ⟨nd, rfl⟩⟩; (try first | exact ⟨rfl, _, World.drewN_drewN _ _ _⟩ | exact ⟨rfl, _, Eq.trans (World.drewN_drewN _ _ _) (congrArg (World.drewN _) (Nat.add_assoc _ _ _))⟩))); try go_wp2_with (first | (go_at_call 31; (with_reducible refine (tinderref04_Same.calls _ _ ((rd_T53 l0_3 x5_2).f1) _ _ ((rd_T53 l1_3 x5_2).f1) true _ ?side1 ?side2 ?side3 ?side4 A32.out).mono ?_); (case side1 => repeat (first | exact (Kd.C_below HR40007_1.out HB.out) | (with_reducible refine Kd.C_alloc ?_ _) | (with_reducible refine Kd.C_drewN ?_ _) | (with_reducible refine Kd.C_drew ?_))); (case side2 => exact HC40007_1.out); (case side3 => repeat (first | exact (Kd.C_below HR40008_1.out HB.out) | (with_reducible refine Kd.C_alloc ?_ _) | (with_reducible refine Kd.C_drewN ?_ _) | (with_reducible refine Kd.C_drew ?_))); (case side4 => exact HC40008_1.out); rintro e w' ⟨rfl, ⟨nd, rfl⟩⟩; (try first | exact ⟨rfl, _, World.drewN_drewN _ _ _⟩ | exact ⟨rfl, _, Eq.trans (World.drewN_drewN _ _ _) (congrArg (World.drewN _) (Nat.add_assoc _ _ _))⟩))))
           go_roundg k2
           case measure => have := HJ2.out; have := HK2.out; omega
           case rel => exact ⟨(wrap64 (x5_2 + 1)), (by first | rfl | (simp; done) | (simp [*]; done)), H', ⟨by have := HJ2.out; have := HK2.out; omega⟩, ⟨by (with_reducible repeat (first | refine blk_drewN ?_ _ | refine blk_drew ?_ | refine blk_alloc ?_ _)); exact BK40001.out⟩, ⟨by (with_reducible repeat (first | refine blk_drewN ?_ _ | refine blk_drew ?_ | refine blk_alloc ?_ _)); exact BK40002.out⟩, ⟨by repeat (first | (with_reducible first | exact HB.out | apply below_alloc | apply pw_below_drewN | apply below_drew1 | refine below_set ?_ GE40001.out | refine below_set ?_ GE40002.out) | exact HB.out)⟩⟩
          ·replace c33 := Bool.eq_false_iff.mpr c33
           subst c33
           have H1 : (some false) = some r := by rw [if_neg (show ¬ (false = true) by decide)] at H; exact H
           clear H
           have H := H1
           clear H1
           obtain rfl := Option.some.inj H
           have hnb37 := NB40001_40002.out
           have hnc37 := NB40002_40001.out
           have hcz38_0 : wr.cell? ⟨gb40001, 0, none⟩ = some (.string a0_0) := (blk_cell BK40001.out 0).trans rfl
           have hcz38_1 : wr.cell? ⟨gb40001, 1, none⟩ = some (.slice A0_1 l0_1.length c0_1) := (blk_cell BK40001.out 1).trans rfl
           have hcz38_2 : wr.cell? ⟨gb40001, 2, none⟩ = some (.int .i64 a0_2) := (blk_cell BK40001.out 2).trans rfl
           have hcz38_3 : wr.cell? ⟨gb40001, 3, none⟩ = some (.slice A0_3 l0_3.length c0_3) := (blk_cell BK40001.out 3).trans rfl
           have hcz38_4 : wr.cell? ⟨gb40001, 4, none⟩ = some (.slice A0_4 l0_4.length c0_4) := (blk_cell BK40001.out 4).trans rfl
           have hfz38_0 := blk_frozen BK40001.out 0
           have hfz38_1 := blk_frozen BK40001.out 1
           have hfz38_2 := blk_frozen BK40001.out 2
           have hfz38_3 := blk_frozen BK40001.out 3
           have hfz38_4 := blk_frozen BK40001.out 4
           have p40005 : 0 ≤ (x5_2 : Int) := of_decide_eq_true (by first | (with_reducible assumption) | assumption)
           have q40005 : x5_2 < (l0_3.length : Int) := of_decide_eq_true (by first | (with_reducible assumption) | assumption)
           obtain ⟨ad40005, A40005_1, c40005_1, e40005, hx40005_0, hx40005_1, hl40005_1, hi40005_1⟩ := at_T53 HR0_3.out x5_2 p40005 q40005
           cases e40005
           replace hx40005_0 := (HB.out.cell (World.block_lt_of_cell? w _ hx40005_0)).trans hx40005_0
           replace hx40005_1 := (HB.out.cell (World.block_lt_of_cell? w _ hx40005_1)).trans hx40005_1
           have HR40005_1 := Aside0.mk hi40005_1
           have HC40005_1 := Aside0.mk hl40005_1
           clear hi40005_1 hl40005_1
           replace p40005 := eq_true p40005
           replace q40005 := eq_true q40005
           have hcz39_0 : wr.cell? ⟨gb40002, 0, none⟩ = some (.string a1_0) := (blk_cell BK40002.out 0).trans rfl
           have hcz39_1 : wr.cell? ⟨gb40002, 1, none⟩ = some (.slice A1_1 l1_1.length c1_1) := (blk_cell BK40002.out 1).trans rfl
           have hcz39_2 : wr.cell? ⟨gb40002, 2, none⟩ = some (.int .i64 a1_2) := (blk_cell BK40002.out 2).trans rfl
           have hcz39_3 : wr.cell? ⟨gb40002, 3, none⟩ = some (.slice A1_3 l1_3.length c1_3) := (blk_cell BK40002.out 3).trans rfl
           have hcz39_4 : wr.cell? ⟨gb40002, 4, none⟩ = some (.slice A1_4 l1_4.length c1_4) := (blk_cell BK40002.out 4).trans rfl
           have hfz39_0 := blk_frozen BK40002.out 0
           have hfz39_1 := blk_frozen BK40002.out 1
           have hfz39_2 := blk_frozen BK40002.out 2
           have hfz39_3 := blk_frozen BK40002.out 3
           have hfz39_4 := blk_frozen BK40002.out 4
           have p40006 : 0 ≤ (x5_2 : Int) := of_decide_eq_true (by first | (with_reducible assumption) | assumption)
           have q40006 : x5_2 < (l1_3.length : Int) := of_decide_eq_true (by first | (with_reducible assumption) | assumption)
           obtain ⟨ad40006, A40006_1, c40006_1, e40006, hx40006_0, hx40006_1, hl40006_1, hi40006_1⟩ := at_T53 HR1_3.out x5_2 p40006 q40006
           cases e40006
           replace hx40006_0 := (HB.out.cell (World.block_lt_of_cell? w _ hx40006_0)).trans hx40006_0
           replace hx40006_1 := (HB.out.cell (World.block_lt_of_cell? w _ hx40006_1)).trans hx40006_1
           have HR40006_1 := Aside0.mk hi40006_1
           have HC40006_1 := Aside0.mk hl40006_1
           clear hi40006_1 hl40006_1
           replace p40006 := eq_true p40006
           replace q40006 := eq_true q40006
           have p40007 : 0 ≤ (x5_2 : Int) := of_decide_eq_true (by first | (with_reducible assumption) | assumption)
           have q40007 : x5_2 < (l0_3.length : Int) := of_decide_eq_true (by first | (with_reducible assumption) | assumption)
           obtain ⟨ad40007, A40007_1, c40007_1, e40007, hx40007_0, hx40007_1, hl40007_1, hi40007_1⟩ := at_T53 HR0_3.out x5_2 p40007 q40007
           obtain rfl : ad40005 = ad40007 := (by injection e40007)
           replace hx40007_0 := (HB.out.cell (World.block_lt_of_cell? w _ hx40007_0)).trans hx40007_0
           replace hx40007_1 := (HB.out.cell (World.block_lt_of_cell? w _ hx40007_1)).trans hx40007_1
           have HR40007_1 := Aside0.mk hi40007_1
           have HC40007_1 := Aside0.mk hl40007_1
           clear hi40007_1 hl40007_1
           replace p40007 := eq_true p40007
           replace q40007 := eq_true q40007
           have ea_ := Option.some.inj (hx40005_1.symm.trans hx40007_1)
           injection ea_ with ea_ en_ ec_
           subst ea_
           subst ec_
           clear en_
           have p40008 : 0 ≤ (x5_2 : Int) := of_decide_eq_true (by first | (with_reducible assumption) | assumption)
           have q40008 : x5_2 < (l1_3.length : Int) := of_decide_eq_true (by first | (with_reducible assumption) | assumption)
           obtain ⟨ad40008, A40008_1, c40008_1, e40008, hx40008_0, hx40008_1, hl40008_1, hi40008_1⟩ := at_T53 HR1_3.out x5_2 p40008 q40008
           obtain rfl : ad40006 = ad40008 := (by injection e40008)
           replace hx40008_0 := (HB.out.cell (World.block_lt_of_cell? w _ hx40008_0)).trans hx40008_0
           replace hx40008_1 := (HB.out.cell (World.block_lt_of_cell? w _ hx40008_1)).trans hx40008_1
           have HR40008_1 := Aside0.mk hi40008_1
           have HC40008_1 := Aside0.mk hl40008_1
           clear hi40008_1 hl40008_1
           replace p40008 := eq_true p40008
           replace q40008 := eq_true q40008
           have ea_ := Option.some.inj (hx40006_1.symm.trans hx40008_1)
           injection ea_ with ea_ en_ ec_
           subst ea_
           subst ec_
           clear en_
           go_wp2_with (first | (go_at_call 31; (with_reducible refine (tinderref04_Same.calls _ _ ((rd_T53 l0_3 x5_2).f1) _ _ ((rd_T53 l1_3 x5_2).f1) false _ ?side1 ?side2 ?side3 ?side4 A32.out).mono ?_); (case side1 => repeat (first | exact (Kd.C_below HR40007_1.out HB.out) | (with_reducible refine Kd.C_alloc ?_ _) | (with_reducible refine Kd.C_drewN ?_ _) | (with_reducible refine Kd.C_drew ?_))); (case side2 => exact HC40007_1.out); (case side3 => repeat (first | exact (Kd.C_below HR40008_1.out HB.out) | (with_reducible refine Kd.C_alloc ?_ _) | (with_reducible refine Kd.C_drewN ?_ _) | (with_reducible refine Kd.C_drew ?_))); (case side4 => exact HC40008_1.out); rintro e w' ⟨rfl, ⟨nd, rfl⟩⟩; (try first | exact ⟨rfl, _, World.drewN_drewN _ _ _⟩ | exact ⟨rfl, _, Eq.trans (World.drewN_drewN _ _ _) (congrArg (World.drewN _) (Nat.add_assoc _ _ _))⟩)))
           repeat (go_quiet (first | (go_at_call 31; (with_reducible refine (tinderref04_Same.calls _ _ ((rd_T53 l0_3 x5_2).f1) _ _ ((rd_T53 l1_3 x5_2).f1) false _ ?side1 ?side2 ?side3 ?side4 A32.out).mono ?_); (case side1 => repeat (first | exact (Kd.C_below HR40007_1.out HB.out) | (with_reducible refine Kd.C_alloc ?_ _) | (with_reducible refine Kd.C_drewN ?_ _) | (with_reducible refine Kd.C_drew ?_))); (case side2 => exact HC40007_1.out); (case side3 => repeat (first | exact (Kd.C_below HR40008_1.out HB.out) | (with_reducible refine Kd.C_alloc ?_ _) | (with_reducible refine Kd.C_drewN ?_ _) | (with_reducible refine Kd.C_drew ?_))); (case side4 => exact HC40008_1.out); rintro e w' ⟨rfl, ⟨nd, rfl⟩⟩; (try first | exact ⟨rfl, _, World.drewN_drewN _ _ _⟩ | exact ⟨rfl, _, Eq.trans (World.drewN_drewN _ _ _) (congrArg (World.drewN _) (Nat.add_assoc _ _ _))⟩))); try go_wp2_with (first | (go_at_call 31; (with_reducible refine (tinderref04_Same.calls _ _ ((rd_T53 l0_3 x5_2).f1) _ _ ((rd_T53 l1_3 x5_2).f1) false _ ?side1 ?side2 ?side3 ?side4 A32.out).mono ?_); (case side1 => repeat (first | exact (Kd.C_below HR40007_1.out HB.out) | (with_reducible refine Kd.C_alloc ?_ _) | (with_reducible refine Kd.C_drewN ?_ _) | (with_reducible refine Kd.C_drew ?_))); (case side2 => exact HC40007_1.out); (case side3 => repeat (first | exact (Kd.C_below HR40008_1.out HB.out) | (with_reducible refine Kd.C_alloc ?_ _) | (with_reducible refine Kd.C_drewN ?_ _) | (with_reducible refine Kd.C_drew ?_))); (case side4 => exact HC40008_1.out); rintro e w' ⟨rfl, ⟨nd, rfl⟩⟩; (try first | exact ⟨rfl, _, World.drewN_drewN _ _ _⟩ | exact ⟨rfl, _, Eq.trans (World.drewN_drewN _ _ _) (congrArg (World.drewN _) (Nat.add_assoc _ _ _))⟩))))
           go_ret
           exact ⟨by first | rfl | (simp [errW_none, errW_some] <;> rfl) | (simp [*, errW_none, errW_some] <;> rfl), by repeat (first | (with_reducible first | exact HB.out | apply below_alloc | apply pw_below_drewN | apply below_drew1 | refine below_set ?_ GE40001.out | refine below_set ?_ GE40002.out) | exact HB.out)⟩
         ·rw [if_neg c31] at H
          have c31b0 : (((rd_T53 l0_3 x5_2).f0).toList == ((rd_T53 l1_3 x5_2).f0).toList) = false := beq_eq_false_iff_ne.mpr c31
          have c31b1 : (((rd_T53 l0_3 x5_2).f0).toList != ((rd_T53 l1_3 x5_2).f0).toList) = true := bne_iff_ne.mpr c31
          obtain rfl := Option.some.inj H
          have hnb40 := NB40001_40002.out
          have hnc40 := NB40002_40001.out
          have hcz41_0 : wr.cell? ⟨gb40001, 0, none⟩ = some (.string a0_0) := (blk_cell BK40001.out 0).trans rfl
          have hcz41_1 : wr.cell? ⟨gb40001, 1, none⟩ = some (.slice A0_1 l0_1.length c0_1) := (blk_cell BK40001.out 1).trans rfl
          have hcz41_2 : wr.cell? ⟨gb40001, 2, none⟩ = some (.int .i64 a0_2) := (blk_cell BK40001.out 2).trans rfl
          have hcz41_3 : wr.cell? ⟨gb40001, 3, none⟩ = some (.slice A0_3 l0_3.length c0_3) := (blk_cell BK40001.out 3).trans rfl
          have hcz41_4 : wr.cell? ⟨gb40001, 4, none⟩ = some (.slice A0_4 l0_4.length c0_4) := (blk_cell BK40001.out 4).trans rfl
          have hfz41_0 := blk_frozen BK40001.out 0
          have hfz41_1 := blk_frozen BK40001.out 1
          have hfz41_2 := blk_frozen BK40001.out 2
          have hfz41_3 := blk_frozen BK40001.out 3
          have hfz41_4 := blk_frozen BK40001.out 4
          have p40005 : 0 ≤ (x5_2 : Int) := of_decide_eq_true (by first | (with_reducible assumption) | assumption)
          have q40005 : x5_2 < (l0_3.length : Int) := of_decide_eq_true (by first | (with_reducible assumption) | assumption)
          obtain ⟨ad40005, A40005_1, c40005_1, e40005, hx40005_0, hx40005_1, hl40005_1, hi40005_1⟩ := at_T53 HR0_3.out x5_2 p40005 q40005
          cases e40005
          replace hx40005_0 := (HB.out.cell (World.block_lt_of_cell? w _ hx40005_0)).trans hx40005_0
          replace hx40005_1 := (HB.out.cell (World.block_lt_of_cell? w _ hx40005_1)).trans hx40005_1
          have HR40005_1 := Aside0.mk hi40005_1
          have HC40005_1 := Aside0.mk hl40005_1
          clear hi40005_1 hl40005_1
          replace p40005 := eq_true p40005
          replace q40005 := eq_true q40005
          have hcz42_0 : wr.cell? ⟨gb40002, 0, none⟩ = some (.string a1_0) := (blk_cell BK40002.out 0).trans rfl
          have hcz42_1 : wr.cell? ⟨gb40002, 1, none⟩ = some (.slice A1_1 l1_1.length c1_1) := (blk_cell BK40002.out 1).trans rfl
          have hcz42_2 : wr.cell? ⟨gb40002, 2, none⟩ = some (.int .i64 a1_2) := (blk_cell BK40002.out 2).trans rfl
          have hcz42_3 : wr.cell? ⟨gb40002, 3, none⟩ = some (.slice A1_3 l1_3.length c1_3) := (blk_cell BK40002.out 3).trans rfl
          have hcz42_4 : wr.cell? ⟨gb40002, 4, none⟩ = some (.slice A1_4 l1_4.length c1_4) := (blk_cell BK40002.out 4).trans rfl
          have hfz42_0 := blk_frozen BK40002.out 0
          have hfz42_1 := blk_frozen BK40002.out 1
          have hfz42_2 := blk_frozen BK40002.out 2
          have hfz42_3 := blk_frozen BK40002.out 3
          have hfz42_4 := blk_frozen BK40002.out 4
          have p40006 : 0 ≤ (x5_2 : Int) := of_decide_eq_true (by first | (with_reducible assumption) | assumption)
          have q40006 : x5_2 < (l1_3.length : Int) := of_decide_eq_true (by first | (with_reducible assumption) | assumption)
          obtain ⟨ad40006, A40006_1, c40006_1, e40006, hx40006_0, hx40006_1, hl40006_1, hi40006_1⟩ := at_T53 HR1_3.out x5_2 p40006 q40006
          cases e40006
          replace hx40006_0 := (HB.out.cell (World.block_lt_of_cell? w _ hx40006_0)).trans hx40006_0
          replace hx40006_1 := (HB.out.cell (World.block_lt_of_cell? w _ hx40006_1)).trans hx40006_1
          have HR40006_1 := Aside0.mk hi40006_1
          have HC40006_1 := Aside0.mk hl40006_1
          clear hi40006_1 hl40006_1
          replace p40006 := eq_true p40006
          replace q40006 := eq_true q40006
          go_wp2
          repeat (go_quiet (fail); try go_wp2)
          go_ret
          exact ⟨by first | rfl | (simp [errW_none, errW_some] <;> rfl) | (simp [*, errW_none, errW_some] <;> rfl), by repeat (first | (with_reducible first | exact HB.out | apply below_alloc | apply pw_below_drewN | apply below_drew1 | refine below_set ?_ GE40001.out | refine below_set ?_ GE40002.out) | exact HB.out)⟩
        ·rw [if_neg c30] at H
         exact absurd H (by simp)
       ·rw [if_neg c29] at H
        exact absurd H (by simp)
      ·rw [if_neg c28] at H
       have c28b0 : decide (x5_2 < (l0_3.length : Int)) = false := decide_eq_false c28
       clear c28
       obtain rfl := Option.some.inj H
       have hnb43 := NB40001_40002.out
       have hnc43 := NB40002_40001.out
       have hcz44_0 : wr.cell? ⟨gb40001, 0, none⟩ = some (.string a0_0) := (blk_cell BK40001.out 0).trans rfl
       have hcz44_1 : wr.cell? ⟨gb40001, 1, none⟩ = some (.slice A0_1 l0_1.length c0_1) := (blk_cell BK40001.out 1).trans rfl
       have hcz44_2 : wr.cell? ⟨gb40001, 2, none⟩ = some (.int .i64 a0_2) := (blk_cell BK40001.out 2).trans rfl
       have hcz44_3 : wr.cell? ⟨gb40001, 3, none⟩ = some (.slice A0_3 l0_3.length c0_3) := (blk_cell BK40001.out 3).trans rfl
       have hcz44_4 : wr.cell? ⟨gb40001, 4, none⟩ = some (.slice A0_4 l0_4.length c0_4) := (blk_cell BK40001.out 4).trans rfl
       have hfz44_0 := blk_frozen BK40001.out 0
       have hfz44_1 := blk_frozen BK40001.out 1
       have hfz44_2 := blk_frozen BK40001.out 2
       have hfz44_3 := blk_frozen BK40001.out 3
       have hfz44_4 := blk_frozen BK40001.out 4
       go_wp2
       repeat (go_quiet (fail); try go_wp2)
       go_ret
       exact ⟨by first | rfl | (simp [errW_none, errW_some] <;> rfl) | (simp [*, errW_none, errW_some] <;> rfl), by repeat (first | (with_reducible first | exact HB.out | apply below_alloc | apply pw_below_drewN | apply below_drew1 | refine below_set ?_ GE40001.out | refine below_set ?_ GE40002.out) | exact HB.out)⟩

end Go.Proofs.YtnalcjgefbelnaaDoor.Q
end
section
namespace Go.Proofs.YtnalcjgefbelnaaDoor.Q
open Go.RowKit Go.Proofs.YtnalcjgefbelnaaDoorW.PrintWords Go.Proofs.YtnalcjgefbelnaaDoorW.PrintLast Go.Proofs.YtnalcjgefbelnaaDoorW.PrintMore
set_option linter.unusedVariables false
set_option linter.unusedSimpArgs false

attribute [local go_sem] max2_int min2_int max_two min_two max_three min_three max_four min_four
/-! ### tinderref08_Same: function 14 -/
def tinderref08_Same.l0 : Nat → List (S44) → List (S44) → Int → Option (Bool)
 | 0, _, _, _ => none
 | k + 1, x0, x1, x5 => if x5 < (x0.length : Int) then (if 0 ≤ x5 then (if x5 < (x1.length : Int) then ((tinderref08_SameNode.f k ((rd_T44 x0 x5).f0) ((rd_T44 x0 x5).f1) ((rd_T44 x0 x5).f2) ((rd_T44 x0 x5).f3) ((rd_T44 x0 x5).f4) ((rd_T44 x1 x5).f0) ((rd_T44 x1 x5).f1) ((rd_T44 x1 x5).f2) ((rd_T44 x1 x5).f3) ((rd_T44 x1 x5).f4)).bind fun t15003 => (if t15003 = true then (tinderref08_Same.l0 k x0 x1 (wrap64 (x5 + 1))) else (some false))) else (none)) else (none)) else (some true)
def tinderref08_Same.f (k : Nat) (l0 : List (S44)) (l1 : List (S44)) : Option (Bool) := if (l0.length : Int) = (l1.length : Int) then (tinderref08_Same.l0 k l0 l1 0) else (some false)
def tinderref08_Same.T6 : Bool × List (List Nat × List Nat) := (true, [([], []), ([], []), ([0, 1], [0, 1]), ([2], [2]), ([], []), ([], []), ([4, 5], [4, 5]), ([6], [6]), ([3, 7], [3, 7]), ([8], [8])])
def tinderref08_Same.B6 : List Nat := [0, 0, 3, 7, 0, 0, 48, 112, 255, 511]
theorem tinderref08_Same.tab6 : rtab .any (opsOf Tryd.f14 6) = tinderref08_Same.T6 := by kernel_rfl
theorem tinderref08_Same.bits6 : waitsOk tinderref08_Same.T6.2 tinderref08_Same.B6 = true := by kernel_rfl
set_option maxHeartbeats 8000000 in
set_option maxRecDepth 100000 in
theorem tinderref08_Same.calls (k : Nat) (A0 : Option Addr) (c0 : Nat) (l0 : List (S44)) (A1 : Option Addr) (c1 : Nat) (l1 : List (S44)) (r : Bool) (w : World) (hr0 : Kd.C k44 w A0 l0.length l0) (hc0 : l0.length ≤ c0) (hr1 : Kd.C k44 w A1 l1.length l1) (hc1 : l1.length ≤ c1) (h : tinderref08_Same.f k l0 l1 = some r) :
  Calls Tryd.prog 14 #[.slice A0 l0.length c0, .slice A1 l1.length c1] w fun e w' => e = .returned (.bool r) ∧ Below w.heap.size w w' := by
 have hu44 := Tryd.underlying44
 have HR0 := Aside0.mk hr0
 have HC0 := Aside0.mk hc0
 clear hr0 hc0
 have HR1 := Aside0.mk hr1
 have HC1 := Aside0.mk hc1
 clear hr1 hc1
 have HB := Aside0.mk (Below.refl w.heap.size w)
 have H : (if (l0.length : Int) = (l1.length : Int) then (tinderref08_Same.l0 k l0 l1 0) else (some false)) = some r := h
 clear h
 by_cases c3 : (l0.length : Int) = (l1.length : Int)
 ·rw [if_pos c3] at H
  have c3b0 : ((l0.length : Int) == (l1.length : Int)) = true := beq_iff_eq.mpr c3
  have c3b1 : ((l0.length : Int) != (l1.length : Int)) = false := bne_eq_false_iff_eq.mpr c3
  have c3b2 : (l0.length == l1.length) = true := by first | simpa using c3 | (simp at c3 ⊢; omega)
  clear c3
  have H' := Aside0.mk H
  clear H
  go_enter Tryd.func14, Tryd.ntmps14
  go_wp2
  go_loopg [5] k (fun kq v5 w' => ∃ (x5_1 : Int), v5 = .int .i64 x5_1 ∧ Aside0 (tinderref08_Same.l0 kq l0 l1 x5_1 = some r) ∧ Aside0 (kq ≤ k) ∧ Aside0 (Below w.heap.size w w'))
  case atStart => exact ⟨(0), (by first | rfl | (simp; done) | (simp [*]; done)), H', ⟨Nat.le_refl _⟩, ⟨by repeat (first | (with_reducible first | exact HB.out | apply below_alloc | apply pw_below_drewN | apply below_drew1) | exact HB.out)⟩⟩
  case round =>
   clear H'
   try clear c1
   try clear p2
   try clear c3
   try clear c3b0
   try clear c3b1
   try clear c3b2
   obtain ⟨x5_1, rfl, HA, HK1, HB⟩ := hrel
   cases gk with
   | zero => exact absurd HA.out (by simp [tinderref08_Same.l0])
   | succ k1 =>
    have H := HA.out
    clear HA
    simp only [tinderref08_Same.l0] at H
    by_cases c4 : x5_1 < (l0.length : Int)
    ·rw [if_pos c4] at H
     have c4b0 : decide (x5_1 < (l0.length : Int)) = true := decide_eq_true c4
     clear c4
     by_cases c5 : 0 ≤ x5_1
     ·rw [if_pos c5] at H
      have c5b0 : decide (0 ≤ x5_1) = true := decide_eq_true c5
      clear c5
      by_cases c6 : x5_1 < (l1.length : Int)
      ·rw [if_pos c6] at H
       have c6b0 : decide (x5_1 < (l1.length : Int)) = true := decide_eq_true c6
       clear c6
       replace H := Option.bind_eq_some_iff.mp H
       obtain ⟨t15003, A70, H⟩ := H
       replace H : (if t15003 = true then (tinderref08_Same.l0 k1 l0 l1 (wrap64 (x5_1 + 1))) else (some false)) = some r := H
       have A7 := Aside0.mk A70
       clear A70
       by_cases c8 : t15003 = true
       ·subst c8
        have H1 : (tinderref08_Same.l0 k1 l0 l1 (wrap64 (x5_1 + 1))) = some r := by rw [if_pos rfl] at H; exact H
        clear H
        have H := H1
        clear H1
        have H' := Aside0.mk H
        clear H
        try go_wp2
        have n0_ := Aside0.mk (below_drew1 HB.out)
        clear HB
        have HB := n0_
        clear n0_
        have p15001 : 0 ≤ (x5_1 : Int) := of_decide_eq_true (by first | (with_reducible assumption) | assumption)
        have q15001 : x5_1 < (l0.length : Int) := of_decide_eq_true (by first | (with_reducible assumption) | assumption)
        obtain ⟨ad15001, A15001_1, c15001_1, A15001_3, c15001_3, A15001_4, c15001_4, e15001, hx15001_0, hx15001_1, hx15001_2, hx15001_3, hx15001_4, hl15001_1, hi15001_1, hl15001_3, hi15001_3, hl15001_4, hi15001_4⟩ := at_T44 HR0.out x5_1 p15001 q15001
        have hw15001_4 := hx15001_4
        have hw15001_3 := hx15001_3
        have hw15001_2 := hx15001_2
        have hw15001_1 := hx15001_1
        have hw15001_0 := hx15001_0
        cases e15001
        replace hx15001_0 := (HB.out.cell (World.block_lt_of_cell? w _ hx15001_0)).trans hx15001_0
        replace hx15001_1 := (HB.out.cell (World.block_lt_of_cell? w _ hx15001_1)).trans hx15001_1
        replace hx15001_2 := (HB.out.cell (World.block_lt_of_cell? w _ hx15001_2)).trans hx15001_2
        replace hx15001_3 := (HB.out.cell (World.block_lt_of_cell? w _ hx15001_3)).trans hx15001_3
        replace hx15001_4 := (HB.out.cell (World.block_lt_of_cell? w _ hx15001_4)).trans hx15001_4
        have HR15001_1 := Aside0.mk hi15001_1
        have HC15001_1 := Aside0.mk hl15001_1
        clear hi15001_1 hl15001_1
        have HR15001_3 := Aside0.mk hi15001_3
        have HC15001_3 := Aside0.mk hl15001_3
        clear hi15001_3 hl15001_3
        have HR15001_4 := Aside0.mk hi15001_4
        have HC15001_4 := Aside0.mk hl15001_4
        clear hi15001_4 hl15001_4
        replace p15001 := eq_true p15001
        replace q15001 := eq_true q15001
        have p15002 : 0 ≤ (x5_1 : Int) := of_decide_eq_true (by first | (with_reducible assumption) | assumption)
        have q15002 : x5_1 < (l1.length : Int) := of_decide_eq_true (by first | (with_reducible assumption) | assumption)
        obtain ⟨ad15002, A15002_1, c15002_1, A15002_3, c15002_3, A15002_4, c15002_4, e15002, hx15002_0, hx15002_1, hx15002_2, hx15002_3, hx15002_4, hl15002_1, hi15002_1, hl15002_3, hi15002_3, hl15002_4, hi15002_4⟩ := at_T44 HR1.out x5_1 p15002 q15002
        have hw15002_4 := hx15002_4
        have hw15002_3 := hx15002_3
        have hw15002_2 := hx15002_2
        have hw15002_1 := hx15002_1
        have hw15002_0 := hx15002_0
        cases e15002
        replace hx15002_0 := (HB.out.cell (World.block_lt_of_cell? w _ hx15002_0)).trans hx15002_0
        replace hx15002_1 := (HB.out.cell (World.block_lt_of_cell? w _ hx15002_1)).trans hx15002_1
        replace hx15002_2 := (HB.out.cell (World.block_lt_of_cell? w _ hx15002_2)).trans hx15002_2
        replace hx15002_3 := (HB.out.cell (World.block_lt_of_cell? w _ hx15002_3)).trans hx15002_3
        replace hx15002_4 := (HB.out.cell (World.block_lt_of_cell? w _ hx15002_4)).trans hx15002_4
        have HR15002_1 := Aside0.mk hi15002_1
        have HC15002_1 := Aside0.mk hl15002_1
        clear hi15002_1 hl15002_1
        have HR15002_3 := Aside0.mk hi15002_3
        have HC15002_3 := Aside0.mk hl15002_3
        clear hi15002_3 hl15002_3
        have HR15002_4 := Aside0.mk hi15002_4
        have HC15002_4 := Aside0.mk hl15002_4
        clear hi15002_4 hl15002_4
        replace p15002 := eq_true p15002
        replace q15002 := eq_true q15002
        refine start_ (n := 10) (S := fun w' => w'.cell? (ad15001.add ((x5_1).toNat * 5)) = some (.string ((rd_T44 l0 x5_1).f0)) ∧ w'.cell? ⟨(ad15001.add ((x5_1).toNat * 5)).block, (ad15001.add ((x5_1).toNat * 5)).off + 1, none⟩ = some (.slice A15001_1 ((rd_T44 l0 x5_1).f1).length c15001_1) ∧ w'.cell? ⟨(ad15001.add ((x5_1).toNat * 5)).block, (ad15001.add ((x5_1).toNat * 5)).off + 2, none⟩ = some (.int .i64 ((rd_T44 l0 x5_1).f2)) ∧ w'.cell? ⟨(ad15001.add ((x5_1).toNat * 5)).block, (ad15001.add ((x5_1).toNat * 5)).off + 3, none⟩ = some (.slice A15001_3 ((rd_T44 l0 x5_1).f3).length c15001_3) ∧ w'.cell? ⟨(ad15001.add ((x5_1).toNat * 5)).block, (ad15001.add ((x5_1).toNat * 5)).off + 4, none⟩ = some (.slice A15001_4 ((rd_T44 l0 x5_1).f4).length c15001_4) ∧ w'.cell? (ad15002.add ((x5_1).toNat * 5)) = some (.string ((rd_T44 l1 x5_1).f0)) ∧ w'.cell? ⟨(ad15002.add ((x5_1).toNat * 5)).block, (ad15002.add ((x5_1).toNat * 5)).off + 1, none⟩ = some (.slice A15002_1 ((rd_T44 l1 x5_1).f1).length c15002_1) ∧ w'.cell? ⟨(ad15002.add ((x5_1).toNat * 5)).block, (ad15002.add ((x5_1).toNat * 5)).off + 2, none⟩ = some (.int .i64 ((rd_T44 l1 x5_1).f2)) ∧ w'.cell? ⟨(ad15002.add ((x5_1).toNat * 5)).block, (ad15002.add ((x5_1).toNat * 5)).off + 3, none⟩ = some (.slice A15002_3 ((rd_T44 l1 x5_1).f3).length c15002_3) ∧ w'.cell? ⟨(ad15002.add ((x5_1).toNat * 5)).block, (ad15002.add ((x5_1).toNat * 5)).off + 4, none⟩ = some (.slice A15002_4 ((rd_T44 l1 x5_1).f4).length c15002_4)) (ds := []) #[false, false, false, false, false, false, false, false, false, false] (by kernel_rfl) rfl rfl ⟨((HB.out.cell (World.block_lt_of_cell? w _ hw15001_0)).trans hw15001_0), ((HB.out.cell (World.block_lt_of_cell? w _ hw15001_1)).trans hw15001_1), ((HB.out.cell (World.block_lt_of_cell? w _ hw15001_2)).trans hw15001_2), ((HB.out.cell (World.block_lt_of_cell? w _ hw15001_3)).trans hw15001_3), ((HB.out.cell (World.block_lt_of_cell? w _ hw15001_4)).trans hw15001_4), ((HB.out.cell (World.block_lt_of_cell? w _ hw15002_0)).trans hw15002_0), ((HB.out.cell (World.block_lt_of_cell? w _ hw15002_1)).trans hw15002_1), ((HB.out.cell (World.block_lt_of_cell? w _ hw15002_2)).trans hw15002_2), ((HB.out.cell (World.block_lt_of_cell? w _ hw15002_3)).trans hw15002_3), ((HB.out.cell (World.block_lt_of_cell? w _ hw15002_4)).trans hw15002_4)⟩ (fun hHeld => ?_); refine with_tabW tinderref08_Same.tab6 tinderref08_Same.bits6 (fun HT_ HW_ => ?_)
        generalize wr.drew = w9 at HB HR15001_1 HR15001_3 HR15001_4 HR15002_1 HR15002_3 HR15002_4 hx15001_0 hx15001_1 hx15001_2 hx15001_3 hx15001_4 hx15002_0 hx15002_1 hx15002_2 hx15002_3 hx15002_4 hHeld ⊢
        refine pure_ (i := 0) (N := some 17) (v := ?_) (a' := ?_) #[true, false, false, false, false, false, false, false, false, false] rfl rfl (any_of HT_.out (by kernel_rfl)) (fun _ _ _ h => h) (Or.inl ⟨by rfl, ?_⟩) ?_ ?_
        rotate_left
        ·intro w'
         go_simp
         with_reducible rfl
        rotate_left
        ·simp only [Act.put, List.setIfInBounds_toArray, List.set_cons_zero, List.set_cons_succ, i64_w, i32_w]
         rfl
        refine pure_ (i := 1) (N := some 18) (v := ?_) (a' := ?_) #[true, true, false, false, false, false, false, false, false, false] rfl rfl (any_of HT_.out (by kernel_rfl)) (fun _ _ _ h => h) (Or.inl ⟨by rfl, ?_⟩) ?_ ?_
        rotate_left
        ·intro w'
         go_simp
         with_reducible rfl
        rotate_left
        ·simp only [Act.put, List.setIfInBounds_toArray, List.set_cons_zero, List.set_cons_succ, i64_w, i32_w]
         rfl
        refine pure_ (i := 2) (N := some 19) (v := ?_) (a' := ?_) #[true, true, true, false, false, false, false, false, false, false] rfl rfl (any_of HT_.out (by kernel_rfl)) (fun _ _ _ h => h) (Or.inl ⟨by rfl, ?_⟩) ?_ ?_
        rotate_left
        ·intro w'
         go_simp
         with_reducible rfl
        rotate_left
        ·simp only [Act.put, List.setIfInBounds_toArray, List.set_cons_zero, List.set_cons_succ, i64_w, i32_w]
         rfl
        refine pure_ (i := 4) (N := some 21) (v := ?_) (a' := ?_) #[true, true, true, false, true, false, false, false, false, false] rfl rfl (any_of HT_.out (by kernel_rfl)) (fun _ _ _ h => h) (Or.inl ⟨by rfl, ?_⟩) ?_ ?_
        rotate_left
        ·intro w'
         go_simp
         with_reducible rfl
        rotate_left
        ·simp only [Act.put, List.setIfInBounds_toArray, List.set_cons_zero, List.set_cons_succ, i64_w, i32_w]
         rfl
        refine pure_ (i := 5) (N := some 22) (v := ?_) (a' := ?_) #[true, true, true, false, true, true, false, false, false, false] rfl rfl (any_of HT_.out (by kernel_rfl)) (fun _ _ _ h => h) (Or.inl ⟨by rfl, ?_⟩) ?_ ?_
        rotate_left
        ·intro w'
         go_simp
         with_reducible rfl
        rotate_left
        ·simp only [Act.put, List.setIfInBounds_toArray, List.set_cons_zero, List.set_cons_succ, i64_w, i32_w]
         rfl
        refine pure_ (i := 6) (N := some 23) (v := ?_) (a' := ?_) #[true, true, true, false, true, true, true, false, false, false] rfl rfl (any_of HT_.out (by kernel_rfl)) (fun _ _ _ h => h) (Or.inl ⟨by rfl, ?_⟩) ?_ ?_
        rotate_left
        ·intro w'
         go_simp
         with_reducible rfl
        rotate_left
        ·simp only [Act.put, List.setIfInBounds_toArray, List.set_cons_zero, List.set_cons_succ, i64_w, i32_w]
         rfl
        refine take_ (i := 3) (N := some 20) (v := ?_) (a' := ?_) #[true, true, true, true, true, true, true, false, false, false] rfl rfl (take_ofW HT_.out HW_.out (by kernel_rfl)) (fun _ _ _ h => h) (Or.inl ⟨by rfl, ?_⟩) hHeld ?_ ?_
        rotate_left
        ·rintro w' ⟨s0, s1, s2, s3, s4, s5, s6, s7, s8, s9⟩
         go_simp
         with_reducible rfl
        rotate_left
        ·simp only [Act.put, List.setIfInBounds_toArray, List.set_cons_zero, List.set_cons_succ, i64_w, i32_w]
         rfl
        refine take_ (i := 7) (N := some 24) (v := ?_) (a' := ?_) #[true, true, true, true, true, true, true, true, false, false] rfl rfl (take_ofW HT_.out HW_.out (by kernel_rfl)) (fun _ _ _ h => h) (Or.inl ⟨by rfl, ?_⟩) hHeld ?_ ?_
        rotate_left
        ·rintro w' ⟨s0, s1, s2, s3, s4, s5, s6, s7, s8, s9⟩
         go_simp
         with_reducible rfl
        rotate_left
        ·simp only [Act.put, List.setIfInBounds_toArray, List.set_cons_zero, List.set_cons_succ, i64_w, i32_w]
         rfl
        refine one_ (i := 8) (N := some 25) #[true, true, true, true, true, true, true, true, true, false] rfl rfl (one_of HT_.out (by kernel_rfl)) (by decide) (fun K hK => ?_)
        refine goes_ Tryd.func39 (by kernel_rfl) rfl #[.agg #[.string ((rd_T44 l0 x5_1).f0), .slice A15001_1 ((rd_T44 l0 x5_1).f1).length c15001_1, .int .i64 ((rd_T44 l0 x5_1).f2), .slice A15001_3 ((rd_T44 l0 x5_1).f3).length c15001_3, .slice A15001_4 ((rd_T44 l0 x5_1).f4).length c15001_4], .agg #[.string ((rd_T44 l1 x5_1).f0), .slice A15002_1 ((rd_T44 l1 x5_1).f1).length c15002_1, .int .i64 ((rd_T44 l1 x5_1).f2), .slice A15002_3 ((rd_T44 l1 x5_1).f3).length c15002_3, .slice A15002_4 ((rd_T44 l1 x5_1).f4).length c15002_4]] (by rfl) rfl rfl (by (try simp only [List.map_toArray, List.map_cons, List.map_nil]); first | done | rfl | (simp only [List.length_drop, List.length_take]; rfl)) ?_
        with_reducible refine (tinderref08_SameNode.calls k1 ((rd_T44 l0 x5_1).f0) _ _ ((rd_T44 l0 x5_1).f1) ((rd_T44 l0 x5_1).f2) _ _ ((rd_T44 l0 x5_1).f3) _ _ ((rd_T44 l0 x5_1).f4) ((rd_T44 l1 x5_1).f0) _ _ ((rd_T44 l1 x5_1).f1) ((rd_T44 l1 x5_1).f2) _ _ ((rd_T44 l1 x5_1).f3) _ _ ((rd_T44 l1 x5_1).f4) true _ ?side1 ?side2 ?side3 ?side4 ?side5 ?side6 ?side7 ?side8 ?side9 ?side10 ?side11 ?side12 A7.out).mono ?_
        (case side1 => repeat (first | exact (Kd.C_below HR15001_1.out HB.out) | (with_reducible refine Kd.C_alloc ?_ _) | (with_reducible refine Kd.C_drewN ?_ _) | (with_reducible refine Kd.C_drew ?_)))
        (case side2 => exact HC15001_1.out)
        (case side3 => repeat (first | exact (Kd.C_below HR15001_3.out HB.out) | (with_reducible refine Kd.C_alloc ?_ _) | (with_reducible refine Kd.C_drewN ?_ _) | (with_reducible refine Kd.C_drew ?_)))
        (case side4 => exact HC15001_3.out)
        (case side5 => repeat (first | exact (Kd.C_below HR15001_4.out HB.out) | (with_reducible refine Kd.C_alloc ?_ _) | (with_reducible refine Kd.C_drewN ?_ _) | (with_reducible refine Kd.C_drew ?_)))
        (case side6 => exact HC15001_4.out)
        (case side7 => repeat (first | exact (Kd.C_below HR15002_1.out HB.out) | (with_reducible refine Kd.C_alloc ?_ _) | (with_reducible refine Kd.C_drewN ?_ _) | (with_reducible refine Kd.C_drew ?_)))
        (case side8 => exact HC15002_1.out)
        (case side9 => repeat (first | exact (Kd.C_below HR15002_3.out HB.out) | (with_reducible refine Kd.C_alloc ?_ _) | (with_reducible refine Kd.C_drewN ?_ _) | (with_reducible refine Kd.C_drew ?_)))
        (case side10 => exact HC15002_3.out)
        (case side11 => repeat (first | exact (Kd.C_below HR15002_4.out HB.out) | (with_reducible refine Kd.C_alloc ?_ _) | (with_reducible refine Kd.C_drewN ?_ _) | (with_reducible refine Kd.C_drew ?_)))
        (case side12 => exact HC15002_4.out)
        rintro e w10 ⟨rfl, hb⟩
        refine ⟨_, rfl, ?_⟩
        have n0_ := Aside0.mk (below_step (by repeat (first | (with_reducible first | exact HB.out | apply below_alloc | apply pw_below_drewN | apply below_drew1) | exact HB.out)) hb)
        clear HB
        have HB := n0_
        clear n0_
        (try clear hb)
        (try clear hb2)
        (try clear hk)
        (try clear hi)
        refine hK.out _ _ ⟨((HB.out.cell (World.block_lt_of_cell? w _ hw15001_0)).trans hw15001_0), ((HB.out.cell (World.block_lt_of_cell? w _ hw15001_1)).trans hw15001_1), ((HB.out.cell (World.block_lt_of_cell? w _ hw15001_2)).trans hw15001_2), ((HB.out.cell (World.block_lt_of_cell? w _ hw15001_3)).trans hw15001_3), ((HB.out.cell (World.block_lt_of_cell? w _ hw15001_4)).trans hw15001_4), ((HB.out.cell (World.block_lt_of_cell? w _ hw15002_0)).trans hw15002_0), ((HB.out.cell (World.block_lt_of_cell? w _ hw15002_1)).trans hw15002_1), ((HB.out.cell (World.block_lt_of_cell? w _ hw15002_2)).trans hw15002_2), ((HB.out.cell (World.block_lt_of_cell? w _ hw15002_3)).trans hw15002_3), ((HB.out.cell (World.block_lt_of_cell? w _ hw15002_4)).trans hw15002_4)⟩ (fun hHeld => ?_)
        clear hK K
        refine norm_ (a' := ?_) ?_ ?_
        rotate_left
        ·show Act.put _ (some 25) _ = _
         simp only [Act.put, List.setIfInBounds_toArray, List.set_cons_zero, List.set_cons_succ, i64_w, i32_w]
         rfl
        refine pure_ (i := 9) (N := some 26) (v := ?_) (a' := ?_) #[true, true, true, true, true, true, true, true, true, true] rfl rfl (any_of HT_.out (by kernel_rfl)) (fun _ _ _ h => h) (Or.inl ⟨by rfl, ?_⟩) ?_ ?_
        rotate_left
        ·intro w'
         go_simp
         with_reducible rfl
        rotate_left
        ·simp only [Act.put, List.setIfInBounds_toArray, List.set_cons_zero, List.set_cons_succ, i64_w, i32_w]
         rfl
        refine done_ (done_of HT_.out (by kernel_rfl)) ?_
        try go_wp2
        go_roundg k1
        case measure => have := HK1.out; omega
        case rel => exact ⟨(wrap64 (x5_1 + 1)), (by first | rfl | (simp; done) | (simp [*]; done)), H', ⟨by have := HK1.out; omega⟩, ⟨by repeat (first | (with_reducible first | exact HB.out | apply below_alloc | apply pw_below_drewN | apply below_drew1) | exact HB.out)⟩⟩
       ·replace c8 := Bool.eq_false_iff.mpr c8
        subst c8
        have H1 : (some false) = some r := by rw [if_neg (show ¬ (false = true) by decide)] at H; exact H
        clear H
        have H := H1
        clear H1
        obtain rfl := Option.some.inj H
        try go_wp2
        have n0_ := Aside0.mk (below_drew1 HB.out)
        clear HB
        have HB := n0_
        clear n0_
        have p15001 : 0 ≤ (x5_1 : Int) := of_decide_eq_true (by first | (with_reducible assumption) | assumption)
        have q15001 : x5_1 < (l0.length : Int) := of_decide_eq_true (by first | (with_reducible assumption) | assumption)
        obtain ⟨ad15001, A15001_1, c15001_1, A15001_3, c15001_3, A15001_4, c15001_4, e15001, hx15001_0, hx15001_1, hx15001_2, hx15001_3, hx15001_4, hl15001_1, hi15001_1, hl15001_3, hi15001_3, hl15001_4, hi15001_4⟩ := at_T44 HR0.out x5_1 p15001 q15001
        have hw15001_4 := hx15001_4
        have hw15001_3 := hx15001_3
        have hw15001_2 := hx15001_2
        have hw15001_1 := hx15001_1
        have hw15001_0 := hx15001_0
        cases e15001
        replace hx15001_0 := (HB.out.cell (World.block_lt_of_cell? w _ hx15001_0)).trans hx15001_0
        replace hx15001_1 := (HB.out.cell (World.block_lt_of_cell? w _ hx15001_1)).trans hx15001_1
        replace hx15001_2 := (HB.out.cell (World.block_lt_of_cell? w _ hx15001_2)).trans hx15001_2
        replace hx15001_3 := (HB.out.cell (World.block_lt_of_cell? w _ hx15001_3)).trans hx15001_3
        replace hx15001_4 := (HB.out.cell (World.block_lt_of_cell? w _ hx15001_4)).trans hx15001_4
        have HR15001_1 := Aside0.mk hi15001_1
        have HC15001_1 := Aside0.mk hl15001_1
        clear hi15001_1 hl15001_1
        have HR15001_3 := Aside0.mk hi15001_3
        have HC15001_3 := Aside0.mk hl15001_3
        clear hi15001_3 hl15001_3
        have HR15001_4 := Aside0.mk hi15001_4
        have HC15001_4 := Aside0.mk hl15001_4
        clear hi15001_4 hl15001_4
        replace p15001 := eq_true p15001
        replace q15001 := eq_true q15001
        have p15002 : 0 ≤ (x5_1 : Int) := of_decide_eq_true (by first | (with_reducible assumption) | assumption)
        have q15002 : x5_1 < (l1.length : Int) := of_decide_eq_true (by first | (with_reducible assumption) | assumption)
        obtain ⟨ad15002, A15002_1, c15002_1, A15002_3, c15002_3, A15002_4, c15002_4, e15002, hx15002_0, hx15002_1, hx15002_2, hx15002_3, hx15002_4, hl15002_1, hi15002_1, hl15002_3, hi15002_3, hl15002_4, hi15002_4⟩ := at_T44 HR1.out x5_1 p15002 q15002
        have hw15002_4 := hx15002_4
        have hw15002_3 := hx15002_3
        have hw15002_2 := hx15002_2
        have hw15002_1 := hx15002_1
        have hw15002_0 := hx15002_0
        cases e15002
        replace hx15002_0 := (HB.out.cell (World.block_lt_of_cell? w _ hx15002_0)).trans hx15002_0
        replace hx15002_1 := (HB.out.cell (World.block_lt_of_cell? w _ hx15002_1)).trans hx15002_1
        replace hx15002_2 := (HB.out.cell (World.block_lt_of_cell? w _ hx15002_2)).trans hx15002_2
        replace hx15002_3 := (HB.out.cell (World.block_lt_of_cell? w _ hx15002_3)).trans hx15002_3
        replace hx15002_4 := (HB.out.cell (World.block_lt_of_cell? w _ hx15002_4)).trans hx15002_4
        have HR15002_1 := Aside0.mk hi15002_1
        have HC15002_1 := Aside0.mk hl15002_1
        clear hi15002_1 hl15002_1
        have HR15002_3 := Aside0.mk hi15002_3
        have HC15002_3 := Aside0.mk hl15002_3
        clear hi15002_3 hl15002_3
        have HR15002_4 := Aside0.mk hi15002_4
        have HC15002_4 := Aside0.mk hl15002_4
        clear hi15002_4 hl15002_4
        replace p15002 := eq_true p15002
        replace q15002 := eq_true q15002
        refine start_ (n := 10) (S := fun w' => w'.cell? (ad15001.add ((x5_1).toNat * 5)) = some (.string ((rd_T44 l0 x5_1).f0)) ∧ w'.cell? ⟨(ad15001.add ((x5_1).toNat * 5)).block, (ad15001.add ((x5_1).toNat * 5)).off + 1, none⟩ = some (.slice A15001_1 ((rd_T44 l0 x5_1).f1).length c15001_1) ∧ w'.cell? ⟨(ad15001.add ((x5_1).toNat * 5)).block, (ad15001.add ((x5_1).toNat * 5)).off + 2, none⟩ = some (.int .i64 ((rd_T44 l0 x5_1).f2)) ∧ w'.cell? ⟨(ad15001.add ((x5_1).toNat * 5)).block, (ad15001.add ((x5_1).toNat * 5)).off + 3, none⟩ = some (.slice A15001_3 ((rd_T44 l0 x5_1).f3).length c15001_3) ∧ w'.cell? ⟨(ad15001.add ((x5_1).toNat * 5)).block, (ad15001.add ((x5_1).toNat * 5)).off + 4, none⟩ = some (.slice A15001_4 ((rd_T44 l0 x5_1).f4).length c15001_4) ∧ w'.cell? (ad15002.add ((x5_1).toNat * 5)) = some (.string ((rd_T44 l1 x5_1).f0)) ∧ w'.cell? ⟨(ad15002.add ((x5_1).toNat * 5)).block, (ad15002.add ((x5_1).toNat * 5)).off + 1, none⟩ = some (.slice A15002_1 ((rd_T44 l1 x5_1).f1).length c15002_1) ∧ w'.cell? ⟨(ad15002.add ((x5_1).toNat * 5)).block, (ad15002.add ((x5_1).toNat * 5)).off + 2, none⟩ = some (.int .i64 ((rd_T44 l1 x5_1).f2)) ∧ w'.cell? ⟨(ad15002.add ((x5_1).toNat * 5)).block, (ad15002.add ((x5_1).toNat * 5)).off + 3, none⟩ = some (.slice A15002_3 ((rd_T44 l1 x5_1).f3).length c15002_3) ∧ w'.cell? ⟨(ad15002.add ((x5_1).toNat * 5)).block, (ad15002.add ((x5_1).toNat * 5)).off + 4, none⟩ = some (.slice A15002_4 ((rd_T44 l1 x5_1).f4).length c15002_4)) (ds := []) #[false, false, false, false, false, false, false, false, false, false] (by kernel_rfl) rfl rfl ⟨((HB.out.cell (World.block_lt_of_cell? w _ hw15001_0)).trans hw15001_0), ((HB.out.cell (World.block_lt_of_cell? w _ hw15001_1)).trans hw15001_1), ((HB.out.cell (World.block_lt_of_cell? w _ hw15001_2)).trans hw15001_2), ((HB.out.cell (World.block_lt_of_cell? w _ hw15001_3)).trans hw15001_3), ((HB.out.cell (World.block_lt_of_cell? w _ hw15001_4)).trans hw15001_4), ((HB.out.cell (World.block_lt_of_cell? w _ hw15002_0)).trans hw15002_0), ((HB.out.cell (World.block_lt_of_cell? w _ hw15002_1)).trans hw15002_1), ((HB.out.cell (World.block_lt_of_cell? w _ hw15002_2)).trans hw15002_2), ((HB.out.cell (World.block_lt_of_cell? w _ hw15002_3)).trans hw15002_3), ((HB.out.cell (World.block_lt_of_cell? w _ hw15002_4)).trans hw15002_4)⟩ (fun hHeld => ?_); refine with_tabW tinderref08_Same.tab6 tinderref08_Same.bits6 (fun HT_ HW_ => ?_)
        generalize wr.drew = w11 at HB HR15001_1 HR15001_3 HR15001_4 HR15002_1 HR15002_3 HR15002_4 hx15001_0 hx15001_1 hx15001_2 hx15001_3 hx15001_4 hx15002_0 hx15002_1 hx15002_2 hx15002_3 hx15002_4 hHeld ⊢
        refine pure_ (i := 0) (N := some 17) (v := ?_) (a' := ?_) #[true, false, false, false, false, false, false, false, false, false] rfl rfl (any_of HT_.out (by kernel_rfl)) (fun _ _ _ h => h) (Or.inl ⟨by rfl, ?_⟩) ?_ ?_
        rotate_left
        ·intro w'
         go_simp
         with_reducible rfl
        rotate_left
        ·simp only [Act.put, List.setIfInBounds_toArray, List.set_cons_zero, List.set_cons_succ, i64_w, i32_w]
         rfl
        refine pure_ (i := 1) (N := some 18) (v := ?_) (a' := ?_) #[true, true, false, false, false, false, false, false, false, false] rfl rfl (any_of HT_.out (by kernel_rfl)) (fun _ _ _ h => h) (Or.inl ⟨by rfl, ?_⟩) ?_ ?_
        rotate_left
        ·intro w'
         go_simp
         with_reducible rfl
        rotate_left
        ·simp only [Act.put, List.setIfInBounds_toArray, List.set_cons_zero, List.set_cons_succ, i64_w, i32_w]
         rfl
        refine pure_ (i := 2) (N := some 19) (v := ?_) (a' := ?_) #[true, true, true, false, false, false, false, false, false, false] rfl rfl (any_of HT_.out (by kernel_rfl)) (fun _ _ _ h => h) (Or.inl ⟨by rfl, ?_⟩) ?_ ?_
        rotate_left
        ·intro w'
         go_simp
         with_reducible rfl
        rotate_left
        ·simp only [Act.put, List.setIfInBounds_toArray, List.set_cons_zero, List.set_cons_succ, i64_w, i32_w]
         rfl
        refine pure_ (i := 4) (N := some 21) (v := ?_) (a' := ?_) #[true, true, true, false, true, false, false, false, false, false] rfl rfl (any_of HT_.out (by kernel_rfl)) (fun _ _ _ h => h) (Or.inl ⟨by rfl, ?_⟩) ?_ ?_
        rotate_left
        ·intro w'
         go_simp
         with_reducible rfl
        rotate_left
        ·simp only [Act.put, List.setIfInBounds_toArray, List.set_cons_zero, List.set_cons_succ, i64_w, i32_w]
         rfl
        refine pure_ (i := 5) (N := some 22) (v := ?_) (a' := ?_) #[true, true, true, false, true, true, false, false, false, false] rfl rfl (any_of HT_.out (by kernel_rfl)) (fun _ _ _ h => h) (Or.inl ⟨by rfl, ?_⟩) ?_ ?_
        rotate_left
        ·intro w'
         go_simp
         with_reducible rfl
        rotate_left
        ·simp only [Act.put, List.setIfInBounds_toArray, List.set_cons_zero, List.set_cons_succ, i64_w, i32_w]
         rfl
        refine pure_ (i := 6) (N := some 23) (v := ?_) (a' := ?_) #[true, true, true, false, true, true, true, false, false, false] rfl rfl (any_of HT_.out (by kernel_rfl)) (fun _ _ _ h => h) (Or.inl ⟨by rfl, ?_⟩) ?_ ?_
        rotate_left
        ·intro w'
         go_simp
         with_reducible rfl
        rotate_left
        ·simp only [Act.put, List.setIfInBounds_toArray, List.set_cons_zero, List.set_cons_succ, i64_w, i32_w]
         rfl
        refine take_ (i := 3) (N := some 20) (v := ?_) (a' := ?_) #[true, true, true, true, true, true, true, false, false, false] rfl rfl (take_ofW HT_.out HW_.out (by kernel_rfl)) (fun _ _ _ h => h) (Or.inl ⟨by rfl, ?_⟩) hHeld ?_ ?_
        rotate_left
        ·rintro w' ⟨s0, s1, s2, s3, s4, s5, s6, s7, s8, s9⟩
         go_simp
         with_reducible rfl
        rotate_left
        ·simp only [Act.put, List.setIfInBounds_toArray, List.set_cons_zero, List.set_cons_succ, i64_w, i32_w]
         rfl
        refine take_ (i := 7) (N := some 24) (v := ?_) (a' := ?_) #[true, true, true, true, true, true, true, true, false, false] rfl rfl (take_ofW HT_.out HW_.out (by kernel_rfl)) (fun _ _ _ h => h) (Or.inl ⟨by rfl, ?_⟩) hHeld ?_ ?_
        rotate_left
        ·rintro w' ⟨s0, s1, s2, s3, s4, s5, s6, s7, s8, s9⟩
         go_simp
         with_reducible rfl
        rotate_left
        ·simp only [Act.put, List.setIfInBounds_toArray, List.set_cons_zero, List.set_cons_succ, i64_w, i32_w]
         rfl
        refine one_ (i := 8) (N := some 25) #[true, true, true, true, true, true, true, true, true, false] rfl rfl (one_of HT_.out (by kernel_rfl)) (by decide) (fun K hK => ?_)
        refine goes_ Tryd.func39 (by kernel_rfl) rfl #[.agg #[.string ((rd_T44 l0 x5_1).f0), .slice A15001_1 ((rd_T44 l0 x5_1).f1).length c15001_1, .int .i64 ((rd_T44 l0 x5_1).f2), .slice A15001_3 ((rd_T44 l0 x5_1).f3).length c15001_3, .slice A15001_4 ((rd_T44 l0 x5_1).f4).length c15001_4], .agg #[.string ((rd_T44 l1 x5_1).f0), .slice A15002_1 ((rd_T44 l1 x5_1).f1).length c15002_1, .int .i64 ((rd_T44 l1 x5_1).f2), .slice A15002_3 ((rd_T44 l1 x5_1).f3).length c15002_3, .slice A15002_4 ((rd_T44 l1 x5_1).f4).length c15002_4]] (by rfl) rfl rfl (by (try simp only [List.map_toArray, List.map_cons, List.map_nil]); first | done | rfl | (simp only [List.length_drop, List.length_take]; rfl)) ?_
        with_reducible refine (tinderref08_SameNode.calls k1 ((rd_T44 l0 x5_1).f0) _ _ ((rd_T44 l0 x5_1).f1) ((rd_T44 l0 x5_1).f2) _ _ ((rd_T44 l0 x5_1).f3) _ _ ((rd_T44 l0 x5_1).f4) ((rd_T44 l1 x5_1).f0) _ _ ((rd_T44 l1 x5_1).f1) ((rd_T44 l1 x5_1).f2) _ _ ((rd_T44 l1 x5_1).f3) _ _ ((rd_T44 l1 x5_1).f4) false _ ?side1 ?side2 ?side3 ?side4 ?side5 ?side6 ?side7 ?side8 ?side9 ?side10 ?side11 ?side12 A7.out).mono ?_
        (case side1 => repeat (first | exact (Kd.C_below HR15001_1.out HB.out) | (with_reducible refine Kd.C_alloc ?_ _) | (with_reducible refine Kd.C_drewN ?_ _) | (with_reducible refine Kd.C_drew ?_)))
        (case side2 => exact HC15001_1.out)
        (case side3 => repeat (first | exact (Kd.C_below HR15001_3.out HB.out) | (with_reducible refine Kd.C_alloc ?_ _) | (with_reducible refine Kd.C_drewN ?_ _) | (with_reducible refine Kd.C_drew ?_)))
        (case side4 => exact HC15001_3.out)
        (case side5 => repeat (first | exact (Kd.C_below HR15001_4.out HB.out) | (with_reducible refine Kd.C_alloc ?_ _) | (with_reducible refine Kd.C_drewN ?_ _) | (with_reducible refine Kd.C_drew ?_)))
        (case side6 => exact HC15001_4.out)
        (case side7 => repeat (first | exact (Kd.C_below HR15002_1.out HB.out) | (with_reducible refine Kd.C_alloc ?_ _) | (with_reducible refine Kd.C_drewN ?_ _) | (with_reducible refine Kd.C_drew ?_)))
        (case side8 => exact HC15002_1.out)
        (case side9 => repeat (first | exact (Kd.C_below HR15002_3.out HB.out) | (with_reducible refine Kd.C_alloc ?_ _) | (with_reducible refine Kd.C_drewN ?_ _) | (with_reducible refine Kd.C_drew ?_)))
        (case side10 => exact HC15002_3.out)
        (case side11 => repeat (first | exact (Kd.C_below HR15002_4.out HB.out) | (with_reducible refine Kd.C_alloc ?_ _) | (with_reducible refine Kd.C_drewN ?_ _) | (with_reducible refine Kd.C_drew ?_)))
        (case side12 => exact HC15002_4.out)
        rintro e w12 ⟨rfl, hb⟩
        refine ⟨_, rfl, ?_⟩
        have n0_ := Aside0.mk (below_step (by repeat (first | (with_reducible first | exact HB.out | apply below_alloc | apply pw_below_drewN | apply below_drew1) | exact HB.out)) hb)
        clear HB
        have HB := n0_
        clear n0_
        (try clear hb)
        (try clear hb2)
        (try clear hk)
        (try clear hi)
        refine hK.out _ _ ⟨((HB.out.cell (World.block_lt_of_cell? w _ hw15001_0)).trans hw15001_0), ((HB.out.cell (World.block_lt_of_cell? w _ hw15001_1)).trans hw15001_1), ((HB.out.cell (World.block_lt_of_cell? w _ hw15001_2)).trans hw15001_2), ((HB.out.cell (World.block_lt_of_cell? w _ hw15001_3)).trans hw15001_3), ((HB.out.cell (World.block_lt_of_cell? w _ hw15001_4)).trans hw15001_4), ((HB.out.cell (World.block_lt_of_cell? w _ hw15002_0)).trans hw15002_0), ((HB.out.cell (World.block_lt_of_cell? w _ hw15002_1)).trans hw15002_1), ((HB.out.cell (World.block_lt_of_cell? w _ hw15002_2)).trans hw15002_2), ((HB.out.cell (World.block_lt_of_cell? w _ hw15002_3)).trans hw15002_3), ((HB.out.cell (World.block_lt_of_cell? w _ hw15002_4)).trans hw15002_4)⟩ (fun hHeld => ?_)
        clear hK K
        refine norm_ (a' := ?_) ?_ ?_
        rotate_left
        ·show Act.put _ (some 25) _ = _
         simp only [Act.put, List.setIfInBounds_toArray, List.set_cons_zero, List.set_cons_succ, i64_w, i32_w]
         rfl
        refine pure_ (i := 9) (N := some 26) (v := ?_) (a' := ?_) #[true, true, true, true, true, true, true, true, true, true] rfl rfl (any_of HT_.out (by kernel_rfl)) (fun _ _ _ h => h) (Or.inl ⟨by rfl, ?_⟩) ?_ ?_
        rotate_left
        ·intro w'
         go_simp
         with_reducible rfl
        rotate_left
        ·simp only [Act.put, List.setIfInBounds_toArray, List.set_cons_zero, List.set_cons_succ, i64_w, i32_w]
         rfl
        refine done_ (done_of HT_.out (by kernel_rfl)) ?_
        try go_wp2
        go_ret
        exact ⟨by first | rfl | (simp [errW_none, errW_some] <;> rfl) | (simp [*, errW_none, errW_some] <;> rfl), by repeat (first | (with_reducible first | exact HB.out | apply below_alloc | apply pw_below_drewN | apply below_drew1) | exact HB.out)⟩
      ·rw [if_neg c6] at H
       exact absurd H (by simp)
     ·rw [if_neg c5] at H
      exact absurd H (by simp)
    ·rw [if_neg c4] at H
     have c4b0 : decide (x5_1 < (l0.length : Int)) = false := decide_eq_false c4
     clear c4
     obtain rfl := Option.some.inj H
     go_wp2
     go_ret
     exact ⟨by first | rfl | (simp [errW_none, errW_some] <;> rfl) | (simp [*, errW_none, errW_some] <;> rfl), by repeat (first | (with_reducible first | exact HB.out | apply below_alloc | apply pw_below_drewN | apply below_drew1) | exact HB.out)⟩
 ·rw [if_neg c3] at H
  have c3b0 : ((l0.length : Int) == (l1.length : Int)) = false := beq_eq_false_iff_ne.mpr c3
  have c3b1 : ((l0.length : Int) != (l1.length : Int)) = true := bne_iff_ne.mpr c3
  have c3b2 : (l0.length == l1.length) = false := by first | simpa using c3 | (simp at c3 ⊢; omega)
  obtain rfl := Option.some.inj H
  go_enter Tryd.func14, Tryd.ntmps14
  go_wp2
  go_ret
  exact ⟨by first | rfl | (simp [errW_none, errW_some] <;> rfl) | (simp [*, errW_none, errW_some] <;> rfl), by repeat (first | (with_reducible first | exact HB.out | apply below_alloc | apply pw_below_drewN | apply below_drew1) | exact HB.out)⟩

end Go.Proofs.YtnalcjgefbelnaaDoor.Q
end
section
set_option linter.unusedSimpArgs false
set_option linter.unusedVariables false
namespace Go.Proofs.YtnalcjgefbelnaaDoor.Q
open Go.RowKit Go.Proofs.YtnalcjgefbelnaaDoorW.PrintWords Go.Proofs.YtnalcjgefbelnaaDoorW.PrintLast
theorem same3_go (a b : List Int) (hl : a.length = b.length) (hm : a.length ≤ 9223372036854775807) : ∀ (d k : Nat) (i : Int), 0 ≤ i → i + d = a.length → d < k → tinderref03_Same.l0 k a b i = some (decide (a.drop i.toNat = b.drop i.toNat))
 | 0, k, i, h0, h1, hk => by
  obtain ⟨k, rfl⟩ : ∃ m, k = m + 1 := ⟨k - 1, by omega⟩
  rw [tinderref03_Same.l0, if_neg (by omega), List.drop_eq_nil_of_le (by omega), List.drop_eq_nil_of_le (by omega), decide_eq_true rfl]
 | d + 1, k, i, h0, h1, hk => by
  obtain ⟨k, rfl⟩ : ∃ m, k = m + 1 := ⟨k - 1, by omega⟩
  have hw : wrap64 (i + 1) = i + 1 := by unfold wrap64; omega
  rw [tinderref03_Same.l0, if_pos (by omega), if_pos h0, if_pos (by omega), hw, same3_go a b hl hm d k (i + 1) (by omega) (by omega) (by omega), int_drop a i h0 (by omega), int_drop b i h0 (by omega)]
  by_cases he : rd a i = rd b i
  ·rw [if_pos he]
   congr 1
   refine decide_eq_decide.2 ⟨fun h => by rw [he, h], fun h => (List.cons.inj h).2⟩
  ·rw [if_neg he, decide_eq_false (fun h => he (List.cons.inj h).1)]
theorem same3_eq (a b : List Int) (hm : a.length ≤ 9223372036854775807) (k : Nat) (hk : a.length < k) : tinderref03_Same.f k a b = some (decide (a = b)) := by
 unfold tinderref03_Same.f
 by_cases hl : a.length = b.length
 ·rw [if_pos (by omega), same3_go a b hl hm a.length k 0 (Int.le_refl _) (by omega) hk]
  rfl
 ·rw [if_neg (by omega), decide_eq_false (fun h => hl (by rw [h]))]
theorem any_take {α : Type} (P : α → Bool) (z : α) (l : List α) (n i : Nat) (hi : i < n) (hn : n ≤ l.length) : ((l.take n).drop i).any P = (P (l.getD i z) || ((l.take n).drop (i + 1)).any P) := by
 rw [List.drop_eq_getElem_cons (show i < (l.take n).length by rw [List.length_take]; omega), List.any_cons]
 congr 2
 rw [List.getElem_take, List.getD_eq_getElem?_getD, List.getElem?_eq_getElem (show i < l.length by omega)]
 rfl
theorem twin_go (t : List S44) (p : Int) (s : ByteArray) (u : List Int) (n : Nat) (hn : n ≤ t.length) (ht : t.length ≤ 1000) (hU : ∀ x ∈ t, x.f1.length ≤ 9223372036854775807) (F : Nat) (hF : ∀ x ∈ t, x.f1.length < F) : ∀ (d k : Nat) (i : Int), 0 ≤ i → i + d = n → d + F + 1 ≤ k → tinderref08_twin.l0 k t n p s u i = some (((t.take n).drop i.toNat).any (isN p s u))
 | 0, k, i, h0, h1, hk => by
  obtain ⟨k, rfl⟩ : ∃ m, k = m + 1 := ⟨k - 1, by omega⟩
  rw [tinderref08_twin.l0, if_neg (by omega), List.drop_eq_nil_of_le (by rw [List.length_take]; omega)]
  rfl
 | d + 1, k, i, h0, h1, hk => by
  obtain ⟨k, rfl⟩ : ∃ m, k = m + 1 := ⟨k - 1, by omega⟩
  have hw : wrap64 (i + 1) = i + 1 := by unfold wrap64; omega
  have hx : rd_T44 t i ∈ t := by
   unfold rd_T44
   rw [List.getD_eq_getElem?_getD, List.getElem?_eq_getElem (show i.toNat < t.length by omega)]
   exact List.getElem_mem _
  have ih := twin_go t p s u n hn ht hU F hF d k (i + 1) (by omega) (by omega) (by omega)
  rw [tinderref08_twin.l0, if_pos (by omega), if_pos h0, if_pos (by omega), hw, ih, same3_eq _ _ (hU _ hx) k (by have := hF _ hx; omega), Option.bind_some, any_take (isN p s u) z44 t n i.toNat (by omega) hn, show (i + 1).toNat = i.toNat + 1 by omega]
  rw [show t.getD i.toNat z44 = rd_T44 t i from rfl, isN]
  by_cases h2 : (rd_T44 t i).f2 = p
  ·rw [if_pos h2]
   by_cases h3 : (rd_T44 t i).f0.toList = s.toList
   ·rw [if_pos h3]
    by_cases h4 : (rd_T44 t i).f1 = u
    ·simp [h2, h3, h4]
    ·simp [h2, h3, h4]
   ·rw [if_neg h3]
    simp [h3]
  ·rw [if_neg h2]
   simp [h2]
theorem pfind_go (l : List S53) (s : ByteArray) (hl : l.length ≤ 1000000) : ∀ (d k : Nat) (i : Int), 0 ≤ i → i + d = l.length → d < k → tinderref08_find.l0 k l s i = some (if idxP (isP s) (l.drop i.toNat) < 0 then -1 else idxP (isP s) (l.drop i.toNat) + i)
 | 0, k, i, h0, h1, hk => by
  obtain ⟨k, rfl⟩ : ∃ m, k = m + 1 := ⟨k - 1, by omega⟩
  rw [tinderref08_find.l0, if_neg (by omega), List.drop_eq_nil_of_le (by omega)]
  rfl
 | d + 1, k, i, h0, h1, hk => by
  obtain ⟨k, rfl⟩ : ∃ m, k = m + 1 := ⟨k - 1, by omega⟩
  have hw : wrap64 (i + 1) = i + 1 := by unfold wrap64; omega
  have hr := idxP_range (isP s) (l.drop (i + 1).toNat)
  have he : l.drop i.toNat = rd_T53 l i :: l.drop (i + 1).toNat := by
   rw [List.drop_eq_getElem_cons (show i.toNat < l.length by omega), show (i + 1).toNat = i.toNat + 1 by omega]
   simp [rd_T53, List.getD_eq_getElem?_getD, List.getElem?_eq_getElem (show i.toNat < l.length by omega)]
  rw [tinderref08_find.l0, if_pos (by omega), if_pos h0, hw, pfind_go l s hl d k (i + 1) (by omega) (by omega) (by omega), he, idxP]
  by_cases h2 : (rd_T53 l i).f0.toList = s.toList
  ·have hp : isP s (rd_T53 l i) = true := beq_iff_eq.2 h2
   rw [if_pos h2, if_pos hp, if_neg (by decide), Int.zero_add]
  ·have hp : isP s (rd_T53 l i) = false := beq_eq_false_iff_ne.2 h2
   rw [if_neg h2, if_neg (show ¬ isP s (rd_T53 l i) = true by rw [hp]; exact Bool.false_ne_true)]
   by_cases h3 : idxP (isP s) (l.drop (i + 1).toNat) < 0
   ·rw [if_pos h3, if_pos h3, if_pos (by decide)]
   ·rw [if_neg h3, if_neg h3, if_neg (by omega)]
    congr 1
    omega
theorem pfind_eq (l : List S53) (s : ByteArray) (hl : l.length ≤ 1000000) (k : Nat) (hk : l.length < k) : tinderref08_find.f k l s = some (idxP (isP s) l) := by
 have hr := idxP_range (isP s) l
 unfold tinderref08_find.f
 rw [pfind_go l s hl l.length k 0 (Int.le_refl _) (by omega) hk]
 rw [show l.drop (0 : Int).toNat = l from rfl]
 congr 1
 split <;> omega
theorem range_at (n i : Nat) (h : i < n) (p : Nat → Bool) : ((List.range n).drop i).all p = (p i && ((List.range n).drop (i + 1)).all p) := by
 rw [List.drop_eq_getElem_cons (show i < (List.range n).length by rw [List.length_range]; exact h), List.all_cons, List.getElem_range]
theorem range_end (n i : Nat) (h : n ≤ i) (p : Nat → Bool) : ((List.range n).drop i).all p = true := by
 rw [List.drop_eq_nil_of_le (by rw [List.length_range]; exact h)]
 rfl
/-- The round over a device's properties. -/
theorem props_go (t : List S44) (n : Int) (nm : ByteArray) (u : List Int) (p : Int) (l : List S53) (ce : List Int) (hl : l.length ≤ 16) (R : Bool) (K : Nat) (hR : ∀ k, K ≤ k → tinderref08_Formed.l0 k t (wrap64 (n + 1)) = some R) : ∀ (d k : Nat) (i : Int), 0 ≤ i → i + d = l.length → d + K + 500 ≤ k → tinderref08_Formed.l1 k t n i nm u p l ce = some (((List.range l.length).drop i.toNat).all (pOk l) && R)
 | 0, k, i, h0, h1, hk => by
  obtain ⟨k, rfl⟩ : ∃ m, k = m + 1 := ⟨k - 1, by omega⟩
  rw [tinderref08_Formed.l1, if_neg (by omega), hR k (by omega), range_end _ _ (by omega), Bool.true_and]
 | d + 1, k, i, h0, h1, hk => by
  obtain ⟨k, rfl⟩ : ∃ m, k = m + 1 := ⟨k - 1, by omega⟩
  have hw : wrap64 (i + 1) = i + 1 := by unfold wrap64; omega
  have ih := props_go t n nm u p l ce hl R K hR d k (i + 1) (by omega) (by omega) (by omega)
  have hr := idxP_range (isP (rd_T53 l i).f0) (l.take i.toNat)
  have ha := idxP_any (isP (rd_T53 l i).f0) (l.take i.toNat)
  rw [tinderref08_Formed.l1, if_pos (by omega), if_pos h0, refnamed_eq k (by omega), Option.bind_some, if_pos (show i ≤ (l.length : Int) by omega), pfind_eq _ _ (by rw [List.length_take]; omega) k (by rw [List.length_take]; omega), Option.bind_some, hw, ih, range_at l.length i.toNat (by omega) (pOk l), show (i + 1).toNat = i.toNat + 1 by omega]
  rw [show pOk l i.toNat = (namedF (rd_T53 l i).f0 && (decide ((rd_T53 l i).f1.length ≤ 256) && !(l.take i.toNat).any (isP (rd_T53 l i).f0))) from rfl, ← ha]
  by_cases h2 : namedF (rd_T53 l i).f0 = true
  ·rw [if_pos h2, h2]
   by_cases h3 : ((rd_T53 l i).f1.length : Int) > 256
   ·rw [if_pos h3, decide_eq_false (show ¬ (rd_T53 l i).f1.length ≤ 256 by omega)]
    rfl
   ·rw [if_neg h3, decide_eq_true (show (rd_T53 l i).f1.length ≤ 256 by omega)]
    by_cases h4 : 0 ≤ idxP (isP (rd_T53 l i).f0) (l.take i.toNat)
    ·rw [if_pos h4, decide_eq_true h4]
     rfl
    ·rw [if_neg h4, decide_eq_false h4]
     rfl
  ·rw [if_neg h2, Bool.eq_false_iff.2 h2]
   rfl
def nodeR (t : List S44) (i : Nat) : Bool := (!decide (16 < ((t.getD i z44).f4.length : Int)) && propsF (t.getD i z44).f3) && (if (i : Int) == 0 then true else kidOk (t.take i) i (t.getD i z44))
/-- From the device's second part on. -/
theorem node_tail (t : List S44) (i : Int) (x : S44) (R : Bool) (K : Nat) (hR : ∀ k, K ≤ k → tinderref08_Formed.l0 k t (wrap64 (i + 1)) = some R) (b : Bool) (k : Nat) (hk : K + 600 ≤ k) : tinderref08_Formed.j2 k t i b x.f0 x.f1 x.f2 x.f3 x.f4 = some (!b && ((!decide (16 < (x.f4.length : Int)) && propsF x.f3) && R)) := by
 obtain ⟨k, rfl⟩ : ∃ m, k = m + 1 + 1 := ⟨k - 2, by omega⟩
 rw [tinderref08_Formed.j2]
 cases b
 ·rw [if_neg (by decide), tinderref08_Formed.j3, tinderref08_Formed.j3]
  unfold propsF
  by_cases h3 : (x.f3.length : Int) > 16
  ·rw [if_pos h3, if_pos rfl, decide_eq_false (show ¬ x.f3.length ≤ 16 by omega)]
   simp
  ·rw [if_neg h3]
   by_cases h4 : (x.f4.length : Int) > 16
   ·rw [decide_eq_true h4, if_pos rfl]
    simp
   ·rw [decide_eq_false h4, if_neg (by decide), props_go t i _ _ _ x.f3 _ (by omega) R K hR x.f3.length k 0 (Int.le_refl _) (by omega) (by omega), decide_eq_true (show x.f3.length ≤ 16 by omega)]
    simp
 ·rw [if_pos rfl]
  rfl
theorem nodes_go (t : List S44) (ht : t.length ≤ 1000) (hU : ∀ x ∈ t, x.f1.length ≤ 9223372036854775807) (F : Nat) (hF : ∀ x ∈ t, x.f1.length < F) (B : Nat) (hB : F + 3000 ≤ B) : ∀ (d k : Nat) (i : Int), 0 ≤ i → i + d = t.length → d * B + 1 ≤ k → tinderref08_Formed.l0 k t i = some (((List.range t.length).drop i.toNat).all (nodeR t))
 | 0, k, i, h0, h1, hk => by
  obtain ⟨k, rfl⟩ : ∃ m, k = m + 1 := ⟨k - 1, by omega⟩
  rw [tinderref08_Formed.l0, if_neg (by omega), range_end _ _ (by omega)]
 | d + 1, k, i, h0, h1, hk => by
  obtain ⟨k, rfl⟩ : ∃ m, k = m + 1 := ⟨k - 1, by omega⟩
  rw [Nat.add_mul, Nat.one_mul] at hk
  have hw : wrap64 (i + 1) = i + 1 := by unfold wrap64; omega
  have ei : ((i.toNat : Nat) : Int) = i := by omega
  obtain ⟨R, hRe⟩ : ∃ R, R = ((List.range t.length).drop (i + 1).toNat).all (nodeR t) := ⟨_, rfl⟩
  have hR : ∀ k', d * B + 1 ≤ k' → tinderref08_Formed.l0 k' t (wrap64 (i + 1)) = some R := fun k' hk' => by
   rw [hw, nodes_go t ht hU F hF B hB d k' (i + 1) (by omega) (by omega) hk', hRe]
  have tail := fun b => node_tail t i (rd_T44 t i) R _ hR b k (by omega)
  rw [range_at t.length i.toNat (by omega) (nodeR t), show i.toNat + 1 = (i + 1).toNat by omega, ← hRe]
  rw [show nodeR t i.toNat = ((!decide (16 < ((rd_T44 t i).f4.length : Int)) && propsF (rd_T44 t i).f3) && (if i == 0 then true else kidOk (t.take i.toNat) i (rd_T44 t i))) by
   unfold nodeR
   rw [ei]
   rfl]
  rw [tinderref08_Formed.l0, if_pos (by omega), if_pos h0]
  by_cases hi : i > 0
  ·rw [if_pos hi, refnamed_eq k (by omega), Option.bind_some, if_neg (show ¬ (i == 0) = true by rw [beq_eq_false_iff_ne.2 (by omega)]; exact Bool.false_ne_true)]
   have htw : tinderref08_twin.f k t i (rd_T44 t i).f2 (rd_T44 t i).f0 (rd_T44 t i).f1 = some ((t.take i.toNat).any (isN (rd_T44 t i).f2 (rd_T44 t i).f0 (rd_T44 t i).f1)) := by
    have h := twin_go t (rd_T44 t i).f2 (rd_T44 t i).f0 (rd_T44 t i).f1 i.toNat (by omega) ht hU F hF i.toNat k 0 (Int.le_refl _) (by omega) (by omega)
    rw [ei] at h
    exact h
   rw [htw, Option.bind_some, tail, tail, kidOk]
   generalize (!decide (16 < ((rd_T44 t i).f4.length : Int)) && propsF (rd_T44 t i).f3) = q
   generalize (t.take i.toNat).any (isN (rd_T44 t i).f2 (rd_T44 t i).f0 (rd_T44 t i).f1) = a
   by_cases h2 : namedF (rd_T44 t i).f0 = true
   ·rw [if_pos h2, h2]
    by_cases h3 : ((rd_T44 t i).f1.length : Int) > 4
    ·rw [if_pos h3, decide_eq_true (show (4 : Int) < (rd_T44 t i).f1.length from h3)]
     simp
    ·rw [if_neg h3, decide_eq_false (show ¬ (4 : Int) < (rd_T44 t i).f1.length from h3)]
     by_cases h4 : (rd_T44 t i).f2 < 0
     ·rw [if_pos h4, decide_eq_true h4]
      simp
     ·rw [if_neg h4, decide_eq_false h4]
      by_cases h5 : (rd_T44 t i).f2 ≥ i
      ·rw [if_pos h5, decide_eq_true (show i ≤ (rd_T44 t i).f2 from h5)]
       simp
      ·rw [if_neg h5, decide_eq_false (show ¬ i ≤ (rd_T44 t i).f2 from h5)]
       cases a <;> cases q <;> rfl
   ·rw [if_neg h2, Bool.eq_false_iff.2 h2]
    simp
  ·rw [if_neg hi, tail, if_pos (show (i == 0) = true by rw [beq_iff_eq]; omega)]
   simp
theorem node_first (t : List S44) (h : 0 < t.length) : (List.range t.length).all (nodeOk t) = (rootOk (rd_T44 t 0) && (List.range t.length).all (nodeR t)) := by
 have e1 := range_at t.length 0 h (nodeOk t)
 have e2 := range_at t.length 0 h (nodeR t)
 rw [List.drop_zero] at e1 e2
 rw [e1, e2]
 have e3 : ((List.range t.length).drop 1).all (nodeOk t) = ((List.range t.length).drop 1).all (nodeR t) := by
  rw [Bool.eq_iff_iff, List.all_eq_true, List.all_eq_true]
  have key : ∀ j ∈ (List.range t.length).drop 1, nodeOk t j = nodeR t j := by
   intro j hj
   have h1 : 1 ≤ j := by
    obtain ⟨m, hm, rfl⟩ := List.getElem_of_mem hj
    rw [List.getElem_drop, List.getElem_range]
    omega
   unfold nodeOk nodeR
   rw [if_neg (show ¬ ((j : Int) == 0) = true by rw [beq_eq_false_iff_ne.2 (by omega)]; exact Bool.false_ne_true), if_neg (show ¬ ((j : Int) == 0) = true by rw [beq_eq_false_iff_ne.2 (by omega)]; exact Bool.false_ne_true)]
  exact ⟨fun hh j hj => by rw [← key j hj]; exact hh j hj, fun hh j hj => by rw [key j hj]; exact hh j hj⟩
 rw [show (0 + 1 : Nat) = 1 from rfl, e3]
 have e4 : nodeOk t 0 = (rootOk (rd_T44 t 0) && nodeR t 0) := by
  unfold nodeOk nodeR
  rw [show rd_T44 t 0 = t.getD 0 z44 from rfl]
  simp [Bool.and_comm]
 rw [e4, Bool.and_assoc]
theorem refFormed_eq (t : List S44) (hU : ∀ x ∈ t, x.f1.length ≤ 9223372036854775807) (F : Nat) (hF : ∀ x ∈ t, x.f1.length < F) (B : Nat) (hB : F + 3000 ≤ B) (k : Nat) (hk : 32 * B + 10 ≤ k) : tinderref08_Formed.f k t = some (treeF t) := by
 obtain ⟨k, rfl⟩ : ∃ m, k = m + 1 := ⟨k - 1, by omega⟩
 have hT : ∀ b, tinderref08_Formed.j0 (k + 1) t b = if b = true then some false else tinderref08_Formed.l0 k t 0 := fun b => by rw [tinderref08_Formed.j0]
 unfold tinderref08_Formed.f treeF
 by_cases h1 : (t.length : Int) < 1
 ·rw [if_pos h1, hT, if_pos rfl, beq_iff_eq.2 (show (t.length : Int) = 0 by omega)]
  rfl
 ·rw [if_neg h1, beq_eq_false_iff_ne.2 (show (t.length : Int) ≠ 0 by omega)]
  by_cases h2 : (t.length : Int) > 32
  ·rw [if_pos h2, hT, if_pos rfl, decide_eq_true (show (32 : Int) < t.length from h2)]
   rfl
  ·rw [if_neg h2, decide_eq_false (show ¬ (32 : Int) < t.length from h2), if_pos (by omega), node_first t (by omega)]
   have hn : tinderref08_Formed.l0 k t 0 = some ((List.range t.length).all (nodeR t)) := by
    have hm : t.length * B ≤ 32 * B := Nat.mul_le_mul_right _ (by omega)
    have h := nodes_go t (by omega) hU F hF B hB t.length k 0 (Int.le_refl _) (by omega) (by omega)
    exact h
   rw [hT, hT, hn, rootOk]
   generalize (List.range t.length).all (nodeR t) = q
   by_cases h3 : (rd_T44 t 0).f0.toList = ([] : List UInt8)
   ·rw [if_pos h3, beq_iff_eq.2 h3]
    by_cases h4 : ((rd_T44 t 0).f1.length : Int) > 0
    ·rw [if_pos h4, beq_eq_false_iff_ne.2 (show ((rd_T44 t 0).f1.length : Int) ≠ 0 by omega), if_pos rfl]
     simp
    ·rw [if_neg h4, beq_iff_eq.2 (show ((rd_T44 t 0).f1.length : Int) = 0 by omega)]
     rw [bne]
     cases (rd_T44 t 0).f2 == -1 <;> simp
   ·rw [if_neg h3, beq_eq_false_iff_ne.2 h3, if_pos rfl]
    simp
end Go.Proofs.YtnalcjgefbelnaaDoor.Q
end
section
set_option linter.unusedSimpArgs false
set_option linter.unusedVariables false
namespace Go.Proofs.YtnalcjgefbelnaaDoor.Q
open Go.RowKit Go.Proofs.YtnalcjgefbelnaaDoorW.PrintWords Go.Proofs.YtnalcjgefbelnaaDoorW.PrintLast
theorem same4_self (x : List Int) : tinderref04_Same.f x x = some true := by
 unfold tinderref04_Same.f
 rw [beq_self_eq_true]
theorem sameprops_go (n : ByteArray) (u : List Int) (p : Int) (l : List S53) (ce : List Int) (hl : l.length ≤ 1000000000000000) : ∀ (d k : Nat) (i : Int), 0 ≤ i → i + d = l.length → d < k → tinderref08_SameNode.l0 k i n u p l ce n u p l ce = some true
 | 0, k, i, h0, h1, hk => by
  obtain ⟨k, rfl⟩ : ∃ m, k = m + 1 := ⟨k - 1, by omega⟩
  rw [tinderref08_SameNode.l0, if_neg (by omega)]
 | d + 1, k, i, h0, h1, hk => by
  obtain ⟨k, rfl⟩ : ∃ m, k = m + 1 := ⟨k - 1, by omega⟩
  have hw : wrap64 (i + 1) = i + 1 := by unfold wrap64; omega
  rw [tinderref08_SameNode.l0, if_pos (by omega), if_pos h0, if_pos (by omega), if_pos rfl, same4_self, Option.bind_some, if_pos rfl, hw]
  exact sameprops_go n u p l ce hl d k (i + 1) (by omega) (by omega) (by omega)
/-- Lists of a device that are no longer than B. -/
def LenN (B : Nat) (x : S44) : Prop := x.f1.length ≤ B ∧ x.f4.length ≤ B ∧ x.f3.length ≤ B
theorem samenode_eq (x : S44) (B : Nat) (hB : B ≤ 1000000000000000) (h : LenN B x) (k : Nat) (hk : B + 3 ≤ k) : tinderref08_SameNode.f k x.f0 x.f1 x.f2 x.f3 x.f4 x.f0 x.f1 x.f2 x.f3 x.f4 = some true := by
 obtain ⟨k, rfl⟩ : ∃ m, k = m + 1 := ⟨k - 1, by omega⟩
 obtain ⟨h1, h4, h3⟩ := h
 unfold tinderref08_SameNode.f
 rw [if_pos rfl, if_pos rfl, same3_eq _ _ (by omega) _ (by omega), Option.bind_some, decide_eq_true rfl, if_pos rfl, same3_eq _ _ (by omega) _ (by omega), Option.bind_some, decide_eq_true rfl, if_pos rfl, tinderref08_SameNode.j0, show ((x.f3.length : Int) != (x.f3.length : Int)) = false by simp, if_neg (by decide)]
 exact sameprops_go _ _ _ _ _ (by omega) x.f3.length k 0 (Int.le_refl _) (by omega) (by omega)
theorem same8_go (t : List S44) (B : Nat) (hB : B ≤ 1000000000000000) (ht : t.length ≤ 1000000000000000) (hL : ∀ x ∈ t, LenN B x) : ∀ (d k : Nat) (i : Int), 0 ≤ i → i + d = t.length → d + B + 4 ≤ k → tinderref08_Same.l0 k t t i = some true
 | 0, k, i, h0, h1, hk => by
  obtain ⟨k, rfl⟩ : ∃ m, k = m + 1 := ⟨k - 1, by omega⟩
  rw [tinderref08_Same.l0, if_neg (by omega)]
 | d + 1, k, i, h0, h1, hk => by
  obtain ⟨k, rfl⟩ : ∃ m, k = m + 1 := ⟨k - 1, by omega⟩
  have hw : wrap64 (i + 1) = i + 1 := by unfold wrap64; omega
  have hx : rd_T44 t i ∈ t := by
   unfold rd_T44
   rw [List.getD_eq_getElem?_getD, List.getElem?_eq_getElem (show i.toNat < t.length by omega)]
   exact List.getElem_mem _
  rw [tinderref08_Same.l0, if_pos (by omega), if_pos h0, if_pos (by omega), samenode_eq _ B hB (hL _ hx) k (by omega), Option.bind_some, if_pos rfl, hw]
  exact same8_go t B hB ht hL d k (i + 1) (by omega) (by omega) (by omega)
theorem same8_eq (t : List S44) (B : Nat) (hB : B ≤ 1000000000000000) (ht : t.length ≤ 1000000000000000) (hL : ∀ x ∈ t, LenN B x) (k : Nat) (hk : t.length + B + 4 ≤ k) : tinderref08_Same.f k t t = some true := by
 unfold tinderref08_Same.f
 rw [if_pos rfl]
 exact same8_go t B hB ht hL t.length k 0 (Int.le_refl _) (by omega) hk
end Go.Proofs.YtnalcjgefbelnaaDoor.Q
end
section
namespace Go.Proofs.YtnalcjgefbelnaaDoor.Q
open Go.RowKit Go.Proofs.YtnalcjgefbelnaaDoorW.PrintWords Go.Proofs.YtnalcjgefbelnaaDoorW.PrintLast Go.Proofs.YtnalcjgefbelnaaDoorW.PrintMore
set_option linter.unusedVariables false
set_option linter.unusedSimpArgs false

attribute [local go_sem] max2_int min2_int max_two min_two max_three min_three max_four min_four
/-! ### tinderref03_Copy: function 51 -/
def tinderref03_Copy.f (l0 : List Int) : Option (List Int) := if ([] : List Int).length + l0.length < 35184372088832 then (some (([] : List Int) ++ l0)) else (none)
set_option maxHeartbeats 8000000 in
set_option maxRecDepth 100000 in
theorem tinderref03_Copy.calls (A0 : Option Addr) (c0 : Nat) (l0 : List Int) (r : List Int) (w : World) (hr0 : Kd.C (Kd.int .u32) w A0 l0.length l0) (hc0 : l0.length ≤ c0) (h : tinderref03_Copy.f l0 = some r) :
  Calls Tryd.prog 51 #[.slice A0 l0.length c0] w fun e w' => ∃ v0_ : Value, e = .returned (v0_) ∧ Kd.R (Kd.int .u32) 66 w' w.heap.size (fun _ => True) v0_ r ∧ Below w.heap.size w w' := by
 have HR0 := Aside0.mk hr0
 have HC0 := Aside0.mk hc0
 clear hr0 hc0
 have HB := Aside0.mk (Below.refl w.heap.size w)
 have H : (if ([] : List Int).length + l0.length < 35184372088832 then (some (([] : List Int) ++ l0)) else (none)) = some r := h
 clear h
 by_cases c2 : ([] : List Int).length + l0.length < 35184372088832
 ·rw [if_pos c2] at H
  have LMc2 := Aside0.mk c2
  clear c2
  obtain ⟨y52001, hy52001⟩ : ∃ y_ : List Int, y_ = (([] : List Int) ++ l0) := ⟨_, rfl⟩
  replace H : (some y52001) = some r := by first | (rw [hy52001]; with_reducible exact H) | (have H2_ := (Option.bind_some _ _).symm.trans H; rw [hy52001]; with_reducible exact H2_) | (have H2_ := (Option.bind_some _ _).symm.trans H; with_reducible exact H2_) | with_reducible exact H | (rw [hy52001]; exact H) | exact H
  have Ny52001 := Aside0.mk hy52001
  clear hy52001
  obtain rfl := Option.some.inj H
  go_enter Tryd.func51, Tryd.ntmps51
  go_wp2_with (first | ((with_reducible refine gate_builtin (b := .append) (xs := #[.tmp 4, .tmp 5]) rfl ?_); at_builtin; refine Kd.R_append_rows (Kd.int .u32) (w0 := w) w.heap.size rfl (.tmp 4) (.tmp 5) 31 66 (.int .u32 0) 4 rfl Tryd.underlying31 info66 rfl (by decide) (by omega) (.slice none 0 0) ([] : List Int) l0 _ _ _ (fun _ => True) (fun _ => False) rfl rfl ?aO ?aR (fun _ _ h => h) (fun _ h => h.elim) ?aF ?aB ?aS ?aL ?_; (case aR => repeat (first | exact HR0.out | (with_reducible refine Kd.C_alloc ?_ _) | (with_reducible refine Kd.C_drewN ?_ _) | (with_reducible refine Kd.C_drew ?_))); (case aB => exact (by repeat (first | (with_reducible first | exact HB.out | apply below_alloc | apply pw_below_drewN | apply below_drew1) | exact HB.out))); (case aF => exact (fun _ _ => trivial)); (case aO => exact ((Kd.R_nil _ _ _ _ (fun _ => True)))); (case aS => exact (below_size (by repeat (first | (with_reducible first | exact HB.out | apply below_alloc | apply pw_below_drewN | apply below_drew1) | exact HB.out)))); (case aL => have := LMc2.out; omega); intro v52002 w3 ho hb hg hat; rw [← Ny52001.out] at ho; have n0_ := Aside0.mk (hb); have n1_ := Aside0.mk (ho); clear HB; have HB := n0_; have HO52003 := n1_; clear n0_ n1_; clear ho hb hg hat))
  go_ret
  exact ⟨_, by first | rfl | (simp [errW_none, errW_some] <;> rfl) | (simp [*, errW_none, errW_some] <;> rfl), by (with_reducible repeat (first | apply Kd.R_alloc | apply Kd.R_drewN | apply Kd.R_drew)); exact HO52003.out, by repeat (first | (with_reducible first | exact HB.out | apply below_alloc | apply pw_below_drewN | apply below_drew1) | exact HB.out)⟩
 ·rw [if_neg c2] at H
  exact absurd H (by simp)

end Go.Proofs.YtnalcjgefbelnaaDoor.Q
end
section
namespace Go.Proofs.YtnalcjgefbelnaaDoor.Q
open Go.RowKit Go.Proofs.YtnalcjgefbelnaaDoorW.PrintWords Go.Proofs.YtnalcjgefbelnaaDoorW.PrintLast Go.Proofs.YtnalcjgefbelnaaDoorW.PrintMore
set_option linter.unusedVariables false
set_option linter.unusedSimpArgs false

attribute [local go_sem] max2_int min2_int max_two min_two max_three min_three max_four min_four
/-! ### tinderref04_Copy: function 52 -/
def tinderref04_Copy.f (l0 : List Int) : Option (List Int) := if ([] : List Int).length + l0.length < 140737488355328 then (some (([] : List Int) ++ l0)) else (none)
set_option maxHeartbeats 8000000 in
set_option maxRecDepth 100000 in
theorem tinderref04_Copy.calls (A0 : Option Addr) (c0 : Nat) (l0 : List Int) (r : List Int) (w : World) (hr0 : Kd.C (Kd.int .u8) w A0 l0.length l0) (hc0 : l0.length ≤ c0) (h : tinderref04_Copy.f l0 = some r) :
  Calls Tryd.prog 52 #[.slice A0 l0.length c0] w fun e w' => ∃ v0_ : Value, e = .returned (v0_) ∧ Kd.R (Kd.int .u8) 5 w' w.heap.size (fun _ => True) v0_ r ∧ Below w.heap.size w w' := by
 have HR0 := Aside0.mk hr0
 have HC0 := Aside0.mk hc0
 clear hr0 hc0
 have HB := Aside0.mk (Below.refl w.heap.size w)
 have H : (if ([] : List Int).length + l0.length < 140737488355328 then (some (([] : List Int) ++ l0)) else (none)) = some r := h
 clear h
 by_cases c2 : ([] : List Int).length + l0.length < 140737488355328
 ·rw [if_pos c2] at H
  have LMc2 := Aside0.mk c2
  clear c2
  obtain ⟨y53001, hy53001⟩ : ∃ y_ : List Int, y_ = (([] : List Int) ++ l0) := ⟨_, rfl⟩
  replace H : (some y53001) = some r := by first | (rw [hy53001]; with_reducible exact H) | (have H2_ := (Option.bind_some _ _).symm.trans H; rw [hy53001]; with_reducible exact H2_) | (have H2_ := (Option.bind_some _ _).symm.trans H; with_reducible exact H2_) | with_reducible exact H | (rw [hy53001]; exact H) | exact H
  have Ny53001 := Aside0.mk hy53001
  clear hy53001
  obtain rfl := Option.some.inj H
  go_enter Tryd.func52, Tryd.ntmps52
  go_wp2_with (first | ((with_reducible refine gate_builtin (b := .append) (xs := #[.tmp 4, .tmp 5]) rfl ?_); at_builtin; refine Kd.R_append_rows (Kd.int .u8) (w0 := w) w.heap.size rfl (.tmp 4) (.tmp 5) 28 5 (.int .u8 0) 1 rfl Tryd.underlying28 info5 rfl (by decide) (by omega) (.slice none 0 0) ([] : List Int) l0 _ _ _ (fun _ => True) (fun _ => False) rfl rfl ?aO ?aR (fun _ _ h => h) (fun _ h => h.elim) ?aF ?aB ?aS ?aL ?_; (case aR => repeat (first | exact HR0.out | (with_reducible refine Kd.C_alloc ?_ _) | (with_reducible refine Kd.C_drewN ?_ _) | (with_reducible refine Kd.C_drew ?_))); (case aB => exact (by repeat (first | (with_reducible first | exact HB.out | apply below_alloc | apply pw_below_drewN | apply below_drew1) | exact HB.out))); (case aF => exact (fun _ _ => trivial)); (case aO => exact ((Kd.R_nil _ _ _ _ (fun _ => True)))); (case aS => exact (below_size (by repeat (first | (with_reducible first | exact HB.out | apply below_alloc | apply pw_below_drewN | apply below_drew1) | exact HB.out)))); (case aL => have := LMc2.out; omega); intro v53002 w3 ho hb hg hat; rw [← Ny53001.out] at ho; have n0_ := Aside0.mk (hb); have n1_ := Aside0.mk (ho); clear HB; have HB := n0_; have HO53003 := n1_; clear n0_ n1_; clear ho hb hg hat))
  go_ret
  exact ⟨_, by first | rfl | (simp [errW_none, errW_some] <;> rfl) | (simp [*, errW_none, errW_some] <;> rfl), by (with_reducible repeat (first | apply Kd.R_alloc | apply Kd.R_drewN | apply Kd.R_drew)); exact HO53003.out, by repeat (first | (with_reducible first | exact HB.out | apply below_alloc | apply pw_below_drewN | apply below_drew1) | exact HB.out)⟩
 ·rw [if_neg c2] at H
  exact absurd H (by simp)

end Go.Proofs.YtnalcjgefbelnaaDoor.Q
end
