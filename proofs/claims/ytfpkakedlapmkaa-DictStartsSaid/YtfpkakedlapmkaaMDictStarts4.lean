/- Contracts of Go functions and plain facts, of several texts, one behind the other; no condition. -/
import Derived.Test.YtfpkakedlapmkaaMDictStarts2
import Derived.Test.YtfpkakedlapmkaaMDictStarts3
import Derived.Laws.RangeString
import Derived.Laws.RangeAny
section
namespace Go.Proofs.Ytfpkakedlapmkaa.Q
open Go.RowKit Go.Proofs.YtfpkakedlapmkaaW.PrintWords Go.Proofs.YtfpkakedlapmkaaW.PrintLast Go.Proofs.YtfpkakedlapmkaaW.PrintMore
set_option linter.unusedVariables false
set_option linter.unusedSimpArgs false

attribute [local go_sem] max2_int min2_int max_two min_two max_three min_three max_four min_four
attribute [local go_sem high] eqA69
/-! ### tinderref09_SameWord: function 52 -/
mutual
def tinderref09_SameWord.j0 : Nat → Bool → ByteArray → Int → Int → Int → List (S69) → ByteArray → Int → Int → Int → List (S69) → Option (Bool)
  | 0, _, _, _, _, _, _, _, _, _, _, _ => none
  | k + 1, x40, x53002000, x53002001, x53002002, x53002003, x53002004, x53003000, x53003001, x53003002, x53003003, x53003004 => if x40 = true then (some false) else (tinderref09_SameWord.l0 k 0 x53002000 x53002001 x53002002 x53002003 x53002004 x53003000 x53003001 x53003002 x53003003 x53003004)
def tinderref09_SameWord.l0 : Nat → Int → ByteArray → Int → Int → Int → List (S69) → ByteArray → Int → Int → Int → List (S69) → Option (Bool)
  | 0, _, _, _, _, _, _, _, _, _, _, _ => none
  | k + 1, x5, x53002000, x53002001, x53002002, x53002003, x53002004, x53003000, x53003001, x53003002, x53003003, x53003004 => if x5 < (x53002004.length : Int) then (if 0 ≤ x5 then (if x5 < (x53003004.length : Int) then (if (!(((rd_T69 x53002004 x5).f0) == ((rd_T69 x53003004 x5).f0)) || (!(((rd_T69 x53002004 x5).f1) == ((rd_T69 x53003004 x5).f1)))) = true then (some false) else (tinderref09_SameWord.l0 k (wrap64 (x5 + 1)) x53002000 x53002001 x53002002 x53002003 x53002004 x53003000 x53003001 x53003002 x53003003 x53003004)) else (none)) else (none)) else (some true)
end
def tinderref09_SameWord.f (k : Nat) (a0_0 : ByteArray) (a0_1 : Int) (a0_2 : Int) (a0_3 : Int) (l0_4 : List (S69)) (a1_0 : ByteArray) (a1_1 : Int) (a1_2 : Int) (a1_3 : Int) (l1_4 : List (S69)) : Option (Bool) := if a0_0.toList = a1_0.toList then (if a0_1 = a1_1 then (if a0_2 = a1_2 then (if a0_3 = a1_3 then (tinderref09_SameWord.j0 k ((l0_4.length : Int) != (l1_4.length : Int)) a0_0 a0_1 a0_2 a0_3 l0_4 a1_0 a1_1 a1_2 a1_3 l1_4) else (tinderref09_SameWord.j0 k true a0_0 a0_1 a0_2 a0_3 l0_4 a1_0 a1_1 a1_2 a1_3 l1_4)) else (tinderref09_SameWord.j0 k true a0_0 a0_1 a0_2 a0_3 l0_4 a1_0 a1_1 a1_2 a1_3 l1_4)) else (tinderref09_SameWord.j0 k true a0_0 a0_1 a0_2 a0_3 l0_4 a1_0 a1_1 a1_2 a1_3 l1_4)) else (tinderref09_SameWord.j0 k true a0_0 a0_1 a0_2 a0_3 l0_4 a1_0 a1_1 a1_2 a1_3 l1_4)
set_option maxHeartbeats 8000000 in
set_option maxRecDepth 100000 in
theorem tinderref09_SameWord.calls (k : Nat) (a0_0 : ByteArray) (a0_1 : Int) (a0_2 : Int) (a0_3 : Int) (A0_4 : Option Addr) (c0_4 : Nat) (l0_4 : List (S69)) (a1_0 : ByteArray) (a1_1 : Int) (a1_2 : Int) (a1_3 : Int) (A1_4 : Option Addr) (c1_4 : Nat) (l1_4 : List (S69)) (r : Bool) (w : World) (hr0_4 : Kd.C k69 w A0_4 l0_4.length l0_4) (hc0_4 : l0_4.length ≤ c0_4) (hr1_4 : Kd.C k69 w A1_4 l1_4.length l1_4) (hc1_4 : l1_4.length ≤ c1_4) (h : tinderref09_SameWord.f k a0_0 a0_1 a0_2 a0_3 l0_4 a1_0 a1_1 a1_2 a1_3 l1_4 = some r) :
    Calls Try.prog 52 #[.agg #[.string a0_0, .int .i64 a0_1, .int .i64 a0_2, .int .u32 a0_3, .slice A0_4 l0_4.length c0_4], .agg #[.string a1_0, .int .i64 a1_1, .int .i64 a1_2, .int .u32 a1_3, .slice A1_4 l1_4.length c1_4]] w fun e w' => e = .returned (.bool r) ∧ Below w.heap.size w w' := by
  have hu51 := Try.underlying51
  have hu69 := Try.underlying69
  have HR0_4 := Aside0.mk hr0_4
  have HC0_4 := Aside0.mk hc0_4
  clear hr0_4 hc0_4
  have HR1_4 := Aside0.mk hr1_4
  have HC1_4 := Aside0.mk hc1_4
  clear hr1_4 hc1_4
  have HB := Aside0.mk (Below.refl w.heap.size w)
  have H : (if a0_0.toList = a1_0.toList then (if a0_1 = a1_1 then (if a0_2 = a1_2 then (if a0_3 = a1_3 then (tinderref09_SameWord.j0 k ((l0_4.length : Int) != (l1_4.length : Int)) a0_0 a0_1 a0_2 a0_3 l0_4 a1_0 a1_1 a1_2 a1_3 l1_4) else (tinderref09_SameWord.j0 k true a0_0 a0_1 a0_2 a0_3 l0_4 a1_0 a1_1 a1_2 a1_3 l1_4)) else (tinderref09_SameWord.j0 k true a0_0 a0_1 a0_2 a0_3 l0_4 a1_0 a1_1 a1_2 a1_3 l1_4)) else (tinderref09_SameWord.j0 k true a0_0 a0_1 a0_2 a0_3 l0_4 a1_0 a1_1 a1_2 a1_3 l1_4)) else (tinderref09_SameWord.j0 k true a0_0 a0_1 a0_2 a0_3 l0_4 a1_0 a1_1 a1_2 a1_3 l1_4)) = some r := h
  clear h
  have HC3 := Aside0.mk H
  clear H
  go_enter Try.func52, Try.ntmps52
  go_upto_region 1 with (first | ((with_reducible refine gate_dst (N := 2) rfl ?_); (try (refine gate_guard (by rfl) ?_; dsimp only)); refine box_event ?hg (N := 2) ?hd (cs := #[.string a0_0, .int .i64 a0_1, .int .i64 a0_2, .int .u32 a0_3, .slice A0_4 l0_4.length c0_4]) (t := 51) ?hr ?_; (case hd => rfl); (case hg => rfl); (case hr => first | (go_simp; done) | (go_simp; rfl)); intro gb53001 hg w4 hbox hb; have n0_ := Aside0.mk (below_step (by repeat (first | (with_reducible first | exact HB.out | apply below_alloc | apply pw_below_drewN | apply below_drew1) | exact HB.out)) hb); have n1_ := Aside0.mk (hbox); have n2_ := Aside0.mk ((by rw [hg]; exact (below_size (by repeat (first | (with_reducible first | exact HB.out | apply below_alloc | apply pw_below_drewN | apply below_drew1) | exact HB.out))) : w.heap.size ≤ gb53001)); have n3_ := Aside0.mk ((by rw [hg]; exact (below_size (by repeat (first | (with_reducible first | exact HB.out | apply below_alloc | apply pw_below_drewN | apply below_drew1) | exact HB.out))) : w.heap.size ≤ gb53001)); clear HB; have HB := n0_; have BK53001 := n1_; have GW53001 := n2_; have GE53001 := n3_; clear n0_ n1_ n2_ n3_; clear hb hbox hg) | ((with_reducible refine gate_dst (N := 3) rfl ?_); (try (refine gate_guard (by rfl) ?_; dsimp only)); refine box_event ?hg (N := 3) ?hd (cs := #[.string a1_0, .int .i64 a1_1, .int .i64 a1_2, .int .u32 a1_3, .slice A1_4 l1_4.length c1_4]) (t := 51) ?hr ?_; (case hd => rfl); (case hg => rfl); (case hr => first | (go_simp; done) | (go_simp; rfl)); intro gb53002 hg w5 hbox hb; have n0_ := Aside0.mk (blk_below (g := gb53001) (o := .cells #[.string a0_0, .int .i64 a0_1, .int .i64 a0_2, .int .u32 a0_3, .slice A0_4 l0_4.length c0_4] 51 (0, 0)) (by (with_reducible repeat (first | refine blk_drewN ?_ _ | refine blk_drew ?_ | refine blk_alloc ?_ _)); exact BK53001.out) hb); have n1_ := Aside0.mk (below_step (by repeat (first | (with_reducible first | exact HB.out | apply below_alloc | apply pw_below_drewN | apply below_drew1 | refine below_set ?_ GE53001.out) | exact HB.out)) hb); have n2_ := Aside0.mk (hbox); have n3_ := Aside0.mk ((by rw [hg]; exact (below_size (by repeat (first | (with_reducible first | exact HB.out | apply below_alloc | apply pw_below_drewN | apply below_drew1 | refine below_set ?_ GE53001.out) | exact HB.out))) : w.heap.size ≤ gb53002)); have n4_ := Aside0.mk ((by rw [hg]; exact (below_size (by repeat (first | (with_reducible first | exact HB.out | apply below_alloc | apply pw_below_drewN | apply below_drew1 | refine below_set ?_ GE53001.out) | exact HB.out))) : w.heap.size ≤ gb53002)); have n5_ := Aside0.mk ((by rw [hg]; exact Nat.ne_of_lt (blk_lt (g := gb53001) (o := .cells #[.string a0_0, .int .i64 a0_1, .int .i64 a0_2, .int .u32 a0_3, .slice A0_4 l0_4.length c0_4] 51 (0, 0)) (by (with_reducible repeat (first | refine blk_drewN ?_ _ | refine blk_drew ?_ | refine blk_alloc ?_ _)); exact BK53001.out)) : gb53001 ≠ gb53002)); have n6_ := Aside0.mk ((by rw [hg]; exact Nat.ne_of_gt (blk_lt (g := gb53001) (o := .cells #[.string a0_0, .int .i64 a0_1, .int .i64 a0_2, .int .u32 a0_3, .slice A0_4 l0_4.length c0_4] 51 (0, 0)) (by (with_reducible repeat (first | refine blk_drewN ?_ _ | refine blk_drew ?_ | refine blk_alloc ?_ _)); exact BK53001.out)) : gb53002 ≠ gb53001)); clear BK53001; clear HB; have BK53001 := n0_; have HB := n1_; have BK53002 := n2_; have GW53002 := n3_; have GE53002 := n4_; have NB53001_53002 := n5_; have NB53002_53001 := n6_; clear n0_ n1_ n2_ n3_ n4_ n5_ n6_; clear hb hbox hg))
  repeat (go_quiet (first | ((with_reducible refine gate_dst (N := 2) rfl ?_); (try (refine gate_guard (by rfl) ?_; dsimp only)); refine box_event ?hg (N := 2) ?hd (cs := #[.string a0_0, .int .i64 a0_1, .int .i64 a0_2, .int .u32 a0_3, .slice A0_4 l0_4.length c0_4]) (t := 51) ?hr ?_; (case hd => rfl); (case hg => rfl); (case hr => first | (go_simp; done) | (go_simp; rfl)); intro gb53001 hg w4 hbox hb; have n0_ := Aside0.mk (below_step (by repeat (first | (with_reducible first | exact HB.out | apply below_alloc | apply pw_below_drewN | apply below_drew1) | exact HB.out)) hb); have n1_ := Aside0.mk (hbox); have n2_ := Aside0.mk ((by rw [hg]; exact (below_size (by repeat (first | (with_reducible first | exact HB.out | apply below_alloc | apply pw_below_drewN | apply below_drew1) | exact HB.out))) : w.heap.size ≤ gb53001)); have n3_ := Aside0.mk ((by rw [hg]; exact (below_size (by repeat (first | (with_reducible first | exact HB.out | apply below_alloc | apply pw_below_drewN | apply below_drew1) | exact HB.out))) : w.heap.size ≤ gb53001)); clear HB; have HB := n0_; have BK53001 := n1_; have GW53001 := n2_; have GE53001 := n3_; clear n0_ n1_ n2_ n3_; clear hb hbox hg) | ((with_reducible refine gate_dst (N := 3) rfl ?_); (try (refine gate_guard (by rfl) ?_; dsimp only)); refine box_event ?hg (N := 3) ?hd (cs := #[.string a1_0, .int .i64 a1_1, .int .i64 a1_2, .int .u32 a1_3, .slice A1_4 l1_4.length c1_4]) (t := 51) ?hr ?_; (case hd => rfl); (case hg => rfl); (case hr => first | (go_simp; done) | (go_simp; rfl)); intro gb53002 hg w5 hbox hb; have n0_ := Aside0.mk (blk_below (g := gb53001) (o := .cells #[.string a0_0, .int .i64 a0_1, .int .i64 a0_2, .int .u32 a0_3, .slice A0_4 l0_4.length c0_4] 51 (0, 0)) (by (with_reducible repeat (first | refine blk_drewN ?_ _ | refine blk_drew ?_ | refine blk_alloc ?_ _)); exact BK53001.out) hb); have n1_ := Aside0.mk (below_step (by repeat (first | (with_reducible first | exact HB.out | apply below_alloc | apply pw_below_drewN | apply below_drew1 | refine below_set ?_ GE53001.out) | exact HB.out)) hb); have n2_ := Aside0.mk (hbox); have n3_ := Aside0.mk ((by rw [hg]; exact (below_size (by repeat (first | (with_reducible first | exact HB.out | apply below_alloc | apply pw_below_drewN | apply below_drew1 | refine below_set ?_ GE53001.out) | exact HB.out))) : w.heap.size ≤ gb53002)); have n4_ := Aside0.mk ((by rw [hg]; exact (below_size (by repeat (first | (with_reducible first | exact HB.out | apply below_alloc | apply pw_below_drewN | apply below_drew1 | refine below_set ?_ GE53001.out) | exact HB.out))) : w.heap.size ≤ gb53002)); have n5_ := Aside0.mk ((by rw [hg]; exact Nat.ne_of_lt (blk_lt (g := gb53001) (o := .cells #[.string a0_0, .int .i64 a0_1, .int .i64 a0_2, .int .u32 a0_3, .slice A0_4 l0_4.length c0_4] 51 (0, 0)) (by (with_reducible repeat (first | refine blk_drewN ?_ _ | refine blk_drew ?_ | refine blk_alloc ?_ _)); exact BK53001.out)) : gb53001 ≠ gb53002)); have n6_ := Aside0.mk ((by rw [hg]; exact Nat.ne_of_gt (blk_lt (g := gb53001) (o := .cells #[.string a0_0, .int .i64 a0_1, .int .i64 a0_2, .int .u32 a0_3, .slice A0_4 l0_4.length c0_4] 51 (0, 0)) (by (with_reducible repeat (first | refine blk_drewN ?_ _ | refine blk_drew ?_ | refine blk_alloc ?_ _)); exact BK53001.out)) : gb53002 ≠ gb53001)); clear BK53001; clear HB; have BK53001 := n0_; have HB := n1_; have BK53002 := n2_; have GW53002 := n3_; have GE53002 := n4_; have NB53001_53002 := n5_; have NB53002_53001 := n6_; clear n0_ n1_ n2_ n3_ n4_ n5_ n6_; clear hb hbox hg)); go_upto_region 1 with (first | ((with_reducible refine gate_dst (N := 2) rfl ?_); (try (refine gate_guard (by rfl) ?_; dsimp only)); refine box_event ?hg (N := 2) ?hd (cs := #[.string a0_0, .int .i64 a0_1, .int .i64 a0_2, .int .u32 a0_3, .slice A0_4 l0_4.length c0_4]) (t := 51) ?hr ?_; (case hd => rfl); (case hg => rfl); (case hr => first | (go_simp; done) | (go_simp; rfl)); intro gb53001 hg w4 hbox hb; have n0_ := Aside0.mk (below_step (by repeat (first | (with_reducible first | exact HB.out | apply below_alloc | apply pw_below_drewN | apply below_drew1) | exact HB.out)) hb); have n1_ := Aside0.mk (hbox); have n2_ := Aside0.mk ((by rw [hg]; exact (below_size (by repeat (first | (with_reducible first | exact HB.out | apply below_alloc | apply pw_below_drewN | apply below_drew1) | exact HB.out))) : w.heap.size ≤ gb53001)); have n3_ := Aside0.mk ((by rw [hg]; exact (below_size (by repeat (first | (with_reducible first | exact HB.out | apply below_alloc | apply pw_below_drewN | apply below_drew1) | exact HB.out))) : w.heap.size ≤ gb53001)); clear HB; have HB := n0_; have BK53001 := n1_; have GW53001 := n2_; have GE53001 := n3_; clear n0_ n1_ n2_ n3_; clear hb hbox hg) | ((with_reducible refine gate_dst (N := 3) rfl ?_); (try (refine gate_guard (by rfl) ?_; dsimp only)); refine box_event ?hg (N := 3) ?hd (cs := #[.string a1_0, .int .i64 a1_1, .int .i64 a1_2, .int .u32 a1_3, .slice A1_4 l1_4.length c1_4]) (t := 51) ?hr ?_; (case hd => rfl); (case hg => rfl); (case hr => first | (go_simp; done) | (go_simp; rfl)); intro gb53002 hg w5 hbox hb; have n0_ := Aside0.mk (blk_below (g := gb53001) (o := .cells #[.string a0_0, .int .i64 a0_1, .int .i64 a0_2, .int .u32 a0_3, .slice A0_4 l0_4.length c0_4] 51 (0, 0)) (by (with_reducible repeat (first | refine blk_drewN ?_ _ | refine blk_drew ?_ | refine blk_alloc ?_ _)); exact BK53001.out) hb); have n1_ := Aside0.mk (below_step (by repeat (first | (with_reducible first | exact HB.out | apply below_alloc | apply pw_below_drewN | apply below_drew1 | refine below_set ?_ GE53001.out) | exact HB.out)) hb); have n2_ := Aside0.mk (hbox); have n3_ := Aside0.mk ((by rw [hg]; exact (below_size (by repeat (first | (with_reducible first | exact HB.out | apply below_alloc | apply pw_below_drewN | apply below_drew1 | refine below_set ?_ GE53001.out) | exact HB.out))) : w.heap.size ≤ gb53002)); have n4_ := Aside0.mk ((by rw [hg]; exact (below_size (by repeat (first | (with_reducible first | exact HB.out | apply below_alloc | apply pw_below_drewN | apply below_drew1 | refine below_set ?_ GE53001.out) | exact HB.out))) : w.heap.size ≤ gb53002)); have n5_ := Aside0.mk ((by rw [hg]; exact Nat.ne_of_lt (blk_lt (g := gb53001) (o := .cells #[.string a0_0, .int .i64 a0_1, .int .i64 a0_2, .int .u32 a0_3, .slice A0_4 l0_4.length c0_4] 51 (0, 0)) (by (with_reducible repeat (first | refine blk_drewN ?_ _ | refine blk_drew ?_ | refine blk_alloc ?_ _)); exact BK53001.out)) : gb53001 ≠ gb53002)); have n6_ := Aside0.mk ((by rw [hg]; exact Nat.ne_of_gt (blk_lt (g := gb53001) (o := .cells #[.string a0_0, .int .i64 a0_1, .int .i64 a0_2, .int .u32 a0_3, .slice A0_4 l0_4.length c0_4] 51 (0, 0)) (by (with_reducible repeat (first | refine blk_drewN ?_ _ | refine blk_drew ?_ | refine blk_alloc ?_ _)); exact BK53001.out)) : gb53002 ≠ gb53001)); clear BK53001; clear HB; have BK53001 := n0_; have HB := n1_; have BK53002 := n2_; have GW53002 := n3_; have GE53002 := n4_; have NB53001_53002 := n5_; have NB53002_53001 := n6_; clear n0_ n1_ n2_ n3_ n4_ n5_ n6_; clear hb hbox hg)))
  (try simp only [Act.put, List.setIfInBounds_toArray, List.set_cons_zero, List.set_cons_succ])
  go_cut [40] (fun v40 wc => ∃ (kq : Nat) (x40_2 : Bool), v40 = .bool x40_2 ∧ Aside0 (tinderref09_SameWord.j0 kq x40_2 a0_0 a0_1 a0_2 a0_3 l0_4 a1_0 a1_1 a1_2 a1_3 l1_4 = some r) ∧ Aside0 (kq ≤ k) ∧ Aside0 (wc.heap[gb53001]? = some (.cells #[.string a0_0, .int .i64 a0_1, .int .i64 a0_2, .int .u32 a0_3, (.slice A0_4 l0_4.length c0_4)] 51 (0, 0))) ∧ Aside0 (wc.heap[gb53002]? = some (.cells #[.string a1_0, .int .i64 a1_1, .int .i64 a1_2, .int .u32 a1_3, (.slice A1_4 l1_4.length c1_4)] 51 (0, 0))) ∧ Aside0 (Below w.heap.size w wc))
  case first =>
    have H := HC3.out
    clear HC3
    by_cases c6 : a0_0.toList = a1_0.toList
    · rw [if_pos c6] at H
      have c6b0 : (a0_0.toList == a1_0.toList) = true := beq_iff_eq.mpr c6
      have c6b1 : (a0_0.toList != a1_0.toList) = false := bne_eq_false_iff_eq.mpr c6
      clear c6
      (first | rw [c6b0] | (simp only [i64_w, i32_w]; rw [c6b0]) | skip)
      by_cases c7 : a0_1 = a1_1
      · rw [if_pos c7] at H
        have c7b0 : (a0_1 == a1_1) = true := beq_iff_eq.mpr c7
        have c7b1 : (a0_1 != a1_1) = false := bne_eq_false_iff_eq.mpr c7
        clear c7
        by_cases c8 : a0_2 = a1_2
        · rw [if_pos c8] at H
          have c8b0 : (a0_2 == a1_2) = true := beq_iff_eq.mpr c8
          have c8b1 : (a0_2 != a1_2) = false := bne_eq_false_iff_eq.mpr c8
          clear c8
          by_cases c9 : a0_3 = a1_3
          · rw [if_pos c9] at H
            have c9b0 : (a0_3 == a1_3) = true := beq_iff_eq.mpr c9
            have c9b1 : (a0_3 != a1_3) = false := bne_eq_false_iff_eq.mpr c9
            clear c9
            have H' := Aside0.mk H
            clear H
            have hnb10 := NB53001_53002.out
            have hnc10 := NB53002_53001.out
            have hcz11_0 : w5.cell? ⟨gb53001, 0, none⟩ = some (.string a0_0) := (blk_cell BK53001.out 0).trans rfl
            have hcz11_1 : w5.cell? ⟨gb53001, 1, none⟩ = some (.int .i64 a0_1) := (blk_cell BK53001.out 1).trans rfl
            have hcz11_2 : w5.cell? ⟨gb53001, 2, none⟩ = some (.int .i64 a0_2) := (blk_cell BK53001.out 2).trans rfl
            have hcz11_3 : w5.cell? ⟨gb53001, 3, none⟩ = some (.int .u32 a0_3) := (blk_cell BK53001.out 3).trans rfl
            have hcz11_4 : w5.cell? ⟨gb53001, 4, none⟩ = some (.slice A0_4 l0_4.length c0_4) := (blk_cell BK53001.out 4).trans rfl
            have hfz11_0 := blk_frozen BK53001.out 0
            have hfz11_1 := blk_frozen BK53001.out 1
            have hfz11_2 := blk_frozen BK53001.out 2
            have hfz11_3 := blk_frozen BK53001.out 3
            have hfz11_4 := blk_frozen BK53001.out 4
            have hcz12_0 : w5.cell? ⟨gb53002, 0, none⟩ = some (.string a1_0) := (blk_cell BK53002.out 0).trans rfl
            have hcz12_1 : w5.cell? ⟨gb53002, 1, none⟩ = some (.int .i64 a1_1) := (blk_cell BK53002.out 1).trans rfl
            have hcz12_2 : w5.cell? ⟨gb53002, 2, none⟩ = some (.int .i64 a1_2) := (blk_cell BK53002.out 2).trans rfl
            have hcz12_3 : w5.cell? ⟨gb53002, 3, none⟩ = some (.int .u32 a1_3) := (blk_cell BK53002.out 3).trans rfl
            have hcz12_4 : w5.cell? ⟨gb53002, 4, none⟩ = some (.slice A1_4 l1_4.length c1_4) := (blk_cell BK53002.out 4).trans rfl
            have hfz12_0 := blk_frozen BK53002.out 0
            have hfz12_1 := blk_frozen BK53002.out 1
            have hfz12_2 := blk_frozen BK53002.out 2
            have hfz12_3 := blk_frozen BK53002.out 3
            have hfz12_4 := blk_frozen BK53002.out 4
            go_wp2
            repeat (go_quiet (fail); try go_wp2)
            go_meet
            case rel => exact ⟨_, (((l0_4.length : Int) != (l1_4.length : Int))), (by first | rfl | (simp; done) | (simp [*]; done)), H', ⟨by first | omega | exact Nat.le_refl _⟩, ⟨by (with_reducible repeat (first | refine blk_drewN ?_ _ | refine blk_drew ?_ | refine blk_alloc ?_ _)); exact BK53001.out⟩, ⟨by (with_reducible repeat (first | refine blk_drewN ?_ _ | refine blk_drew ?_ | refine blk_alloc ?_ _)); exact BK53002.out⟩, ⟨by repeat (first | (with_reducible first | exact HB.out | apply below_alloc | apply pw_below_drewN | apply below_drew1 | refine below_set ?_ GE53001.out | refine below_set ?_ GE53002.out) | exact HB.out)⟩⟩
          · rw [if_neg c9] at H
            have c9b0 : (a0_3 == a1_3) = false := beq_eq_false_iff_ne.mpr c9
            have c9b1 : (a0_3 != a1_3) = true := bne_iff_ne.mpr c9
            have H' := Aside0.mk H
            clear H
            have hnb13 := NB53001_53002.out
            have hnc13 := NB53002_53001.out
            have hcz14_0 : w5.cell? ⟨gb53001, 0, none⟩ = some (.string a0_0) := (blk_cell BK53001.out 0).trans rfl
            have hcz14_1 : w5.cell? ⟨gb53001, 1, none⟩ = some (.int .i64 a0_1) := (blk_cell BK53001.out 1).trans rfl
            have hcz14_2 : w5.cell? ⟨gb53001, 2, none⟩ = some (.int .i64 a0_2) := (blk_cell BK53001.out 2).trans rfl
            have hcz14_3 : w5.cell? ⟨gb53001, 3, none⟩ = some (.int .u32 a0_3) := (blk_cell BK53001.out 3).trans rfl
            have hcz14_4 : w5.cell? ⟨gb53001, 4, none⟩ = some (.slice A0_4 l0_4.length c0_4) := (blk_cell BK53001.out 4).trans rfl
            have hfz14_0 := blk_frozen BK53001.out 0
            have hfz14_1 := blk_frozen BK53001.out 1
            have hfz14_2 := blk_frozen BK53001.out 2
            have hfz14_3 := blk_frozen BK53001.out 3
            have hfz14_4 := blk_frozen BK53001.out 4
            have hcz15_0 : w5.cell? ⟨gb53002, 0, none⟩ = some (.string a1_0) := (blk_cell BK53002.out 0).trans rfl
            have hcz15_1 : w5.cell? ⟨gb53002, 1, none⟩ = some (.int .i64 a1_1) := (blk_cell BK53002.out 1).trans rfl
            have hcz15_2 : w5.cell? ⟨gb53002, 2, none⟩ = some (.int .i64 a1_2) := (blk_cell BK53002.out 2).trans rfl
            have hcz15_3 : w5.cell? ⟨gb53002, 3, none⟩ = some (.int .u32 a1_3) := (blk_cell BK53002.out 3).trans rfl
            have hcz15_4 : w5.cell? ⟨gb53002, 4, none⟩ = some (.slice A1_4 l1_4.length c1_4) := (blk_cell BK53002.out 4).trans rfl
            have hfz15_0 := blk_frozen BK53002.out 0
            have hfz15_1 := blk_frozen BK53002.out 1
            have hfz15_2 := blk_frozen BK53002.out 2
            have hfz15_3 := blk_frozen BK53002.out 3
            have hfz15_4 := blk_frozen BK53002.out 4
            go_wp2
            repeat (go_quiet (fail); try go_wp2)
            go_meet
            case rel => exact ⟨_, (true), (by first | rfl | (simp; done) | (simp [*]; done)), H', ⟨by first | omega | exact Nat.le_refl _⟩, ⟨by (with_reducible repeat (first | refine blk_drewN ?_ _ | refine blk_drew ?_ | refine blk_alloc ?_ _)); exact BK53001.out⟩, ⟨by (with_reducible repeat (first | refine blk_drewN ?_ _ | refine blk_drew ?_ | refine blk_alloc ?_ _)); exact BK53002.out⟩, ⟨by repeat (first | (with_reducible first | exact HB.out | apply below_alloc | apply pw_below_drewN | apply below_drew1 | refine below_set ?_ GE53001.out | refine below_set ?_ GE53002.out) | exact HB.out)⟩⟩
        · rw [if_neg c8] at H
          have c8b0 : (a0_2 == a1_2) = false := beq_eq_false_iff_ne.mpr c8
          have c8b1 : (a0_2 != a1_2) = true := bne_iff_ne.mpr c8
          have H' := Aside0.mk H
          clear H
          have hnb16 := NB53001_53002.out
          have hnc16 := NB53002_53001.out
          have hcz17_0 : w5.cell? ⟨gb53001, 0, none⟩ = some (.string a0_0) := (blk_cell BK53001.out 0).trans rfl
          have hcz17_1 : w5.cell? ⟨gb53001, 1, none⟩ = some (.int .i64 a0_1) := (blk_cell BK53001.out 1).trans rfl
          have hcz17_2 : w5.cell? ⟨gb53001, 2, none⟩ = some (.int .i64 a0_2) := (blk_cell BK53001.out 2).trans rfl
          have hcz17_3 : w5.cell? ⟨gb53001, 3, none⟩ = some (.int .u32 a0_3) := (blk_cell BK53001.out 3).trans rfl
          have hcz17_4 : w5.cell? ⟨gb53001, 4, none⟩ = some (.slice A0_4 l0_4.length c0_4) := (blk_cell BK53001.out 4).trans rfl
          have hfz17_0 := blk_frozen BK53001.out 0
          have hfz17_1 := blk_frozen BK53001.out 1
          have hfz17_2 := blk_frozen BK53001.out 2
          have hfz17_3 := blk_frozen BK53001.out 3
          have hfz17_4 := blk_frozen BK53001.out 4
          have hcz18_0 : w5.cell? ⟨gb53002, 0, none⟩ = some (.string a1_0) := (blk_cell BK53002.out 0).trans rfl
          have hcz18_1 : w5.cell? ⟨gb53002, 1, none⟩ = some (.int .i64 a1_1) := (blk_cell BK53002.out 1).trans rfl
          have hcz18_2 : w5.cell? ⟨gb53002, 2, none⟩ = some (.int .i64 a1_2) := (blk_cell BK53002.out 2).trans rfl
          have hcz18_3 : w5.cell? ⟨gb53002, 3, none⟩ = some (.int .u32 a1_3) := (blk_cell BK53002.out 3).trans rfl
          have hcz18_4 : w5.cell? ⟨gb53002, 4, none⟩ = some (.slice A1_4 l1_4.length c1_4) := (blk_cell BK53002.out 4).trans rfl
          have hfz18_0 := blk_frozen BK53002.out 0
          have hfz18_1 := blk_frozen BK53002.out 1
          have hfz18_2 := blk_frozen BK53002.out 2
          have hfz18_3 := blk_frozen BK53002.out 3
          have hfz18_4 := blk_frozen BK53002.out 4
          go_wp2
          repeat (go_quiet (fail); try go_wp2)
          go_meet
          case rel => exact ⟨_, (true), (by first | rfl | (simp; done) | (simp [*]; done)), H', ⟨by first | omega | exact Nat.le_refl _⟩, ⟨by (with_reducible repeat (first | refine blk_drewN ?_ _ | refine blk_drew ?_ | refine blk_alloc ?_ _)); exact BK53001.out⟩, ⟨by (with_reducible repeat (first | refine blk_drewN ?_ _ | refine blk_drew ?_ | refine blk_alloc ?_ _)); exact BK53002.out⟩, ⟨by repeat (first | (with_reducible first | exact HB.out | apply below_alloc | apply pw_below_drewN | apply below_drew1 | refine below_set ?_ GE53001.out | refine below_set ?_ GE53002.out) | exact HB.out)⟩⟩
      · rw [if_neg c7] at H
        have c7b0 : (a0_1 == a1_1) = false := beq_eq_false_iff_ne.mpr c7
        have c7b1 : (a0_1 != a1_1) = true := bne_iff_ne.mpr c7
        have H' := Aside0.mk H
        clear H
        have hnb19 := NB53001_53002.out
        have hnc19 := NB53002_53001.out
        have hcz20_0 : w5.cell? ⟨gb53001, 0, none⟩ = some (.string a0_0) := (blk_cell BK53001.out 0).trans rfl
        have hcz20_1 : w5.cell? ⟨gb53001, 1, none⟩ = some (.int .i64 a0_1) := (blk_cell BK53001.out 1).trans rfl
        have hcz20_2 : w5.cell? ⟨gb53001, 2, none⟩ = some (.int .i64 a0_2) := (blk_cell BK53001.out 2).trans rfl
        have hcz20_3 : w5.cell? ⟨gb53001, 3, none⟩ = some (.int .u32 a0_3) := (blk_cell BK53001.out 3).trans rfl
        have hcz20_4 : w5.cell? ⟨gb53001, 4, none⟩ = some (.slice A0_4 l0_4.length c0_4) := (blk_cell BK53001.out 4).trans rfl
        have hfz20_0 := blk_frozen BK53001.out 0
        have hfz20_1 := blk_frozen BK53001.out 1
        have hfz20_2 := blk_frozen BK53001.out 2
        have hfz20_3 := blk_frozen BK53001.out 3
        have hfz20_4 := blk_frozen BK53001.out 4
        have hcz21_0 : w5.cell? ⟨gb53002, 0, none⟩ = some (.string a1_0) := (blk_cell BK53002.out 0).trans rfl
        have hcz21_1 : w5.cell? ⟨gb53002, 1, none⟩ = some (.int .i64 a1_1) := (blk_cell BK53002.out 1).trans rfl
        have hcz21_2 : w5.cell? ⟨gb53002, 2, none⟩ = some (.int .i64 a1_2) := (blk_cell BK53002.out 2).trans rfl
        have hcz21_3 : w5.cell? ⟨gb53002, 3, none⟩ = some (.int .u32 a1_3) := (blk_cell BK53002.out 3).trans rfl
        have hcz21_4 : w5.cell? ⟨gb53002, 4, none⟩ = some (.slice A1_4 l1_4.length c1_4) := (blk_cell BK53002.out 4).trans rfl
        have hfz21_0 := blk_frozen BK53002.out 0
        have hfz21_1 := blk_frozen BK53002.out 1
        have hfz21_2 := blk_frozen BK53002.out 2
        have hfz21_3 := blk_frozen BK53002.out 3
        have hfz21_4 := blk_frozen BK53002.out 4
        go_wp2
        repeat (go_quiet (fail); try go_wp2)
        go_meet
        case rel => exact ⟨_, (true), (by first | rfl | (simp; done) | (simp [*]; done)), H', ⟨by first | omega | exact Nat.le_refl _⟩, ⟨by (with_reducible repeat (first | refine blk_drewN ?_ _ | refine blk_drew ?_ | refine blk_alloc ?_ _)); exact BK53001.out⟩, ⟨by (with_reducible repeat (first | refine blk_drewN ?_ _ | refine blk_drew ?_ | refine blk_alloc ?_ _)); exact BK53002.out⟩, ⟨by repeat (first | (with_reducible first | exact HB.out | apply below_alloc | apply pw_below_drewN | apply below_drew1 | refine below_set ?_ GE53001.out | refine below_set ?_ GE53002.out) | exact HB.out)⟩⟩
    · rw [if_neg c6] at H
      have c6b0 : (a0_0.toList == a1_0.toList) = false := beq_eq_false_iff_ne.mpr c6
      have c6b1 : (a0_0.toList != a1_0.toList) = true := bne_iff_ne.mpr c6
      (first | rw [c6b0] | (simp only [i64_w, i32_w]; rw [c6b0]) | skip)
      have H' := Aside0.mk H
      clear H
      have hnb22 := NB53001_53002.out
      have hnc22 := NB53002_53001.out
      have hcz23_0 : w5.cell? ⟨gb53001, 0, none⟩ = some (.string a0_0) := (blk_cell BK53001.out 0).trans rfl
      have hcz23_1 : w5.cell? ⟨gb53001, 1, none⟩ = some (.int .i64 a0_1) := (blk_cell BK53001.out 1).trans rfl
      have hcz23_2 : w5.cell? ⟨gb53001, 2, none⟩ = some (.int .i64 a0_2) := (blk_cell BK53001.out 2).trans rfl
      have hcz23_3 : w5.cell? ⟨gb53001, 3, none⟩ = some (.int .u32 a0_3) := (blk_cell BK53001.out 3).trans rfl
      have hcz23_4 : w5.cell? ⟨gb53001, 4, none⟩ = some (.slice A0_4 l0_4.length c0_4) := (blk_cell BK53001.out 4).trans rfl
      have hfz23_0 := blk_frozen BK53001.out 0
      have hfz23_1 := blk_frozen BK53001.out 1
      have hfz23_2 := blk_frozen BK53001.out 2
      have hfz23_3 := blk_frozen BK53001.out 3
      have hfz23_4 := blk_frozen BK53001.out 4
      have hcz24_0 : w5.cell? ⟨gb53002, 0, none⟩ = some (.string a1_0) := (blk_cell BK53002.out 0).trans rfl
      have hcz24_1 : w5.cell? ⟨gb53002, 1, none⟩ = some (.int .i64 a1_1) := (blk_cell BK53002.out 1).trans rfl
      have hcz24_2 : w5.cell? ⟨gb53002, 2, none⟩ = some (.int .i64 a1_2) := (blk_cell BK53002.out 2).trans rfl
      have hcz24_3 : w5.cell? ⟨gb53002, 3, none⟩ = some (.int .u32 a1_3) := (blk_cell BK53002.out 3).trans rfl
      have hcz24_4 : w5.cell? ⟨gb53002, 4, none⟩ = some (.slice A1_4 l1_4.length c1_4) := (blk_cell BK53002.out 4).trans rfl
      have hfz24_0 := blk_frozen BK53002.out 0
      have hfz24_1 := blk_frozen BK53002.out 1
      have hfz24_2 := blk_frozen BK53002.out 2
      have hfz24_3 := blk_frozen BK53002.out 3
      have hfz24_4 := blk_frozen BK53002.out 4
      go_wp2
      repeat (go_quiet (fail); try go_wp2)
      go_meet
      case rel => exact ⟨_, (true), (by first | rfl | (simp; done) | (simp [*]; done)), H', ⟨by first | omega | exact Nat.le_refl _⟩, ⟨by (with_reducible repeat (first | refine blk_drewN ?_ _ | refine blk_drew ?_ | refine blk_alloc ?_ _)); exact BK53001.out⟩, ⟨by (with_reducible repeat (first | refine blk_drewN ?_ _ | refine blk_drew ?_ | refine blk_alloc ?_ _)); exact BK53002.out⟩, ⟨by repeat (first | (with_reducible first | exact HB.out | apply below_alloc | apply pw_below_drewN | apply below_drew1 | refine below_set ?_ GE53001.out | refine below_set ?_ GE53002.out) | exact HB.out)⟩⟩
  case rest =>
    clear HC3
    try clear c1
    try clear c2
    try clear p2
    try clear c5
    try clear c6
    try clear c6b0
    try clear c6b1
    try clear c7
    try clear c7b0
    try clear c7b1
    try clear c8
    try clear c8b0
    try clear c8b1
    try clear c9
    try clear c9b0
    try clear c9b1
    try clear c10
    try clear c13
    try clear c16
    try clear c19
    try clear c22
    try clear hcz11_0
    try clear hcz11_1
    try clear hcz11_2
    try clear hcz11_3
    try clear hcz11_4
    try clear hcz12_0
    try clear hcz12_1
    try clear hcz12_2
    try clear hcz12_3
    try clear hcz12_4
    try clear hcz14_0
    try clear hcz14_1
    try clear hcz14_2
    try clear hcz14_3
    try clear hcz14_4
    try clear hcz15_0
    try clear hcz15_1
    try clear hcz15_2
    try clear hcz15_3
    try clear hcz15_4
    try clear hcz17_0
    try clear hcz17_1
    try clear hcz17_2
    try clear hcz17_3
    try clear hcz17_4
    try clear hcz18_0
    try clear hcz18_1
    try clear hcz18_2
    try clear hcz18_3
    try clear hcz18_4
    try clear hcz20_0
    try clear hcz20_1
    try clear hcz20_2
    try clear hcz20_3
    try clear hcz20_4
    try clear hcz21_0
    try clear hcz21_1
    try clear hcz21_2
    try clear hcz21_3
    try clear hcz21_4
    try clear hcz23_0
    try clear hcz23_1
    try clear hcz23_2
    try clear hcz23_3
    try clear hcz23_4
    try clear hcz24_0
    try clear hcz24_1
    try clear hcz24_2
    try clear hcz24_3
    try clear hcz24_4
    try clear hfz11_0
    try clear hfz11_1
    try clear hfz11_2
    try clear hfz11_3
    try clear hfz11_4
    try clear hfz12_0
    try clear hfz12_1
    try clear hfz12_2
    try clear hfz12_3
    try clear hfz12_4
    try clear hfz14_0
    try clear hfz14_1
    try clear hfz14_2
    try clear hfz14_3
    try clear hfz14_4
    try clear hfz15_0
    try clear hfz15_1
    try clear hfz15_2
    try clear hfz15_3
    try clear hfz15_4
    try clear hfz17_0
    try clear hfz17_1
    try clear hfz17_2
    try clear hfz17_3
    try clear hfz17_4
    try clear hfz18_0
    try clear hfz18_1
    try clear hfz18_2
    try clear hfz18_3
    try clear hfz18_4
    try clear hfz20_0
    try clear hfz20_1
    try clear hfz20_2
    try clear hfz20_3
    try clear hfz20_4
    try clear hfz21_0
    try clear hfz21_1
    try clear hfz21_2
    try clear hfz21_3
    try clear hfz21_4
    try clear hfz23_0
    try clear hfz23_1
    try clear hfz23_2
    try clear hfz23_3
    try clear hfz23_4
    try clear hfz24_0
    try clear hfz24_1
    try clear hfz24_2
    try clear hfz24_3
    try clear hfz24_4
    obtain ⟨kq, x40_2, rfl, HA, HJ2, BK53001, BK53002, HB⟩ := hcut
    cases kq with
    | zero => exact absurd HA.out (by simp [tinderref09_SameWord.j0])
    | succ kj2 =>
      have H := HA.out
      clear HA
      simp only [tinderref09_SameWord.j0] at H
      by_cases c25 : x40_2 = true
      · subst c25
        have H1 : (some false) = some r := by rw [if_pos rfl] at H; exact H
        clear H
        have H := H1
        clear H1
        obtain rfl := Option.some.inj H
        go_wp2
        repeat (go_quiet (fail); try go_wp2)
        go_ret
        exact ⟨by first | rfl | (simp [errW_none, errW_some] <;> rfl) | (simp [*, errW_none, errW_some] <;> rfl), by repeat (first | (with_reducible first | exact HB.out | apply below_alloc | apply pw_below_drewN | apply below_drew1 | refine below_set ?_ GE53001.out | refine below_set ?_ GE53002.out) | exact HB.out)⟩
      · replace c25 := Bool.eq_false_iff.mpr c25
        subst c25
        have H1 : (tinderref09_SameWord.l0 kj2 0 a0_0 a0_1 a0_2 a0_3 l0_4 a1_0 a1_1 a1_2 a1_3 l1_4) = some r := by rw [if_neg (show ¬ (false = true) by decide)] at H; exact H
        clear H
        have H := H1
        clear H1
        have H' := Aside0.mk H
        clear H
        go_wp2
        repeat (go_quiet (fail); try go_wp2)
        go_loopg [5] kj2 (fun kq v5 w' => ∃ (x5_2 : Int), v5 = .int .i64 x5_2 ∧ Aside0 (tinderref09_SameWord.l0 kq x5_2 a0_0 a0_1 a0_2 a0_3 l0_4 a1_0 a1_1 a1_2 a1_3 l1_4 = some r) ∧ Aside0 (kq ≤ kj2) ∧ Aside0 (w'.heap[gb53001]? = some (.cells #[.string a0_0, .int .i64 a0_1, .int .i64 a0_2, .int .u32 a0_3, (.slice A0_4 l0_4.length c0_4)] 51 (0, 0))) ∧ Aside0 (w'.heap[gb53002]? = some (.cells #[.string a1_0, .int .i64 a1_1, .int .i64 a1_2, .int .u32 a1_3, (.slice A1_4 l1_4.length c1_4)] 51 (0, 0))) ∧ Aside0 (Below w.heap.size w w'))
        case atStart => exact ⟨(0), (by first | rfl | (simp; done) | (simp [*]; done)), H', ⟨Nat.le_refl _⟩, ⟨by (with_reducible repeat (first | refine blk_drewN ?_ _ | refine blk_drew ?_ | refine blk_alloc ?_ _)); exact BK53001.out⟩, ⟨by (with_reducible repeat (first | refine blk_drewN ?_ _ | refine blk_drew ?_ | refine blk_alloc ?_ _)); exact BK53002.out⟩, ⟨by repeat (first | (with_reducible first | exact HB.out | apply below_alloc | apply pw_below_drewN | apply below_drew1 | refine below_set ?_ GE53001.out | refine below_set ?_ GE53002.out) | exact HB.out)⟩⟩
        case round =>
          clear H'
          try clear c1
          try clear c2
          try clear p2
          try clear c5
          try clear c6
          try clear c6b0
          try clear c6b1
          try clear c7
          try clear c7b0
          try clear c7b1
          try clear c8
          try clear c8b0
          try clear c8b1
          try clear c9
          try clear c9b0
          try clear c9b1
          try clear c10
          try clear c13
          try clear c16
          try clear c19
          try clear c22
          try clear c25
          try clear hcz11_0
          try clear hcz11_1
          try clear hcz11_2
          try clear hcz11_3
          try clear hcz11_4
          try clear hcz12_0
          try clear hcz12_1
          try clear hcz12_2
          try clear hcz12_3
          try clear hcz12_4
          try clear hcz14_0
          try clear hcz14_1
          try clear hcz14_2
          try clear hcz14_3
          try clear hcz14_4
          try clear hcz15_0
          try clear hcz15_1
          try clear hcz15_2
          try clear hcz15_3
          try clear hcz15_4
          try clear hcz17_0
          try clear hcz17_1
          try clear hcz17_2
          try clear hcz17_3
          try clear hcz17_4
          try clear hcz18_0
          try clear hcz18_1
          try clear hcz18_2
          try clear hcz18_3
          try clear hcz18_4
          try clear hcz20_0
          try clear hcz20_1
          try clear hcz20_2
          try clear hcz20_3
          try clear hcz20_4
          try clear hcz21_0
          try clear hcz21_1
          try clear hcz21_2
          try clear hcz21_3
          try clear hcz21_4
          try clear hcz23_0
          try clear hcz23_1
          try clear hcz23_2
          try clear hcz23_3
          try clear hcz23_4
          try clear hcz24_0
          try clear hcz24_1
          try clear hcz24_2
          try clear hcz24_3
          try clear hcz24_4
          try clear hfz11_0
          try clear hfz11_1
          try clear hfz11_2
          try clear hfz11_3
          try clear hfz11_4
          try clear hfz12_0
          try clear hfz12_1
          try clear hfz12_2
          try clear hfz12_3
          try clear hfz12_4
          try clear hfz14_0
          try clear hfz14_1
          try clear hfz14_2
          try clear hfz14_3
          try clear hfz14_4
          try clear hfz15_0
          try clear hfz15_1
          try clear hfz15_2
          try clear hfz15_3
          try clear hfz15_4
          try clear hfz17_0
          try clear hfz17_1
          try clear hfz17_2
          try clear hfz17_3
          try clear hfz17_4
          try clear hfz18_0
          try clear hfz18_1
          try clear hfz18_2
          try clear hfz18_3
          try clear hfz18_4
          try clear hfz20_0
          try clear hfz20_1
          try clear hfz20_2
          try clear hfz20_3
          try clear hfz20_4
          try clear hfz21_0
          try clear hfz21_1
          try clear hfz21_2
          try clear hfz21_3
          try clear hfz21_4
          try clear hfz23_0
          try clear hfz23_1
          try clear hfz23_2
          try clear hfz23_3
          try clear hfz23_4
          try clear hfz24_0
          try clear hfz24_1
          try clear hfz24_2
          try clear hfz24_3
          try clear hfz24_4
          try clear p2
          obtain ⟨x5_2, rfl, HA, HK2, BK53001, BK53002, HB⟩ := hrel
          cases gk with
          | zero => exact absurd HA.out (by simp [tinderref09_SameWord.l0])
          | succ k2 =>
            have H := HA.out
            clear HA
            simp only [tinderref09_SameWord.l0] at H
            by_cases c26 : x5_2 < (l0_4.length : Int)
            · rw [if_pos c26] at H
              have c26b0 : decide (x5_2 < (l0_4.length : Int)) = true := decide_eq_true c26
              clear c26
              by_cases c27 : 0 ≤ x5_2
              · rw [if_pos c27] at H
                have c27b0 : decide (0 ≤ x5_2) = true := decide_eq_true c27
                clear c27
                by_cases c28 : x5_2 < (l1_4.length : Int)
                · rw [if_pos c28] at H
                  have c28b0 : decide (x5_2 < (l1_4.length : Int)) = true := decide_eq_true c28
                  clear c28
                  by_cases c29 : (!(((rd_T69 l0_4 x5_2).f0) == ((rd_T69 l1_4 x5_2).f0)) || (!(((rd_T69 l0_4 x5_2).f1) == ((rd_T69 l1_4 x5_2).f1)))) = true
                  · rw [if_pos c29] at H
                    have c29b0 : (!(((rd_T69 l0_4 x5_2).f0) == ((rd_T69 l1_4 x5_2).f0)) || (!(((rd_T69 l0_4 x5_2).f1) == ((rd_T69 l1_4 x5_2).f1)))) = true := c29
                    clear c29
                    obtain rfl := Option.some.inj H
                    have hnb30 := NB53001_53002.out
                    have hnc30 := NB53002_53001.out
                    have hcz31_0 : wr.cell? ⟨gb53001, 0, none⟩ = some (.string a0_0) := (blk_cell BK53001.out 0).trans rfl
                    have hcz31_1 : wr.cell? ⟨gb53001, 1, none⟩ = some (.int .i64 a0_1) := (blk_cell BK53001.out 1).trans rfl
                    have hcz31_2 : wr.cell? ⟨gb53001, 2, none⟩ = some (.int .i64 a0_2) := (blk_cell BK53001.out 2).trans rfl
                    have hcz31_3 : wr.cell? ⟨gb53001, 3, none⟩ = some (.int .u32 a0_3) := (blk_cell BK53001.out 3).trans rfl
                    have hcz31_4 : wr.cell? ⟨gb53001, 4, none⟩ = some (.slice A0_4 l0_4.length c0_4) := (blk_cell BK53001.out 4).trans rfl
                    have hfz31_0 := blk_frozen BK53001.out 0
                    have hfz31_1 := blk_frozen BK53001.out 1
                    have hfz31_2 := blk_frozen BK53001.out 2
                    have hfz31_3 := blk_frozen BK53001.out 3
                    have hfz31_4 := blk_frozen BK53001.out 4
                    have p53003 : 0 ≤ (x5_2 : Int) := of_decide_eq_true (by first | (with_reducible assumption) | assumption)
                    have q53003 : x5_2 < (l0_4.length : Int) := of_decide_eq_true (by first | (with_reducible assumption) | assumption)
                    obtain ⟨ad53003, e53003, hx53003_0, hx53003_1⟩ := at_T69 HR0_4.out x5_2 p53003 q53003
                    cases e53003
                    replace hx53003_0 := (HB.out.cell (World.block_lt_of_cell? w _ hx53003_0)).trans hx53003_0
                    replace hx53003_1 := (HB.out.cell (World.block_lt_of_cell? w _ hx53003_1)).trans hx53003_1
                    replace p53003 := eq_true p53003
                    replace q53003 := eq_true q53003
                    have hcz32_0 : wr.cell? ⟨gb53002, 0, none⟩ = some (.string a1_0) := (blk_cell BK53002.out 0).trans rfl
                    have hcz32_1 : wr.cell? ⟨gb53002, 1, none⟩ = some (.int .i64 a1_1) := (blk_cell BK53002.out 1).trans rfl
                    have hcz32_2 : wr.cell? ⟨gb53002, 2, none⟩ = some (.int .i64 a1_2) := (blk_cell BK53002.out 2).trans rfl
                    have hcz32_3 : wr.cell? ⟨gb53002, 3, none⟩ = some (.int .u32 a1_3) := (blk_cell BK53002.out 3).trans rfl
                    have hcz32_4 : wr.cell? ⟨gb53002, 4, none⟩ = some (.slice A1_4 l1_4.length c1_4) := (blk_cell BK53002.out 4).trans rfl
                    have hfz32_0 := blk_frozen BK53002.out 0
                    have hfz32_1 := blk_frozen BK53002.out 1
                    have hfz32_2 := blk_frozen BK53002.out 2
                    have hfz32_3 := blk_frozen BK53002.out 3
                    have hfz32_4 := blk_frozen BK53002.out 4
                    have p53004 : 0 ≤ (x5_2 : Int) := of_decide_eq_true (by first | (with_reducible assumption) | assumption)
                    have q53004 : x5_2 < (l1_4.length : Int) := of_decide_eq_true (by first | (with_reducible assumption) | assumption)
                    obtain ⟨ad53004, e53004, hx53004_0, hx53004_1⟩ := at_T69 HR1_4.out x5_2 p53004 q53004
                    cases e53004
                    replace hx53004_0 := (HB.out.cell (World.block_lt_of_cell? w _ hx53004_0)).trans hx53004_0
                    replace hx53004_1 := (HB.out.cell (World.block_lt_of_cell? w _ hx53004_1)).trans hx53004_1
                    replace p53004 := eq_true p53004
                    replace q53004 := eq_true q53004
                    go_wp2
                    repeat (go_quiet (fail); try go_wp2)
                    go_ret
                    exact ⟨by first | rfl | (simp [errW_none, errW_some] <;> rfl) | (simp [*, errW_none, errW_some] <;> rfl), by repeat (first | (with_reducible first | exact HB.out | apply below_alloc | apply pw_below_drewN | apply below_drew1 | refine below_set ?_ GE53001.out | refine below_set ?_ GE53002.out) | exact HB.out)⟩
                  · rw [if_neg c29] at H
                    have c29b0 : (!(((rd_T69 l0_4 x5_2).f0) == ((rd_T69 l1_4 x5_2).f0)) || (!(((rd_T69 l0_4 x5_2).f1) == ((rd_T69 l1_4 x5_2).f1)))) = false := by simpa using c29
                    clear c29
                    have H' := Aside0.mk H
                    clear H
                    have hnb33 := NB53001_53002.out
                    have hnc33 := NB53002_53001.out
                    have hcz34_0 : wr.cell? ⟨gb53001, 0, none⟩ = some (.string a0_0) := (blk_cell BK53001.out 0).trans rfl
                    have hcz34_1 : wr.cell? ⟨gb53001, 1, none⟩ = some (.int .i64 a0_1) := (blk_cell BK53001.out 1).trans rfl
                    have hcz34_2 : wr.cell? ⟨gb53001, 2, none⟩ = some (.int .i64 a0_2) := (blk_cell BK53001.out 2).trans rfl
                    have hcz34_3 : wr.cell? ⟨gb53001, 3, none⟩ = some (.int .u32 a0_3) := (blk_cell BK53001.out 3).trans rfl
                    have hcz34_4 : wr.cell? ⟨gb53001, 4, none⟩ = some (.slice A0_4 l0_4.length c0_4) := (blk_cell BK53001.out 4).trans rfl
                    have hfz34_0 := blk_frozen BK53001.out 0
                    have hfz34_1 := blk_frozen BK53001.out 1
                    have hfz34_2 := blk_frozen BK53001.out 2
                    have hfz34_3 := blk_frozen BK53001.out 3
                    have hfz34_4 := blk_frozen BK53001.out 4
                    have p53003 : 0 ≤ (x5_2 : Int) := of_decide_eq_true (by first | (with_reducible assumption) | assumption)
                    have q53003 : x5_2 < (l0_4.length : Int) := of_decide_eq_true (by first | (with_reducible assumption) | assumption)
                    obtain ⟨ad53003, e53003, hx53003_0, hx53003_1⟩ := at_T69 HR0_4.out x5_2 p53003 q53003
                    cases e53003
                    replace hx53003_0 := (HB.out.cell (World.block_lt_of_cell? w _ hx53003_0)).trans hx53003_0
                    replace hx53003_1 := (HB.out.cell (World.block_lt_of_cell? w _ hx53003_1)).trans hx53003_1
                    replace p53003 := eq_true p53003
                    replace q53003 := eq_true q53003
                    have hcz35_0 : wr.cell? ⟨gb53002, 0, none⟩ = some (.string a1_0) := (blk_cell BK53002.out 0).trans rfl
                    have hcz35_1 : wr.cell? ⟨gb53002, 1, none⟩ = some (.int .i64 a1_1) := (blk_cell BK53002.out 1).trans rfl
                    have hcz35_2 : wr.cell? ⟨gb53002, 2, none⟩ = some (.int .i64 a1_2) := (blk_cell BK53002.out 2).trans rfl
                    have hcz35_3 : wr.cell? ⟨gb53002, 3, none⟩ = some (.int .u32 a1_3) := (blk_cell BK53002.out 3).trans rfl
                    have hcz35_4 : wr.cell? ⟨gb53002, 4, none⟩ = some (.slice A1_4 l1_4.length c1_4) := (blk_cell BK53002.out 4).trans rfl
                    have hfz35_0 := blk_frozen BK53002.out 0
                    have hfz35_1 := blk_frozen BK53002.out 1
                    have hfz35_2 := blk_frozen BK53002.out 2
                    have hfz35_3 := blk_frozen BK53002.out 3
                    have hfz35_4 := blk_frozen BK53002.out 4
                    have p53004 : 0 ≤ (x5_2 : Int) := of_decide_eq_true (by first | (with_reducible assumption) | assumption)
                    have q53004 : x5_2 < (l1_4.length : Int) := of_decide_eq_true (by first | (with_reducible assumption) | assumption)
                    obtain ⟨ad53004, e53004, hx53004_0, hx53004_1⟩ := at_T69 HR1_4.out x5_2 p53004 q53004
                    cases e53004
                    replace hx53004_0 := (HB.out.cell (World.block_lt_of_cell? w _ hx53004_0)).trans hx53004_0
                    replace hx53004_1 := (HB.out.cell (World.block_lt_of_cell? w _ hx53004_1)).trans hx53004_1
                    replace p53004 := eq_true p53004
                    replace q53004 := eq_true q53004
                    go_wp2
                    repeat (go_quiet (fail); try go_wp2)
                    go_roundg k2
                    case measure => have := HJ2.out; have := HK2.out; omega
                    case rel => exact ⟨(wrap64 (x5_2 + 1)), (by first | rfl | (simp; done) | (simp [*]; done)), H', ⟨by have := HJ2.out; have := HK2.out; omega⟩, ⟨by (with_reducible repeat (first | refine blk_drewN ?_ _ | refine blk_drew ?_ | refine blk_alloc ?_ _)); exact BK53001.out⟩, ⟨by (with_reducible repeat (first | refine blk_drewN ?_ _ | refine blk_drew ?_ | refine blk_alloc ?_ _)); exact BK53002.out⟩, ⟨by repeat (first | (with_reducible first | exact HB.out | apply below_alloc | apply pw_below_drewN | apply below_drew1 | refine below_set ?_ GE53001.out | refine below_set ?_ GE53002.out) | exact HB.out)⟩⟩
                · rw [if_neg c28] at H
                  exact absurd H (by simp)
              · rw [if_neg c27] at H
                exact absurd H (by simp)
            · rw [if_neg c26] at H
              have c26b0 : decide (x5_2 < (l0_4.length : Int)) = false := decide_eq_false c26
              clear c26
              obtain rfl := Option.some.inj H
              have hnb36 := NB53001_53002.out
              have hnc36 := NB53002_53001.out
              have hcz37_0 : wr.cell? ⟨gb53001, 0, none⟩ = some (.string a0_0) := (blk_cell BK53001.out 0).trans rfl
              have hcz37_1 : wr.cell? ⟨gb53001, 1, none⟩ = some (.int .i64 a0_1) := (blk_cell BK53001.out 1).trans rfl
              have hcz37_2 : wr.cell? ⟨gb53001, 2, none⟩ = some (.int .i64 a0_2) := (blk_cell BK53001.out 2).trans rfl
              have hcz37_3 : wr.cell? ⟨gb53001, 3, none⟩ = some (.int .u32 a0_3) := (blk_cell BK53001.out 3).trans rfl
              have hcz37_4 : wr.cell? ⟨gb53001, 4, none⟩ = some (.slice A0_4 l0_4.length c0_4) := (blk_cell BK53001.out 4).trans rfl
              have hfz37_0 := blk_frozen BK53001.out 0
              have hfz37_1 := blk_frozen BK53001.out 1
              have hfz37_2 := blk_frozen BK53001.out 2
              have hfz37_3 := blk_frozen BK53001.out 3
              have hfz37_4 := blk_frozen BK53001.out 4
              go_wp2
              repeat (go_quiet (fail); try go_wp2)
              go_ret
              exact ⟨by first | rfl | (simp [errW_none, errW_some] <;> rfl) | (simp [*, errW_none, errW_some] <;> rfl), by repeat (first | (with_reducible first | exact HB.out | apply below_alloc | apply pw_below_drewN | apply below_drew1 | refine below_set ?_ GE53001.out | refine below_set ?_ GE53002.out) | exact HB.out)⟩

end Go.Proofs.Ytfpkakedlapmkaa.Q
end
section
set_option linter.unusedSimpArgs false
set_option linter.unusedVariables false
namespace Go.Proofs.Ytfpkakedlapmkaa.Q
open Go.RowKit Go.Proofs.YtfpkakedlapmkaaW.PrintWords Go.Proofs.YtfpkakedlapmkaaW.PrintLast Go.Proofs.YtfpkakedlapmkaaW.PrintMore
attribute [local go_sem] max2_int min2_int max_two min_two max_three min_three max_four min_four
theorem same3_calls (l : List Int) (A : Option Addr) (c : Nat) (B : Option Addr) (d : Nat) (W : World) (hA : Kd.C (Kd.int .u32) W A l.length l) (hc : l.length ≤ c) (hB : Kd.C (Kd.int .u32) W B l.length l) (hd : l.length ≤ d) : Calls Try.prog 66 #[.slice A l.length c, .slice B l.length d] W fun e w' => e = .returned (.bool true) ∧ ∃ m, w' = W.drewN m :=
  (tinderref03_Same.calls (l.length + 1) A c l B d l true W hA hc hB hd (by rw [same3_eq l l (Kd.C_max hA) _ (by omega), decide_eq_true rfl])).mono fun _ _ h => ⟨h.1, h.2.out⟩
theorem same4_calls (l : List Int) (A : Option Addr) (c : Nat) (B : Option Addr) (d : Nat) (W : World) (hA : Kd.C (Kd.int .u8) W A l.length l) (hc : l.length ≤ c) (hB : Kd.C (Kd.int .u8) W B l.length l) (hd : l.length ≤ d) : Calls Try.prog 67 #[.slice A l.length c, .slice B l.length d] W fun e w' => e = .returned (.bool true) ∧ ∃ m, w' = W.drewN m :=
  (tinderref04_Same.calls A c l B d l true W hA hc hB hd (same4_self l)).mono fun _ _ h => ⟨h.1, h.2.out⟩
set_option maxHeartbeats 4000000 in
set_option maxRecDepth 100000 in
theorem sameNodeT_calls (x : S91) (A1 : Option Addr) (c1 : Nat) (A3 : Option Addr) (c3 : Nat) (A4 : Option Addr) (c4 : Nat) (B1 : Option Addr) (d1 : Nat) (B3 : Option Addr) (d3 : Nat) (B4 : Option Addr) (d4 : Nat) (w : World)
    (hA1 : Kd.C (Kd.int .u32) w A1 x.f1.length x.f1) (hc1 : x.f1.length ≤ c1) (hA3 : Kd.C k106 w A3 x.f3.length x.f3) (hA4 : Kd.C (Kd.int .u32) w A4 x.f4.length x.f4) (hc4 : x.f4.length ≤ c4)
    (hB1 : Kd.C (Kd.int .u32) w B1 x.f1.length x.f1) (hd1 : x.f1.length ≤ d1) (hB3 : Kd.C k106 w B3 x.f3.length x.f3) (hB4 : Kd.C (Kd.int .u32) w B4 x.f4.length x.f4) (hd4 : x.f4.length ≤ d4) :
    Calls Try.prog 88 #[.agg #[.string x.f0, .slice A1 x.f1.length c1, .int .i64 x.f2, .slice A3 x.f3.length c3, .slice A4 x.f4.length c4], .agg #[.string x.f0, .slice B1 x.f1.length d1, .int .i64 x.f2, .slice B3 x.f3.length d3, .slice B4 x.f4.length d4]] w fun e w' => e = .returned (.bool true) ∧ Below w.heap.size w w' := by
  have hu91 := Try.underlying91
  have hu106 := Try.underlying106
  have HM := Aside0.mk (Kd.C_max hA3)
  have H1 := Aside0.mk (fun (W : World) (hb : Below w.heap.size w W) => same3_calls x.f1 A1 c1 B1 d1 W (Kd.C_below hA1 hb) hc1 (Kd.C_below hB1 hb) hd1)
  have H4 := Aside0.mk (fun (W : World) (hb : Below w.heap.size w W) => same3_calls x.f4 A4 c4 B4 d4 W (Kd.C_below hA4 hb) hc4 (Kd.C_below hB4 hb) hd4)
  have HA := Aside0.mk hA3
  have HBB := Aside0.mk hB3
  clear hA1 hc1 hA3 hA4 hc4 hB1 hd1 hB3 hB4 hd4
  go_enter Try.func88, Try.ntmps88
  go_wp2_with (first
    | ((with_reducible refine gate_dst (N := 2) rfl ?_); refine box_event ?hg (N := 2) ?hd (cs := #[.string x.f0, .slice A1 x.f1.length c1, .int .i64 x.f2, .slice A3 x.f3.length c3, .slice A4 x.f4.length c4]) (t := 91) ?hr ?_; (case hd => rfl); (case hg => rfl); (case hr => first | (go_simp; done) | (go_simp; rfl)); intro ga hga w1 hbox hb; have K1 := Aside0.mk hbox; have HB := Aside0.mk hb; clear hbox hb hga)
    | ((with_reducible refine gate_dst (N := 3) rfl ?_); refine box_event ?hg (N := 3) ?hd (cs := #[.string x.f0, .slice B1 x.f1.length d1, .int .i64 x.f2, .slice B3 x.f3.length d3, .slice B4 x.f4.length d4]) (t := 91) ?hr ?_; (case hd => rfl); (case hg => rfl); (case hr => first | (go_simp; done) | (go_simp; rfl)); intro gb hga w2 hbox hb; replace K1 := Aside0.mk (blk_below K1.out hb); have K2 := Aside0.mk hbox; replace HB := Aside0.mk (below_step HB.out hb); have hz0 := (blk_cell K1.out 0).trans rfl; have hz1 := (blk_cell K1.out 1).trans rfl; have hz2 := (blk_cell K1.out 2).trans rfl; have hz3 := (blk_cell K1.out 3).trans rfl; have hz4 := (blk_cell K1.out 4).trans rfl; have hy0 := (blk_cell K2.out 0).trans rfl; have hy1 := (blk_cell K2.out 1).trans rfl; have hy2 := (blk_cell K2.out 2).trans rfl; have hy3 := (blk_cell K2.out 3).trans rfl; have hy4 := (blk_cell K2.out 4).trans rfl; have hfa0 := blk_frozen K1.out 0; have hfa1 := blk_frozen K1.out 1; have hfa2 := blk_frozen K1.out 2; have hfa3 := blk_frozen K1.out 3; have hfa4 := blk_frozen K1.out 4; have hfb0 := blk_frozen K2.out 0; have hfb1 := blk_frozen K2.out 1; have hfb2 := blk_frozen K2.out 2; have hfb3 := blk_frozen K2.out 3; have hfb4 := blk_frozen K2.out 4; clear hbox hb hga)
    | (go_at_call 66; (with_reducible refine (H1.out _ (by first | exact HB.out | exact pw_below_drewN HB.out _)).mono ?_); rintro e w3 ⟨rfl, n, rfl⟩)
    | (go_at_call 66; (with_reducible refine (H4.out _ (by first | exact HB.out | exact pw_below_drewN HB.out _)).mono ?_); rintro e w3 ⟨rfl, n2, rfl⟩))
  clear hz0 hz1 hz2 hz3 hz4 hy0 hy1 hy2 hy3 hy4 hfa0 hfa1 hfa2 hfa3 hfa4 hfb0 hfb1 hfb2 hfb3 hfb4
  go_loopg [5] x.f3.length (fun kq v5 w' => ∃ i : Int, v5 = .int .i64 i ∧ Aside0 (0 ≤ i ∧ i + kq = x.f3.length) ∧ Aside0 (w'.heap[ga]? = some (.cells #[.string x.f0, .slice A1 x.f1.length c1, .int .i64 x.f2, .slice A3 x.f3.length c3, .slice A4 x.f4.length c4] 91 (0, 0))) ∧ Aside0 (w'.heap[gb]? = some (.cells #[.string x.f0, .slice B1 x.f1.length d1, .int .i64 x.f2, .slice B3 x.f3.length d3, .slice B4 x.f4.length d4] 91 (0, 0))) ∧ Aside0 (Below w.heap.size w w'))
  case atStart => exact ⟨0, rfl, ⟨by omega, by omega⟩, ⟨K1.out⟩, ⟨K2.out⟩, ⟨by first | exact HB.out | exact pw_below_drewN HB.out _ | exact pw_below_drewN (pw_below_drewN HB.out _) _⟩⟩
  case round =>
    clear K1 K2 HB
    obtain ⟨i, rfl, HI, K1, K2, HB⟩ := hrel
    have hz3 := (blk_cell K1.out 3).trans rfl
    have hy3 := (blk_cell K2.out 3).trans rfl
    have hfz := blk_frozen K1.out 3
    have hfy := blk_frozen K2.out 3
    cases gk with
    | zero =>
      have hlt : decide (i < (x.f3.length : Int)) = false := decide_eq_false (by have := HI.out; omega)
      go_wp2
      go_ret
      exact ⟨rfl, HB.out⟩
    | succ k1 =>
      have hi := HI.out
      have hlt : decide (i < (x.f3.length : Int)) = true := decide_eq_true (by omega)
      have p1 : (0 ≤ i) = True := eq_true (by omega)
      have p2 : (i < (x.f3.length : Int)) = True := eq_true (by omega)
      have hwr : IntKind.i64.wrap (i + 1) = i + 1 := (i64_w _).trans (by have := HM.out; unfold wrap64; omega)
      have hwr2 : wrap64 (i + 1) = i + 1 := by have := HM.out; unfold wrap64; omega
      obtain ⟨ad, P1, q1, eA, hx0, hx1, hl1, hg1⟩ := at_T106 (Kd.C_below HA.out HB.out) i (by omega) (by omega)
      cases eA
      obtain ⟨bd, P2, q2, eB, hv0, hv1, hl2, hg2⟩ := at_T106 (Kd.C_below HBB.out HB.out) i (by omega) (by omega)
      cases eB
      have H7 := Aside0.mk (fun n => same4_calls (rd_T106 x.f3 i).f1 P1 q1 P2 q2 (wr.drewN n) (Kd.C_drewN hg1 n) hl1 (Kd.C_drewN hg2 n) hl2)
      clear hi hl1 hg1 hl2 hg2
      go_wp2
      go_quiet ((go_at_call 67; exact Calls.quiet_of (H7.out _)))
      go_wp2
      go_roundg k1
      case measure => omega
      case rel => exact ⟨i + 1, rfl, ⟨by have := HI.out; omega, by have := HI.out; omega⟩, ⟨K1.out⟩, ⟨K2.out⟩, ⟨by first | exact HB.out | exact pw_below_drewN HB.out _⟩⟩
set_option maxHeartbeats 4000000 in
set_option maxRecDepth 100000 in
theorem same8T_calls (l : List S91) (A : Option Addr) (c : Nat) (B : Option Addr) (d : Nat) (w : World) (hA : Kd.C k91 w A l.length l) (hB : Kd.C k91 w B l.length l) :
    Calls Try.prog 68 #[.slice A l.length c, .slice B l.length d] w fun e w' => e = .returned (.bool true) ∧ Below w.heap.size w w' := by
  have hu91 := Try.underlying91
  have mixed : Try.prog.follows Departure.mixedOrders = true := by kernel_rfl
  have HM := Aside0.mk (Kd.C_max hA)
  have HA := Aside0.mk hA
  have HBB := Aside0.mk hB
  clear hA hB
  go_enter Try.func68, Try.ntmps68
  go_wp2
  go_loopg [5] l.length (fun kq v5 w' => ∃ i : Int, v5 = .int .i64 i ∧ Aside0 (0 ≤ i ∧ i + kq = l.length) ∧ Aside0 (Below w.heap.size w w'))
  case atStart => exact ⟨0, rfl, ⟨by omega, by omega⟩, ⟨Below.refl _ _⟩⟩
  case round =>
    obtain ⟨i, rfl, HI, HB⟩ := hrel
    cases gk with
    | zero =>
      have hlt : decide (i < (l.length : Int)) = false := decide_eq_false (by have := HI.out; omega)
      go_wp2
      go_ret
      exact ⟨rfl, HB.out⟩
    | succ k1 =>
      have hi := HI.out
      have hlt : decide (i < (l.length : Int)) = true := decide_eq_true (by omega)
      have p1 : (0 ≤ i) = True := eq_true (by omega)
      have p2 : (i < (l.length : Int)) = True := eq_true (by omega)
      have hwr : IntKind.i64.wrap (i + 1) = i + 1 := (i64_w _).trans (by have := HM.out; unfold wrap64; omega)
      have hwr2 : wrap64 (i + 1) = i + 1 := by have := HM.out; unfold wrap64; omega
      obtain ⟨ad, A1, c1, A3, c3, A4, c4, eA, hx0, hx1, hx2, hx3, hx4, hl1, hg1, hl3, hg3, hl4, hg4⟩ := at_T91 (Kd.C_below HA.out HB.out) i (by omega) (by omega)
      cases eA
      obtain ⟨bd, B1, d1, B3, d3, B4, d4, eB, hv0, hv1, hv2, hv3, hv4, ml1, mg1, ml3, mg3, ml4, mg4⟩ := at_T91 (Kd.C_below HBB.out HB.out) i (by omega) (by omega)
      cases eB
      have HN := Aside0.mk (fun (W : World) (hb : Below wr.heap.size wr W) => sameNodeT_calls (rd_T91 l i) A1 c1 A3 c3 A4 c4 B1 d1 B3 d3 B4 d4 W (Kd.C_below hg1 hb) hl1 (Kd.C_below hg3 hb) (Kd.C_below hg4 hb) hl4 (Kd.C_below mg1 hb) ml1 (Kd.C_below mg3 hb) (Kd.C_below mg4 hb) ml4)
      generalize rd_T91 l i = x at *
      clear hi hl1 hg1 hl3 hg3 hl4 hg4 ml1 mg1 ml3 mg3 ml4 mg4
      go_wp2
      refine start_ (n := 10) (S := fun w' => w'.cell? (ad.add (i.toNat * 5)) = some (.string x.f0) ∧ w'.cell? ⟨(ad.add (i.toNat * 5)).block, (ad.add (i.toNat * 5)).off + 1, none⟩ = some (.slice A1 x.f1.length c1) ∧ w'.cell? ⟨(ad.add (i.toNat * 5)).block, (ad.add (i.toNat * 5)).off + 2, none⟩ = some (.int .i64 x.f2) ∧ w'.cell? ⟨(ad.add (i.toNat * 5)).block, (ad.add (i.toNat * 5)).off + 3, none⟩ = some (.slice A3 x.f3.length c3) ∧ w'.cell? ⟨(ad.add (i.toNat * 5)).block, (ad.add (i.toNat * 5)).off + 4, none⟩ = some (.slice A4 x.f4.length c4) ∧ w'.cell? (bd.add (i.toNat * 5)) = some (.string x.f0) ∧ w'.cell? ⟨(bd.add (i.toNat * 5)).block, (bd.add (i.toNat * 5)).off + 1, none⟩ = some (.slice B1 x.f1.length d1) ∧ w'.cell? ⟨(bd.add (i.toNat * 5)).block, (bd.add (i.toNat * 5)).off + 2, none⟩ = some (.int .i64 x.f2) ∧ w'.cell? ⟨(bd.add (i.toNat * 5)).block, (bd.add (i.toNat * 5)).off + 3, none⟩ = some (.slice B3 x.f3.length d3) ∧ w'.cell? ⟨(bd.add (i.toNat * 5)).block, (bd.add (i.toNat * 5)).off + 4, none⟩ = some (.slice B4 x.f4.length d4) ∧ Below wr.heap.size wr w') (ds := []) #[false, false, false, false, false, false, false, false, false, false] (by kernel_rfl) rfl rfl ⟨hx0, hx1, hx2, hx3, hx4, hv0, hv1, hv2, hv3, hv4, below_drew1 (Below.refl wr.heap.size wr)⟩ (fun hHeld => ?_)
      refine pure_ (i := 0) (N := some 17) (v := ?_) (a' := ?_) #[true, false, false, false, false, false, false, false, false, false] rfl rfl (by kernel_rfl) (fun _ _ _ h => h) (Or.inl ⟨by rfl, ?_⟩) ?_ ?_
      rotate_left
      · intro w'
        go_simp
        with_reducible rfl
      rotate_left
      · simp only [Act.put, List.setIfInBounds_toArray, List.set_cons_zero, List.set_cons_succ]
        rfl
      refine pure_ (i := 1) (N := some 18) (v := ?_) (a' := ?_) #[true, true, false, false, false, false, false, false, false, false] rfl rfl (by kernel_rfl) (fun _ _ _ h => h) (Or.inl ⟨by rfl, ?_⟩) ?_ ?_
      rotate_left
      · intro w'
        go_simp
        with_reducible rfl
      rotate_left
      · simp only [Act.put, List.setIfInBounds_toArray, List.set_cons_zero, List.set_cons_succ]
        rfl
      refine pure_ (i := 4) (N := some 21) (v := ?_) (a' := ?_) #[true, true, false, false, true, false, false, false, false, false] rfl rfl (by kernel_rfl) (fun _ _ _ h => h) (Or.inl ⟨by rfl, ?_⟩) ?_ ?_
      rotate_left
      · intro w'
        go_simp
        with_reducible rfl
      rotate_left
      · simp only [Act.put, List.setIfInBounds_toArray, List.set_cons_zero, List.set_cons_succ]
        rfl
      refine pure_ (i := 5) (N := some 22) (v := ?_) (a' := ?_) #[true, true, false, false, true, true, false, false, false, false] rfl rfl (by kernel_rfl) (fun _ _ _ h => h) (Or.inl ⟨by rfl, ?_⟩) ?_ ?_
      rotate_left
      · intro w'
        go_simp
        with_reducible rfl
      rotate_left
      · simp only [Act.put, List.setIfInBounds_toArray, List.set_cons_zero, List.set_cons_succ]
        rfl
      refine pure_ (i := 2) (N := some 19) (v := ?_) (a' := ?_) #[true, true, true, false, true, true, false, false, false, false] rfl rfl (by kernel_rfl) (fun _ _ _ h => h) (Or.inl ⟨by rfl, ?_⟩) ?_ ?_
      rotate_left
      · intro w'
        go_simp
        with_reducible rfl
      rotate_left
      · simp only [Act.put, List.setIfInBounds_toArray, List.set_cons_zero, List.set_cons_succ]
        rfl
      refine pure_ (i := 6) (N := some 23) (v := ?_) (a' := ?_) #[true, true, true, false, true, true, true, false, false, false] rfl rfl (by kernel_rfl) (fun _ _ _ h => h) (Or.inl ⟨by rfl, ?_⟩) ?_ ?_
      rotate_left
      · intro w'
        go_simp
        with_reducible rfl
      rotate_left
      · simp only [Act.put, List.setIfInBounds_toArray, List.set_cons_zero, List.set_cons_succ]
        rfl
      refine take_ (i := 3) (N := some 20) (v := (.agg #[.string x.f0, .slice A1 x.f1.length c1, .int .i64 x.f2, .slice A3 x.f3.length c3, .slice A4 x.f4.length c4])) (a' := ?_) #[true, true, true, true, true, true, true, false, false, false] rfl rfl (by kernel_rfl) (fun _ _ _ h => h) (Or.inl ⟨by rfl, ?_⟩) hHeld ?_ ?_
      rotate_left
      rotate_left
      · simp only [Act.put, List.setIfInBounds_toArray, List.set_cons_zero, List.set_cons_succ]
        rfl
      rotate_left
      · rintro w' ⟨s0, s1, s2, s3, s4, s5, s6, s7, s8, s9, s10⟩
        go_simp
      refine take_ (i := 7) (N := some 24) (v := (.agg #[.string x.f0, .slice B1 x.f1.length d1, .int .i64 x.f2, .slice B3 x.f3.length d3, .slice B4 x.f4.length d4])) (a' := ?_) #[true, true, true, true, true, true, true, true, false, false] rfl rfl (by kernel_rfl) (fun _ _ _ h => h) (Or.inl ⟨by rfl, ?_⟩) hHeld ?_ ?_
      rotate_left
      rotate_left
      · simp only [Act.put, List.setIfInBounds_toArray, List.set_cons_zero, List.set_cons_succ]
        rfl
      rotate_left
      · rintro w' ⟨s0, s1, s2, s3, s4, s5, s6, s7, s8, s9, s10⟩
        go_simp
      refine one_ (i := 8) (N := some 25) #[true, true, true, true, true, true, true, true, true, false] rfl rfl (by kernel_rfl) (by decide) (fun K hK => ?_)
      refine goes_ Try.func88 (by kernel_rfl) rfl #[.agg #[.string x.f0, .slice A1 x.f1.length c1, .int .i64 x.f2, .slice A3 x.f3.length c3, .slice A4 x.f4.length c4], .agg #[.string x.f0, .slice B1 x.f1.length d1, .int .i64 x.f2, .slice B3 x.f3.length d3, .slice B4 x.f4.length d4]] (by rfl) rfl rfl (by first | rfl | (simp only [List.map_toArray, List.map_cons, List.map_nil]; rfl)) ?_
      refine (HN.out _ hHeld.2.2.2.2.2.2.2.2.2.2).mono ?_
      rintro e w5 ⟨rfl, hb⟩
      refine ⟨_, rfl, hK.out _ _ ⟨cell_step hHeld.1 hb, cell_step hHeld.2.1 hb, cell_step hHeld.2.2.1 hb, cell_step hHeld.2.2.2.1 hb, cell_step hHeld.2.2.2.2.1 hb, cell_step hHeld.2.2.2.2.2.1 hb, cell_step hHeld.2.2.2.2.2.2.1 hb, cell_step hHeld.2.2.2.2.2.2.2.1 hb, cell_step hHeld.2.2.2.2.2.2.2.2.1 hb, cell_step hHeld.2.2.2.2.2.2.2.2.2.1 hb, below_step hHeld.2.2.2.2.2.2.2.2.2.2 hb⟩ (fun hHeld => ?_)⟩
      clear hb
      clear hK K
      simp only [Act.put, List.setIfInBounds_toArray, List.set_cons_zero, List.set_cons_succ]
      refine pure_ (i := 9) (N := some 26) (v := ?_) (a' := ?_) #[true, true, true, true, true, true, true, true, true, true] rfl rfl (by kernel_rfl) (fun _ _ _ h => h) (Or.inl ⟨by rfl, ?_⟩) ?_ ?_
      rotate_left
      · intro w'
        go_simp
        with_reducible rfl
      rotate_left
      · simp only [Act.put, List.setIfInBounds_toArray, List.set_cons_zero, List.set_cons_succ]
        rfl
      have HB5 := Aside0.mk (below_step HB.out hHeld.2.2.2.2.2.2.2.2.2.2)
      clear hHeld hx0 hx1 hx2 hx3 hx4 hv0 hv1 hv2 hv3 hv4
      refine done_ (n := 0) (by kernel_rfl) ?_
      go_wp2
      go_roundg k1
      case measure => omega
      case rel => exact ⟨i + 1, rfl, ⟨by have := HI.out; omega, by have := HI.out; omega⟩, HB5⟩
theorem sameopsT_go (s : ByteArray) (a b c : Int) (l : List S69) (hl : l.length ≤ 9223372036854775807) : ∀ (d k : Nat) (i : Int), 0 ≤ i → i + d = l.length → d < k → tinderref09_SameWord.l0 k i s a b c l s a b c l = some true
  | 0, k, i, h0, h1, hk => by
    obtain ⟨k, rfl⟩ : ∃ m, k = m + 1 := ⟨k - 1, by omega⟩
    rw [tinderref09_SameWord.l0, if_neg (by omega)]
  | d + 1, k, i, h0, h1, hk => by
    obtain ⟨k, rfl⟩ : ∃ m, k = m + 1 := ⟨k - 1, by omega⟩
    have hw : wrap64 (i + 1) = i + 1 := by unfold wrap64; omega
    rw [tinderref09_SameWord.l0, if_pos (by omega), if_pos h0, if_pos (by omega), if_neg (by simp), hw]
    exact sameopsT_go s a b c l hl d k (i + 1) (by omega) (by omega) (by omega)
theorem sameWordT_calls (x : S51) (A4 : Option Addr) (c4 : Nat) (B4 : Option Addr) (d4 : Nat) (w : World) (hA : Kd.C k69 w A4 x.f4.length x.f4) (hc : x.f4.length ≤ c4) (hB : Kd.C k69 w B4 x.f4.length x.f4) (hd : x.f4.length ≤ d4) :
    Calls Try.prog 52 #[.agg #[.string x.f0, .int .i64 x.f1, .int .i64 x.f2, .int .u32 x.f3, .slice A4 x.f4.length c4], .agg #[.string x.f0, .int .i64 x.f1, .int .i64 x.f2, .int .u32 x.f3, .slice B4 x.f4.length d4]] w fun e w' => e = .returned (.bool true) ∧ Below w.heap.size w w' := by
  refine tinderref09_SameWord.calls (x.f4.length + 3) x.f0 x.f1 x.f2 x.f3 A4 c4 x.f4 x.f0 x.f1 x.f2 x.f3 B4 d4 x.f4 true w hA hc hB hd ?_
  unfold tinderref09_SameWord.f
  rw [if_pos rfl, if_pos rfl, if_pos rfl, if_pos rfl, show ((x.f4.length : Int) != (x.f4.length : Int)) = false by simp, tinderref09_SameWord.j0, if_neg (by simp)]
  exact sameopsT_go _ _ _ _ _ (Kd.C_max hA) x.f4.length _ 0 (Int.le_refl _) (by omega) (by omega)
theorem sameInstT_calls (x : S82) (A3 : Option Addr) (c3 : Nat) (B3 : Option Addr) (d3 : Nat) (w : World) (hA : Kd.C (Kd.int .u32) w A3 x.f3.length x.f3) (hc : x.f3.length ≤ c3) (hB : Kd.C (Kd.int .u32) w B3 x.f3.length x.f3) (hd : x.f3.length ≤ d3) :
    Calls Try.prog 69 #[.agg #[.int .i64 x.f0, .int .i64 x.f1, .string x.f2, .slice A3 x.f3.length c3], .agg #[.int .i64 x.f0, .int .i64 x.f1, .string x.f2, .slice B3 x.f3.length d3]] w fun e w' => e = .returned (.bool true) ∧ Below w.heap.size w w' := by
  refine tinderref09_SameInst.calls (x.f3.length + 3) x.f0 x.f1 x.f2 A3 c3 x.f3 x.f0 x.f1 x.f2 B3 d3 x.f3 true w hA hc hB hd ?_
  unfold tinderref09_SameInst.f
  rw [if_pos rfl, if_pos rfl, if_pos rfl, same3_eq _ _ (Kd.C_max hA) _ (by omega), decide_eq_true rfl]
  rfl
set_option maxHeartbeats 8000000 in
set_option maxRecDepth 100000 in
theorem sameButT_calls (l0 l1 : List Int) (l2 : List S51) (l3 : List Int) (a4 : Int) (l5 : List S91) (a6 : Int) (l7 : List S82) (a8 : Int) (a9 : ByteArray) (A0 : Option Addr) (c0 : Nat) (A1 : Option Addr) (c1 : Nat) (A2 : Option Addr) (c2 : Nat) (A3 : Option Addr) (c3 : Nat) (A5 : Option Addr) (c5 : Nat) (A7 : Option Addr) (c7 : Nat) (B0 : Option Addr) (d0 : Nat) (B1 : Option Addr) (d1 : Nat) (B2 : Option Addr) (d2 : Nat) (B3 : Option Addr) (d3 : Nat) (B5 : Option Addr) (d5 : Nat) (B7 : Option Addr) (d7 : Nat) (w : World) (gr0 : Kd.C (Kd.int .u32) w A0 l0.length l0) (gc0 : l0.length ≤ c0) (gr1 : Kd.C (Kd.int .u8) w A1 l1.length l1) (gc1 : l1.length ≤ c1) (gr2 : Kd.C k51 w A2 l2.length l2) (gc2 : l2.length ≤ c2) (gr3 : Kd.C (Kd.int .i64) w A3 l3.length l3) (gc3 : l3.length ≤ c3) (gr5 : Kd.C k91 w A5 l5.length l5) (gc5 : l5.length ≤ c5) (gr7 : Kd.C k82 w A7 l7.length l7) (gc7 : l7.length ≤ c7) (hr0 : Kd.C (Kd.int .u32) w B0 l0.length l0) (hc0 : l0.length ≤ d0) (hr1 : Kd.C (Kd.int .u8) w B1 l1.length l1) (hc1 : l1.length ≤ d1) (hr2 : Kd.C k51 w B2 l2.length l2) (hc2 : l2.length ≤ d2) (hr3 : Kd.C (Kd.int .i64) w B3 l3.length l3) (hc3 : l3.length ≤ d3) (hr5 : Kd.C k91 w B5 l5.length l5) (hc5 : l5.length ≤ d5) (hr7 : Kd.C k82 w B7 l7.length l7) (hc7 : l7.length ≤ d7) :
    Calls Try.prog 34 #[.agg #[.slice A0 l0.length c0, .slice A1 l1.length c1, .slice A2 l2.length c2, .slice A3 l3.length c3, .int .u32 a4, .slice A5 l5.length c5, .int .i64 a6, .slice A7 l7.length c7, .int .i64 a8, .string a9], .agg #[.slice B0 l0.length d0, .slice B1 l1.length d1, .slice B2 l2.length d2, .slice B3 l3.length d3, .int .u32 a4, .slice B5 l5.length d5, .int .i64 a6, .slice B7 l7.length d7, .int .i64 a8, .string a9]] w fun e w' => e = .returned (.bool true) ∧ Below w.heap.size w w' := by
  have hu32 := Try.underlying32
  have hu51 := Try.underlying51
  have hu82 := Try.underlying82
  have mixed : Try.prog.follows Departure.mixedOrders = true := by kernel_rfl
  have HM2 := Aside0.mk (Kd.C_max gr2)
  have HM7 := Aside0.mk (Kd.C_max gr7)
  have H0 := Aside0.mk (fun (W : World) (hb : Below w.heap.size w W) => same3_calls l0 A0 c0 B0 d0 W (Kd.C_below gr0 hb) gc0 (Kd.C_below hr0 hb) hc0)
  have H1 := Aside0.mk (fun (W : World) (hb : Below w.heap.size w W) => same4_calls l1 A1 c1 B1 d1 W (Kd.C_below gr1 hb) gc1 (Kd.C_below hr1 hb) hc1)
  have H5 := Aside0.mk (fun (W : World) (hb : Below w.heap.size w W) => same8T_calls l5 A5 c5 B5 d5 W (Kd.C_below gr5 hb) (Kd.C_below hr5 hb))
  have G2 := Aside0.mk gr2
  have G7 := Aside0.mk gr7
  have R2 := Aside0.mk hr2
  have R7 := Aside0.mk hr7
  clear gr0 gc0 gr1 gc1 gr2 gc2 gr3 gc3 gr5 gc5 gr7 gc7 hr0 hc0 hr1 hc1 hr2 hc2 hr3 hc3 hr5 hc5 hr7 hc7
  go_enter Try.func34, Try.ntmps34
  go_wp2_with (first
    | ((with_reducible refine gate_dst (N := 2) rfl ?_); refine box_event ?hg (N := 2) ?hd (cs := #[.slice A0 l0.length c0, .slice A1 l1.length c1, .slice A2 l2.length c2, .slice A3 l3.length c3, .int .u32 a4, .slice A5 l5.length c5, .int .i64 a6, .slice A7 l7.length c7, .int .i64 a8, .string a9]) (t := 32) ?hr ?_; (case hd => rfl); (case hg => rfl); (case hr => first | (go_simp; done) | (go_simp; rfl)); intro ga hga w1 hbox hb; have K1 := Aside0.mk hbox; have HB := Aside0.mk hb; clear hbox hb hga)
    | ((with_reducible refine gate_dst (N := 3) rfl ?_); refine box_event ?hg (N := 3) ?hd (cs := #[.slice B0 l0.length d0, .slice B1 l1.length d1, .slice B2 l2.length d2, .slice B3 l3.length d3, .int .u32 a4, .slice B5 l5.length d5, .int .i64 a6, .slice B7 l7.length d7, .int .i64 a8, .string a9]) (t := 32) ?hr ?_; (case hd => rfl); (case hg => rfl); (case hr => first | (go_simp; done) | (go_simp; rfl)); intro gb hga w2 hbox hb; replace K1 := Aside0.mk (blk_below K1.out hb); have K2 := Aside0.mk hbox; replace HB := Aside0.mk (below_step HB.out hb); have hz0 := (blk_cell K1.out 0).trans rfl; have hz1 := (blk_cell K1.out 1).trans rfl; have hz2 := (blk_cell K1.out 2).trans rfl; have hz3 := (blk_cell K1.out 3).trans rfl; have hz4 := (blk_cell K1.out 4).trans rfl; have hz5 := (blk_cell K1.out 5).trans rfl; have hz6 := (blk_cell K1.out 6).trans rfl; have hz7 := (blk_cell K1.out 7).trans rfl; have hz8 := (blk_cell K1.out 8).trans rfl; have hz9 := (blk_cell K1.out 9).trans rfl; have hy0 := (blk_cell K2.out 0).trans rfl; have hy1 := (blk_cell K2.out 1).trans rfl; have hy2 := (blk_cell K2.out 2).trans rfl; have hy3 := (blk_cell K2.out 3).trans rfl; have hy4 := (blk_cell K2.out 4).trans rfl; have hy5 := (blk_cell K2.out 5).trans rfl; have hy6 := (blk_cell K2.out 6).trans rfl; have hy7 := (blk_cell K2.out 7).trans rfl; have hy8 := (blk_cell K2.out 8).trans rfl; have hy9 := (blk_cell K2.out 9).trans rfl; have hfa0 := blk_frozen K1.out 0; have hfa1 := blk_frozen K1.out 1; have hfa2 := blk_frozen K1.out 2; have hfa3 := blk_frozen K1.out 3; have hfa4 := blk_frozen K1.out 4; have hfa5 := blk_frozen K1.out 5; have hfa6 := blk_frozen K1.out 6; have hfa7 := blk_frozen K1.out 7; have hfa8 := blk_frozen K1.out 8; have hfa9 := blk_frozen K1.out 9; have hfb0 := blk_frozen K2.out 0; have hfb1 := blk_frozen K2.out 1; have hfb2 := blk_frozen K2.out 2; have hfb3 := blk_frozen K2.out 3; have hfb4 := blk_frozen K2.out 4; have hfb5 := blk_frozen K2.out 5; have hfb6 := blk_frozen K2.out 6; have hfb7 := blk_frozen K2.out 7; have hfb8 := blk_frozen K2.out 8; have hfb9 := blk_frozen K2.out 9; clear hbox hb hga)
    | (go_at_call 66; (with_reducible refine (H0.out _ (by first | exact HB.out | exact pw_below_drewN HB.out _ | exact pw_below_drewN (pw_below_drewN HB.out _) _)).mono ?_); rintro e w3 ⟨rfl, n, rfl⟩)
    | (go_at_call 67; (with_reducible refine (H1.out _ (by first | exact HB.out | exact pw_below_drewN HB.out _ | exact pw_below_drewN (pw_below_drewN HB.out _) _)).mono ?_); rintro e w3 ⟨rfl, n2, rfl⟩)
    | (go_at_call 68; (with_reducible refine (H5.out _ (by first | exact HB.out | exact pw_below_drewN HB.out _ | exact pw_below_drewN (pw_below_drewN HB.out _) _)).mono ?_); rintro e w5 ⟨rfl, hb⟩; replace K1 := Aside0.mk (blk_below (w1 := w5) (show (World.drewN _ _).heap[ga]? = some (.cells #[.slice A0 l0.length c0, .slice A1 l1.length c1, .slice A2 l2.length c2, .slice A3 l3.length c3, .int .u32 a4, .slice A5 l5.length c5, .int .i64 a6, .slice A7 l7.length c7, .int .i64 a8, .string a9] 32 (0, 0)) from K1.out) hb); replace K2 := Aside0.mk (blk_below (w1 := w5) (show (World.drewN _ _).heap[gb]? = some (.cells #[.slice B0 l0.length d0, .slice B1 l1.length d1, .slice B2 l2.length d2, .slice B3 l3.length d3, .int .u32 a4, .slice B5 l5.length d5, .int .i64 a6, .slice B7 l7.length d7, .int .i64 a8, .string a9] 32 (0, 0)) from K2.out) hb); replace HB := Aside0.mk (below_step (by first | exact HB.out | exact pw_below_drewN HB.out _ | exact pw_below_drewN (pw_below_drewN HB.out _) _) hb); clear hb hz0 hz1 hz2 hz3 hz4 hz5 hz6 hz7 hz8 hz9 hy0 hy1 hy2 hy3 hy4 hy5 hy6 hy7 hy8 hy9 hfa0 hfa1 hfa2 hfa3 hfa4 hfa5 hfa6 hfa7 hfa8 hfa9 hfb0 hfb1 hfb2 hfb3 hfb4 hfb5 hfb6 hfb7 hfb8 hfb9; have hz0 := (blk_cell K1.out 0).trans rfl; have hz1 := (blk_cell K1.out 1).trans rfl; have hz2 := (blk_cell K1.out 2).trans rfl; have hz3 := (blk_cell K1.out 3).trans rfl; have hz4 := (blk_cell K1.out 4).trans rfl; have hz5 := (blk_cell K1.out 5).trans rfl; have hz6 := (blk_cell K1.out 6).trans rfl; have hz7 := (blk_cell K1.out 7).trans rfl; have hz8 := (blk_cell K1.out 8).trans rfl; have hz9 := (blk_cell K1.out 9).trans rfl; have hy0 := (blk_cell K2.out 0).trans rfl; have hy1 := (blk_cell K2.out 1).trans rfl; have hy2 := (blk_cell K2.out 2).trans rfl; have hy3 := (blk_cell K2.out 3).trans rfl; have hy4 := (blk_cell K2.out 4).trans rfl; have hy5 := (blk_cell K2.out 5).trans rfl; have hy6 := (blk_cell K2.out 6).trans rfl; have hy7 := (blk_cell K2.out 7).trans rfl; have hy8 := (blk_cell K2.out 8).trans rfl; have hy9 := (blk_cell K2.out 9).trans rfl; have hfa0 := blk_frozen K1.out 0; have hfa1 := blk_frozen K1.out 1; have hfa2 := blk_frozen K1.out 2; have hfa3 := blk_frozen K1.out 3; have hfa4 := blk_frozen K1.out 4; have hfa5 := blk_frozen K1.out 5; have hfa6 := blk_frozen K1.out 6; have hfa7 := blk_frozen K1.out 7; have hfa8 := blk_frozen K1.out 8; have hfa9 := blk_frozen K1.out 9; have hfb0 := blk_frozen K2.out 0; have hfb1 := blk_frozen K2.out 1; have hfb2 := blk_frozen K2.out 2; have hfb3 := blk_frozen K2.out 3; have hfb4 := blk_frozen K2.out 4; have hfb5 := blk_frozen K2.out 5; have hfb6 := blk_frozen K2.out 6; have hfb7 := blk_frozen K2.out 7; have hfb8 := blk_frozen K2.out 8; have hfb9 := blk_frozen K2.out 9))
  clear hz0 hz1 hz2 hz3 hz4 hz5 hz6 hz7 hz8 hz9 hy0 hy1 hy2 hy3 hy4 hy5 hy6 hy7 hy8 hy9 hfa0 hfa1 hfa2 hfa3 hfa4 hfa5 hfa6 hfa7 hfa8 hfa9 hfb0 hfb1 hfb2 hfb3 hfb4 hfb5 hfb6 hfb7 hfb8 hfb9
  go_loopg [5] l2.length (fun kq v5 w' => ∃ i : Int, v5 = .int .i64 i ∧ Aside0 (0 ≤ i ∧ i + kq = l2.length) ∧ Aside0 (w'.heap[ga]? = some (.cells #[.slice A0 l0.length c0, .slice A1 l1.length c1, .slice A2 l2.length c2, .slice A3 l3.length c3, .int .u32 a4, .slice A5 l5.length c5, .int .i64 a6, .slice A7 l7.length c7, .int .i64 a8, .string a9] 32 (0, 0))) ∧ Aside0 (w'.heap[gb]? = some (.cells #[.slice B0 l0.length d0, .slice B1 l1.length d1, .slice B2 l2.length d2, .slice B3 l3.length d3, .int .u32 a4, .slice B5 l5.length d5, .int .i64 a6, .slice B7 l7.length d7, .int .i64 a8, .string a9] 32 (0, 0))) ∧ Aside0 (Below w.heap.size w w'))
  case atStart => exact ⟨0, rfl, ⟨by omega, by omega⟩, ⟨K1.out⟩, ⟨K2.out⟩, ⟨by first | exact HB.out | exact pw_below_drewN HB.out _ | exact pw_below_drewN (pw_below_drewN HB.out _) _⟩⟩
  case round =>
    clear K1 K2 HB
    obtain ⟨i, rfl, HI, K1, K2, HB⟩ := hrel
    have hz := (blk_cell K1.out 2).trans rfl
    have hy := (blk_cell K2.out 2).trans rfl
    have hfz := blk_frozen K1.out 2
    have hfy := blk_frozen K2.out 2
    cases gk with
    | zero =>
      have hlt : decide (i < (l2.length : Int)) = false := decide_eq_false (by have := HI.out; omega)
      have hz7 := (blk_cell K1.out 7).trans rfl
      have hy7 := (blk_cell K2.out 7).trans rfl
      have hfz7 := blk_frozen K1.out 7
      have hfy7 := blk_frozen K2.out 7
      go_wp2
      go_loopg [6] l7.length (fun kq v6 w' => ∃ i : Int, v6 = .int .i64 i ∧ Aside0 (0 ≤ i ∧ i + kq = l7.length) ∧ Aside0 (w'.heap[ga]? = some (.cells #[.slice A0 l0.length c0, .slice A1 l1.length c1, .slice A2 l2.length c2, .slice A3 l3.length c3, .int .u32 a4, .slice A5 l5.length c5, .int .i64 a6, .slice A7 l7.length c7, .int .i64 a8, .string a9] 32 (0, 0))) ∧ Aside0 (w'.heap[gb]? = some (.cells #[.slice B0 l0.length d0, .slice B1 l1.length d1, .slice B2 l2.length d2, .slice B3 l3.length d3, .int .u32 a4, .slice B5 l5.length d5, .int .i64 a6, .slice B7 l7.length d7, .int .i64 a8, .string a9] 32 (0, 0))) ∧ Aside0 (Below w.heap.size w w'))
      case atStart => exact ⟨0, rfl, ⟨by omega, by omega⟩, ⟨K1.out⟩, ⟨K2.out⟩, ⟨by first | exact HB.out | exact pw_below_drewN HB.out _ | exact pw_below_drewN (pw_below_drewN HB.out _) _⟩⟩
      case round =>
        clear K1 K2 HB hz hy hfz hfy hz7 hy7 hfz7 hfy7 HI
        obtain ⟨i, rfl, HI, K1, K2, HB⟩ := hrel
        have hz := (blk_cell K1.out 7).trans rfl
        have hy := (blk_cell K2.out 7).trans rfl
        have hfz := blk_frozen K1.out 7
        have hfy := blk_frozen K2.out 7
        cases gk with
        | zero =>
          have hlt : decide (i < (l7.length : Int)) = false := decide_eq_false (by have := HI.out; omega)
          go_wp2
          go_ret
          exact ⟨rfl, HB.out⟩
        | succ k1 =>
          have hi := HI.out
          have hlt : decide (i < (l7.length : Int)) = true := decide_eq_true (by omega)
          have p1 : (0 ≤ i) = True := eq_true (by omega)
          have p2 : (i < (l7.length : Int)) = True := eq_true (by omega)
          have hwr : IntKind.i64.wrap (i + 1) = i + 1 := (i64_w _).trans (by have := HM7.out; unfold wrap64; omega)
          have hwr2 : wrap64 (i + 1) = i + 1 := by have := HM7.out; unfold wrap64; omega
          obtain ⟨ad, A3, c3, eA, hx0, hx1, hx2, hx3, hl1, hg1⟩ := at_T82 (Kd.C_below G7.out HB.out) i (by omega) (by omega)
          cases eA
          obtain ⟨bd, B3, d3, eB, hv0, hv1, hv2, hv3, ml1, mg1⟩ := at_T82 (Kd.C_below R7.out HB.out) i (by omega) (by omega)
          cases eB
          have HN := Aside0.mk (fun (W : World) (hb : Below wr.heap.size wr W) => sameInstT_calls (rd_T82 l7 i) A3 c3 B3 d3 W (Kd.C_below hg1 hb) hl1 (Kd.C_below mg1 hb) ml1)
          have hp0 : wr.cell? ⟨ga, 7, none⟩ = some (.slice (some ad) l7.length c7) := hz
          have hp1 : wr.cell? ⟨gb, 7, none⟩ = some (.slice (some bd) l7.length d7) := hy
          clear hz hy hfz hfy
          generalize rd_T82 l7 i = x at *
          clear hi hl1 hg1 ml1 mg1
          go_wp2
          refine start_ (n := 12) (S := fun w' => w'.cell? ⟨ga, 7, none⟩ = some (.slice (some ad) l7.length c7) ∧ w'.cell? ⟨gb, 7, none⟩ = some (.slice (some bd) l7.length d7) ∧ w'.cell? (ad.add (i.toNat * 4)) = some (.int .i64 x.f0) ∧ w'.cell? ⟨(ad.add (i.toNat * 4)).block, (ad.add (i.toNat * 4)).off + 1, none⟩ = some (.int .i64 x.f1) ∧ w'.cell? ⟨(ad.add (i.toNat * 4)).block, (ad.add (i.toNat * 4)).off + 2, none⟩ = some (.string x.f2) ∧ w'.cell? ⟨(ad.add (i.toNat * 4)).block, (ad.add (i.toNat * 4)).off + 3, none⟩ = some (.slice A3 x.f3.length c3) ∧ w'.cell? (bd.add (i.toNat * 4)) = some (.int .i64 x.f0) ∧ w'.cell? ⟨(bd.add (i.toNat * 4)).block, (bd.add (i.toNat * 4)).off + 1, none⟩ = some (.int .i64 x.f1) ∧ w'.cell? ⟨(bd.add (i.toNat * 4)).block, (bd.add (i.toNat * 4)).off + 2, none⟩ = some (.string x.f2) ∧ w'.cell? ⟨(bd.add (i.toNat * 4)).block, (bd.add (i.toNat * 4)).off + 3, none⟩ = some (.slice B3 x.f3.length d3) ∧ Below wr.heap.size wr w') (ds := []) #[false, false, false, false, false, false, false, false, false, false, false, false] (by kernel_rfl) rfl rfl ⟨hp0, hp1, hx0, hx1, hx2, hx3, hv0, hv1, hv2, hv3, below_drew1 (Below.refl wr.heap.size wr)⟩ (fun hHeld => ?_)
          refine pure_ (i := 0) (N := some 101) (v := ?_) (a' := ?_) #[true, false, false, false, false, false, false, false, false, false, false, false] rfl rfl (by kernel_rfl) (fun _ _ _ h => h) (Or.inl ⟨by rfl, ?_⟩) ?_ ?_
          rotate_left
          · intro w'
            go_simp
            with_reducible rfl
          rotate_left
          · simp only [Act.put, List.setIfInBounds_toArray, List.set_cons_zero, List.set_cons_succ]
            rfl
          refine pure_ (i := 2) (N := some 103) (v := ?_) (a' := ?_) #[true, false, true, false, false, false, false, false, false, false, false, false] rfl rfl (by kernel_rfl) (fun _ _ _ h => h) (Or.inl ⟨by rfl, ?_⟩) ?_ ?_
          rotate_left
          · intro w'
            go_simp
            with_reducible rfl
          rotate_left
          · simp only [Act.put, List.setIfInBounds_toArray, List.set_cons_zero, List.set_cons_succ]
            rfl
          refine pure_ (i := 5) (N := some 106) (v := ?_) (a' := ?_) #[true, false, true, false, false, true, false, false, false, false, false, false] rfl rfl (by kernel_rfl) (fun _ _ _ h => h) (Or.inl ⟨by rfl, ?_⟩) ?_ ?_
          rotate_left
          · intro w'
            go_simp
            with_reducible rfl
          rotate_left
          · simp only [Act.put, List.setIfInBounds_toArray, List.set_cons_zero, List.set_cons_succ]
            rfl
          refine pure_ (i := 7) (N := some 108) (v := ?_) (a' := ?_) #[true, false, true, false, false, true, false, true, false, false, false, false] rfl rfl (by kernel_rfl) (fun _ _ _ h => h) (Or.inl ⟨by rfl, ?_⟩) ?_ ?_
          rotate_left
          · intro w'
            go_simp
            with_reducible rfl
          rotate_left
          · simp only [Act.put, List.setIfInBounds_toArray, List.set_cons_zero, List.set_cons_succ]
            rfl
          refine take_ (i := 1) (N := some 102) (v := (.slice (some ad) l7.length c7)) (a' := ?_) #[true, true, true, false, false, true, false, true, false, false, false, false] rfl rfl (by kernel_rfl) (fun _ _ _ h => h) (Or.inl ⟨by rfl, ?_⟩) hHeld ?_ ?_
          rotate_left
          rotate_left
          · simp only [Act.put, List.setIfInBounds_toArray, List.set_cons_zero, List.set_cons_succ]
            rfl
          rotate_left
          · rintro w' ⟨s0, s1, s2, s3, s4, s5, s6, s7, s8, s9, s10⟩
            go_simp
          refine take_ (i := 6) (N := some 107) (v := (.slice (some bd) l7.length d7)) (a' := ?_) #[true, true, true, false, false, true, true, true, false, false, false, false] rfl rfl (by kernel_rfl) (fun _ _ _ h => h) (Or.inl ⟨by rfl, ?_⟩) hHeld ?_ ?_
          rotate_left
          rotate_left
          · simp only [Act.put, List.setIfInBounds_toArray, List.set_cons_zero, List.set_cons_succ]
            rfl
          rotate_left
          · rintro w' ⟨s0, s1, s2, s3, s4, s5, s6, s7, s8, s9, s10⟩
            go_simp
          refine pure_ (i := 3) (N := some 104) (v := ?_) (a' := ?_) #[true, true, true, true, false, true, true, true, false, false, false, false] rfl rfl (by kernel_rfl) (fun _ _ _ h => h) (Or.inl ⟨by rfl, ?_⟩) ?_ ?_
          rotate_left
          · intro w'
            go_simp
            with_reducible rfl
          rotate_left
          · simp only [Act.put, List.setIfInBounds_toArray, List.set_cons_zero, List.set_cons_succ]
            rfl
          refine pure_ (i := 8) (N := some 109) (v := ?_) (a' := ?_) #[true, true, true, true, false, true, true, true, true, false, false, false] rfl rfl (by kernel_rfl) (fun _ _ _ h => h) (Or.inl ⟨by rfl, ?_⟩) ?_ ?_
          rotate_left
          · intro w'
            go_simp
            with_reducible rfl
          rotate_left
          · simp only [Act.put, List.setIfInBounds_toArray, List.set_cons_zero, List.set_cons_succ]
            rfl
          refine take_ (i := 4) (N := some 105) (v := (.agg #[.int .i64 x.f0, .int .i64 x.f1, .string x.f2, .slice A3 x.f3.length c3])) (a' := ?_) #[true, true, true, true, true, true, true, true, true, false, false, false] rfl rfl (by kernel_rfl) (fun _ _ _ h => h) (Or.inl ⟨by rfl, ?_⟩) hHeld ?_ ?_
          rotate_left
          rotate_left
          · simp only [Act.put, List.setIfInBounds_toArray, List.set_cons_zero, List.set_cons_succ]
            rfl
          rotate_left
          · rintro w' ⟨s0, s1, s2, s3, s4, s5, s6, s7, s8, s9, s10⟩
            go_simp
          refine take_ (i := 9) (N := some 110) (v := (.agg #[.int .i64 x.f0, .int .i64 x.f1, .string x.f2, .slice B3 x.f3.length d3])) (a' := ?_) #[true, true, true, true, true, true, true, true, true, true, false, false] rfl rfl (by kernel_rfl) (fun _ _ _ h => h) (Or.inl ⟨by rfl, ?_⟩) hHeld ?_ ?_
          rotate_left
          rotate_left
          · simp only [Act.put, List.setIfInBounds_toArray, List.set_cons_zero, List.set_cons_succ]
            rfl
          rotate_left
          · rintro w' ⟨s0, s1, s2, s3, s4, s5, s6, s7, s8, s9, s10⟩
            go_simp
          refine one_ (i := 10) (N := some 111) #[true, true, true, true, true, true, true, true, true, true, true, false] rfl rfl (by kernel_rfl) (by decide) (fun K hK => ?_)
          refine goes_ Try.func69 (by kernel_rfl) rfl #[.agg #[.int .i64 x.f0, .int .i64 x.f1, .string x.f2, .slice A3 x.f3.length c3], .agg #[.int .i64 x.f0, .int .i64 x.f1, .string x.f2, .slice B3 x.f3.length d3]] (by rfl) rfl rfl (by first | rfl | (simp only [List.map_toArray, List.map_cons, List.map_nil]; rfl)) ?_
          refine (HN.out _ hHeld.2.2.2.2.2.2.2.2.2.2).mono ?_
          rintro e w5 ⟨rfl, hb⟩
          refine ⟨_, rfl, hK.out _ _ ⟨cell_step hHeld.1 hb, cell_step hHeld.2.1 hb, cell_step hHeld.2.2.1 hb, cell_step hHeld.2.2.2.1 hb, cell_step hHeld.2.2.2.2.1 hb, cell_step hHeld.2.2.2.2.2.1 hb, cell_step hHeld.2.2.2.2.2.2.1 hb, cell_step hHeld.2.2.2.2.2.2.2.1 hb, cell_step hHeld.2.2.2.2.2.2.2.2.1 hb, cell_step hHeld.2.2.2.2.2.2.2.2.2.1 hb, below_step hHeld.2.2.2.2.2.2.2.2.2.2 hb⟩ (fun hHeld => ?_)⟩
          clear hb
          clear hK K
          simp only [Act.put, List.setIfInBounds_toArray, List.set_cons_zero, List.set_cons_succ]
          refine pure_ (i := 11) (N := some 112) (v := ?_) (a' := ?_) #[true, true, true, true, true, true, true, true, true, true, true, true] rfl rfl (by kernel_rfl) (fun _ _ _ h => h) (Or.inl ⟨by rfl, ?_⟩) ?_ ?_
          rotate_left
          · intro w'
            go_simp
            with_reducible rfl
          rotate_left
          · simp only [Act.put, List.setIfInBounds_toArray, List.set_cons_zero, List.set_cons_succ]
            rfl
          have HB5 := Aside0.mk (below_step HB.out hHeld.2.2.2.2.2.2.2.2.2.2)
          have HW5 := Aside0.mk hHeld.2.2.2.2.2.2.2.2.2.2
          clear hHeld hp0 hp1 hx0 hx1 hx2 hx3 hv0 hv1 hv2 hv3
          refine done_ (n := 0) (by kernel_rfl) ?_
          replace K1 := Aside0.mk ((HW5.out.block ga (blk_lt K1.out)).trans K1.out)
          replace K2 := Aside0.mk ((HW5.out.block gb (blk_lt K2.out)).trans K2.out)
          go_wp2
          go_roundg k1
          case measure => omega
          case rel => exact ⟨i + 1, rfl, ⟨by have := HI.out; omega, by have := HI.out; omega⟩, ⟨K1.out⟩, ⟨K2.out⟩, HB5⟩
    | succ k1 =>
      have hi := HI.out
      have hlt : decide (i < (l2.length : Int)) = true := decide_eq_true (by omega)
      have p1 : (0 ≤ i) = True := eq_true (by omega)
      have p2 : (i < (l2.length : Int)) = True := eq_true (by omega)
      have hwr : IntKind.i64.wrap (i + 1) = i + 1 := (i64_w _).trans (by have := HM2.out; unfold wrap64; omega)
      have hwr2 : wrap64 (i + 1) = i + 1 := by have := HM2.out; unfold wrap64; omega
      obtain ⟨ad, A4, c4, eA, hx0, hx1, hx2, hx3, hx4, hl1, hg1⟩ := at_T51 (Kd.C_below G2.out HB.out) i (by omega) (by omega)
      cases eA
      obtain ⟨bd, B4, d4, eB, hv0, hv1, hv2, hv3, hv4, ml1, mg1⟩ := at_T51 (Kd.C_below R2.out HB.out) i (by omega) (by omega)
      cases eB
      have HN := Aside0.mk (fun (W : World) (hb : Below wr.heap.size wr W) => sameWordT_calls (rd_T51 l2 i) A4 c4 B4 d4 W (Kd.C_below hg1 hb) hl1 (Kd.C_below mg1 hb) ml1)
      have hp0 : wr.cell? ⟨ga, 2, none⟩ = some (.slice (some ad) l2.length c2) := hz
      have hp1 : wr.cell? ⟨gb, 2, none⟩ = some (.slice (some bd) l2.length d2) := hy
      clear hz hy hfz hfy
      generalize rd_T51 l2 i = x at *
      clear hi hl1 hg1 ml1 mg1
      go_wp2
      refine start_ (n := 12) (S := fun w' => w'.cell? ⟨ga, 2, none⟩ = some (.slice (some ad) l2.length c2) ∧ w'.cell? ⟨gb, 2, none⟩ = some (.slice (some bd) l2.length d2) ∧ w'.cell? (ad.add (i.toNat * 5)) = some (.string x.f0) ∧ w'.cell? ⟨(ad.add (i.toNat * 5)).block, (ad.add (i.toNat * 5)).off + 1, none⟩ = some (.int .i64 x.f1) ∧ w'.cell? ⟨(ad.add (i.toNat * 5)).block, (ad.add (i.toNat * 5)).off + 2, none⟩ = some (.int .i64 x.f2) ∧ w'.cell? ⟨(ad.add (i.toNat * 5)).block, (ad.add (i.toNat * 5)).off + 3, none⟩ = some (.int .u32 x.f3) ∧ w'.cell? ⟨(ad.add (i.toNat * 5)).block, (ad.add (i.toNat * 5)).off + 4, none⟩ = some (.slice A4 x.f4.length c4) ∧ w'.cell? (bd.add (i.toNat * 5)) = some (.string x.f0) ∧ w'.cell? ⟨(bd.add (i.toNat * 5)).block, (bd.add (i.toNat * 5)).off + 1, none⟩ = some (.int .i64 x.f1) ∧ w'.cell? ⟨(bd.add (i.toNat * 5)).block, (bd.add (i.toNat * 5)).off + 2, none⟩ = some (.int .i64 x.f2) ∧ w'.cell? ⟨(bd.add (i.toNat * 5)).block, (bd.add (i.toNat * 5)).off + 3, none⟩ = some (.int .u32 x.f3) ∧ w'.cell? ⟨(bd.add (i.toNat * 5)).block, (bd.add (i.toNat * 5)).off + 4, none⟩ = some (.slice B4 x.f4.length d4) ∧ Below wr.heap.size wr w') (ds := []) #[false, false, false, false, false, false, false, false, false, false, false, false] (by kernel_rfl) rfl rfl ⟨hp0, hp1, hx0, hx1, hx2, hx3, hx4, hv0, hv1, hv2, hv3, hv4, below_drew1 (Below.refl wr.heap.size wr)⟩ (fun hHeld => ?_)
      refine pure_ (i := 0) (N := some 82) (v := ?_) (a' := ?_) #[true, false, false, false, false, false, false, false, false, false, false, false] rfl rfl (by kernel_rfl) (fun _ _ _ h => h) (Or.inl ⟨by rfl, ?_⟩) ?_ ?_
      rotate_left
      · intro w'
        go_simp
        with_reducible rfl
      rotate_left
      · simp only [Act.put, List.setIfInBounds_toArray, List.set_cons_zero, List.set_cons_succ]
        rfl
      refine pure_ (i := 2) (N := some 84) (v := ?_) (a' := ?_) #[true, false, true, false, false, false, false, false, false, false, false, false] rfl rfl (by kernel_rfl) (fun _ _ _ h => h) (Or.inl ⟨by rfl, ?_⟩) ?_ ?_
      rotate_left
      · intro w'
        go_simp
        with_reducible rfl
      rotate_left
      · simp only [Act.put, List.setIfInBounds_toArray, List.set_cons_zero, List.set_cons_succ]
        rfl
      refine pure_ (i := 5) (N := some 87) (v := ?_) (a' := ?_) #[true, false, true, false, false, true, false, false, false, false, false, false] rfl rfl (by kernel_rfl) (fun _ _ _ h => h) (Or.inl ⟨by rfl, ?_⟩) ?_ ?_
      rotate_left
      · intro w'
        go_simp
        with_reducible rfl
      rotate_left
      · simp only [Act.put, List.setIfInBounds_toArray, List.set_cons_zero, List.set_cons_succ]
        rfl
      refine pure_ (i := 7) (N := some 89) (v := ?_) (a' := ?_) #[true, false, true, false, false, true, false, true, false, false, false, false] rfl rfl (by kernel_rfl) (fun _ _ _ h => h) (Or.inl ⟨by rfl, ?_⟩) ?_ ?_
      rotate_left
      · intro w'
        go_simp
        with_reducible rfl
      rotate_left
      · simp only [Act.put, List.setIfInBounds_toArray, List.set_cons_zero, List.set_cons_succ]
        rfl
      refine take_ (i := 1) (N := some 83) (v := (.slice (some ad) l2.length c2)) (a' := ?_) #[true, true, true, false, false, true, false, true, false, false, false, false] rfl rfl (by kernel_rfl) (fun _ _ _ h => h) (Or.inl ⟨by rfl, ?_⟩) hHeld ?_ ?_
      rotate_left
      rotate_left
      · simp only [Act.put, List.setIfInBounds_toArray, List.set_cons_zero, List.set_cons_succ]
        rfl
      rotate_left
      · rintro w' ⟨s0, s1, s2, s3, s4, s5, s6, s7, s8, s9, s10, s11, s12⟩
        go_simp
      refine take_ (i := 6) (N := some 88) (v := (.slice (some bd) l2.length d2)) (a' := ?_) #[true, true, true, false, false, true, true, true, false, false, false, false] rfl rfl (by kernel_rfl) (fun _ _ _ h => h) (Or.inl ⟨by rfl, ?_⟩) hHeld ?_ ?_
      rotate_left
      rotate_left
      · simp only [Act.put, List.setIfInBounds_toArray, List.set_cons_zero, List.set_cons_succ]
        rfl
      rotate_left
      · rintro w' ⟨s0, s1, s2, s3, s4, s5, s6, s7, s8, s9, s10, s11, s12⟩
        go_simp
      refine pure_ (i := 3) (N := some 85) (v := ?_) (a' := ?_) #[true, true, true, true, false, true, true, true, false, false, false, false] rfl rfl (by kernel_rfl) (fun _ _ _ h => h) (Or.inl ⟨by rfl, ?_⟩) ?_ ?_
      rotate_left
      · intro w'
        go_simp
        with_reducible rfl
      rotate_left
      · simp only [Act.put, List.setIfInBounds_toArray, List.set_cons_zero, List.set_cons_succ]
        rfl
      refine pure_ (i := 8) (N := some 90) (v := ?_) (a' := ?_) #[true, true, true, true, false, true, true, true, true, false, false, false] rfl rfl (by kernel_rfl) (fun _ _ _ h => h) (Or.inl ⟨by rfl, ?_⟩) ?_ ?_
      rotate_left
      · intro w'
        go_simp
        with_reducible rfl
      rotate_left
      · simp only [Act.put, List.setIfInBounds_toArray, List.set_cons_zero, List.set_cons_succ]
        rfl
      refine take_ (i := 4) (N := some 86) (v := (.agg #[.string x.f0, .int .i64 x.f1, .int .i64 x.f2, .int .u32 x.f3, .slice A4 x.f4.length c4])) (a' := ?_) #[true, true, true, true, true, true, true, true, true, false, false, false] rfl rfl (by kernel_rfl) (fun _ _ _ h => h) (Or.inl ⟨by rfl, ?_⟩) hHeld ?_ ?_
      rotate_left
      rotate_left
      · simp only [Act.put, List.setIfInBounds_toArray, List.set_cons_zero, List.set_cons_succ]
        rfl
      rotate_left
      · rintro w' ⟨s0, s1, s2, s3, s4, s5, s6, s7, s8, s9, s10, s11, s12⟩
        go_simp
      refine take_ (i := 9) (N := some 91) (v := (.agg #[.string x.f0, .int .i64 x.f1, .int .i64 x.f2, .int .u32 x.f3, .slice B4 x.f4.length d4])) (a' := ?_) #[true, true, true, true, true, true, true, true, true, true, false, false] rfl rfl (by kernel_rfl) (fun _ _ _ h => h) (Or.inl ⟨by rfl, ?_⟩) hHeld ?_ ?_
      rotate_left
      rotate_left
      · simp only [Act.put, List.setIfInBounds_toArray, List.set_cons_zero, List.set_cons_succ]
        rfl
      rotate_left
      · rintro w' ⟨s0, s1, s2, s3, s4, s5, s6, s7, s8, s9, s10, s11, s12⟩
        go_simp
      refine one_ (i := 10) (N := some 92) #[true, true, true, true, true, true, true, true, true, true, true, false] rfl rfl (by kernel_rfl) (by decide) (fun K hK => ?_)
      refine goes_ Try.func52 (by kernel_rfl) rfl #[.agg #[.string x.f0, .int .i64 x.f1, .int .i64 x.f2, .int .u32 x.f3, .slice A4 x.f4.length c4], .agg #[.string x.f0, .int .i64 x.f1, .int .i64 x.f2, .int .u32 x.f3, .slice B4 x.f4.length d4]] (by rfl) rfl rfl (by first | rfl | (simp only [List.map_toArray, List.map_cons, List.map_nil]; rfl)) ?_
      refine (HN.out _ hHeld.2.2.2.2.2.2.2.2.2.2.2.2).mono ?_
      rintro e w5 ⟨rfl, hb⟩
      refine ⟨_, rfl, hK.out _ _ ⟨cell_step hHeld.1 hb, cell_step hHeld.2.1 hb, cell_step hHeld.2.2.1 hb, cell_step hHeld.2.2.2.1 hb, cell_step hHeld.2.2.2.2.1 hb, cell_step hHeld.2.2.2.2.2.1 hb, cell_step hHeld.2.2.2.2.2.2.1 hb, cell_step hHeld.2.2.2.2.2.2.2.1 hb, cell_step hHeld.2.2.2.2.2.2.2.2.1 hb, cell_step hHeld.2.2.2.2.2.2.2.2.2.1 hb, cell_step hHeld.2.2.2.2.2.2.2.2.2.2.1 hb, cell_step hHeld.2.2.2.2.2.2.2.2.2.2.2.1 hb, below_step hHeld.2.2.2.2.2.2.2.2.2.2.2.2 hb⟩ (fun hHeld => ?_)⟩
      clear hb
      clear hK K
      simp only [Act.put, List.setIfInBounds_toArray, List.set_cons_zero, List.set_cons_succ]
      refine pure_ (i := 11) (N := some 93) (v := ?_) (a' := ?_) #[true, true, true, true, true, true, true, true, true, true, true, true] rfl rfl (by kernel_rfl) (fun _ _ _ h => h) (Or.inl ⟨by rfl, ?_⟩) ?_ ?_
      rotate_left
      · intro w'
        go_simp
        with_reducible rfl
      rotate_left
      · simp only [Act.put, List.setIfInBounds_toArray, List.set_cons_zero, List.set_cons_succ]
        rfl
      have HB5 := Aside0.mk (below_step HB.out hHeld.2.2.2.2.2.2.2.2.2.2.2.2)
      have HW5 := Aside0.mk hHeld.2.2.2.2.2.2.2.2.2.2.2.2
      clear hHeld hp0 hp1 hx0 hx1 hx2 hx3 hx4 hv0 hv1 hv2 hv3 hv4
      refine done_ (n := 0) (by kernel_rfl) ?_
      replace K1 := Aside0.mk ((HW5.out.block ga (blk_lt K1.out)).trans K1.out)
      replace K2 := Aside0.mk ((HW5.out.block gb (blk_lt K2.out)).trans K2.out)
      go_wp2
      go_roundg k1
      case measure => omega
      case rel => exact ⟨i + 1, rfl, ⟨by have := HI.out; omega, by have := HI.out; omega⟩, ⟨K1.out⟩, ⟨K2.out⟩, HB5⟩
set_option maxHeartbeats 8000000 in
set_option maxRecDepth 100000 in
theorem same9T_calls (l0 l1 : List Int) (l2 : List S51) (l3 : List Int) (a4 : Int) (l5 : List S91) (a6 : Int) (l7 : List S82) (a8 : Int) (a9 : ByteArray) (A0 : Option Addr) (c0 : Nat) (A1 : Option Addr) (c1 : Nat) (A2 : Option Addr) (c2 : Nat) (A3 : Option Addr) (c3 : Nat) (A5 : Option Addr) (c5 : Nat) (A7 : Option Addr) (c7 : Nat) (B0 : Option Addr) (d0 : Nat) (B1 : Option Addr) (d1 : Nat) (B2 : Option Addr) (d2 : Nat) (B3 : Option Addr) (d3 : Nat) (B5 : Option Addr) (d5 : Nat) (B7 : Option Addr) (d7 : Nat) (w : World) (gr0 : Kd.C (Kd.int .u32) w A0 l0.length l0) (gc0 : l0.length ≤ c0) (gr1 : Kd.C (Kd.int .u8) w A1 l1.length l1) (gc1 : l1.length ≤ c1) (gr2 : Kd.C k51 w A2 l2.length l2) (gc2 : l2.length ≤ c2) (gr3 : Kd.C (Kd.int .i64) w A3 l3.length l3) (gc3 : l3.length ≤ c3) (gr5 : Kd.C k91 w A5 l5.length l5) (gc5 : l5.length ≤ c5) (gr7 : Kd.C k82 w A7 l7.length l7) (gc7 : l7.length ≤ c7) (hr0 : Kd.C (Kd.int .u32) w B0 l0.length l0) (hc0 : l0.length ≤ d0) (hr1 : Kd.C (Kd.int .u8) w B1 l1.length l1) (hc1 : l1.length ≤ d1) (hr2 : Kd.C k51 w B2 l2.length l2) (hc2 : l2.length ≤ d2) (hr3 : Kd.C (Kd.int .i64) w B3 l3.length l3) (hc3 : l3.length ≤ d3) (hr5 : Kd.C k91 w B5 l5.length l5) (hc5 : l5.length ≤ d5) (hr7 : Kd.C k82 w B7 l7.length l7) (hc7 : l7.length ≤ d7) :
    Calls Try.prog 11 #[.agg #[.slice A0 l0.length c0, .slice A1 l1.length c1, .slice A2 l2.length c2, .slice A3 l3.length c3, .int .u32 a4, .slice A5 l5.length c5, .int .i64 a6, .slice A7 l7.length c7, .int .i64 a8, .string a9], .agg #[.slice B0 l0.length d0, .slice B1 l1.length d1, .slice B2 l2.length d2, .slice B3 l3.length d3, .int .u32 a4, .slice B5 l5.length d5, .int .i64 a6, .slice B7 l7.length d7, .int .i64 a8, .string a9]] w fun e w' => e = .returned (.bool true) ∧ Below w.heap.size w w' := by
  have hu32 := Try.underlying32
  have HM3 := Aside0.mk (Kd.C_max gr3)
  have HSB := Aside0.mk (fun (W : World) (hb : Below w.heap.size w W) => sameButT_calls l0 l1 l2 l3 a4 l5 a6 l7 a8 a9 A0 c0 A1 c1 A2 c2 A3 c3 A5 c5 A7 c7 B0 d0 B1 d1 B2 d2 B3 d3 B5 d5 B7 d7 W (Kd.C_below gr0 hb) gc0 (Kd.C_below gr1 hb) gc1 (Kd.C_below gr2 hb) gc2 (Kd.C_below gr3 hb) gc3 (Kd.C_below gr5 hb) gc5 (Kd.C_below gr7 hb) gc7 (Kd.C_below hr0 hb) hc0 (Kd.C_below hr1 hb) hc1 (Kd.C_below hr2 hb) hc2 (Kd.C_below hr3 hb) hc3 (Kd.C_below hr5 hb) hc5 (Kd.C_below hr7 hb) hc7)
  have G3 := Aside0.mk gr3
  have R3 := Aside0.mk hr3
  clear gr0 gc0 gr1 gc1 gr2 gc2 gr3 gc3 gr5 gc5 gr7 gc7 hr0 hc0 hr1 hc1 hr2 hc2 hr3 hc3 hr5 hc5 hr7 hc7
  go_enter Try.func11, Try.ntmps11
  go_wp2_with (first
    | ((with_reducible refine gate_dst (N := 2) rfl ?_); refine box_event ?hg (N := 2) ?hd (cs := #[.slice A0 l0.length c0, .slice A1 l1.length c1, .slice A2 l2.length c2, .slice A3 l3.length c3, .int .u32 a4, .slice A5 l5.length c5, .int .i64 a6, .slice A7 l7.length c7, .int .i64 a8, .string a9]) (t := 32) ?hr ?_; (case hd => rfl); (case hg => rfl); (case hr => first | (go_simp; done) | (go_simp; rfl)); intro ga hga w1 hbox hb; have K1 := Aside0.mk hbox; have HB := Aside0.mk hb; clear hbox hb hga)
    | ((with_reducible refine gate_dst (N := 3) rfl ?_); refine box_event ?hg (N := 3) ?hd (cs := #[.slice B0 l0.length d0, .slice B1 l1.length d1, .slice B2 l2.length d2, .slice B3 l3.length d3, .int .u32 a4, .slice B5 l5.length d5, .int .i64 a6, .slice B7 l7.length d7, .int .i64 a8, .string a9]) (t := 32) ?hr ?_; (case hd => rfl); (case hg => rfl); (case hr => first | (go_simp; done) | (go_simp; rfl)); intro gb hga w2 hbox hb; replace K1 := Aside0.mk (blk_below K1.out hb); have K2 := Aside0.mk hbox; replace HB := Aside0.mk (below_step HB.out hb); have hz0 := (blk_cell K1.out 0).trans rfl; have hz1 := (blk_cell K1.out 1).trans rfl; have hz2 := (blk_cell K1.out 2).trans rfl; have hz3 := (blk_cell K1.out 3).trans rfl; have hz4 := (blk_cell K1.out 4).trans rfl; have hz5 := (blk_cell K1.out 5).trans rfl; have hz6 := (blk_cell K1.out 6).trans rfl; have hz7 := (blk_cell K1.out 7).trans rfl; have hz8 := (blk_cell K1.out 8).trans rfl; have hz9 := (blk_cell K1.out 9).trans rfl; have hy0 := (blk_cell K2.out 0).trans rfl; have hy1 := (blk_cell K2.out 1).trans rfl; have hy2 := (blk_cell K2.out 2).trans rfl; have hy3 := (blk_cell K2.out 3).trans rfl; have hy4 := (blk_cell K2.out 4).trans rfl; have hy5 := (blk_cell K2.out 5).trans rfl; have hy6 := (blk_cell K2.out 6).trans rfl; have hy7 := (blk_cell K2.out 7).trans rfl; have hy8 := (blk_cell K2.out 8).trans rfl; have hy9 := (blk_cell K2.out 9).trans rfl; have hfa0 := blk_frozen K1.out 0; have hfa1 := blk_frozen K1.out 1; have hfa2 := blk_frozen K1.out 2; have hfa3 := blk_frozen K1.out 3; have hfa4 := blk_frozen K1.out 4; have hfa5 := blk_frozen K1.out 5; have hfa6 := blk_frozen K1.out 6; have hfa7 := blk_frozen K1.out 7; have hfa8 := blk_frozen K1.out 8; have hfa9 := blk_frozen K1.out 9; have hfb0 := blk_frozen K2.out 0; have hfb1 := blk_frozen K2.out 1; have hfb2 := blk_frozen K2.out 2; have hfb3 := blk_frozen K2.out 3; have hfb4 := blk_frozen K2.out 4; have hfb5 := blk_frozen K2.out 5; have hfb6 := blk_frozen K2.out 6; have hfb7 := blk_frozen K2.out 7; have hfb8 := blk_frozen K2.out 8; have hfb9 := blk_frozen K2.out 9; clear hbox hb hga))
  clear hz0 hz1 hz2 hz3 hz4 hz5 hz6 hz7 hz8 hz9 hy0 hy1 hy2 hy3 hy4 hy5 hy6 hy7 hy8 hy9 hfa0 hfa1 hfa2 hfa3 hfa4 hfa5 hfa6 hfa7 hfa8 hfa9 hfb0 hfb1 hfb2 hfb3 hfb4 hfb5 hfb6 hfb7 hfb8 hfb9
  go_loopg [5] l3.length (fun kq v5 w' => ∃ i : Int, v5 = .int .i64 i ∧ Aside0 (0 ≤ i ∧ i + kq = l3.length) ∧ Aside0 (w'.heap[ga]? = some (.cells #[.slice A0 l0.length c0, .slice A1 l1.length c1, .slice A2 l2.length c2, .slice A3 l3.length c3, .int .u32 a4, .slice A5 l5.length c5, .int .i64 a6, .slice A7 l7.length c7, .int .i64 a8, .string a9] 32 (0, 0))) ∧ Aside0 (w'.heap[gb]? = some (.cells #[.slice B0 l0.length d0, .slice B1 l1.length d1, .slice B2 l2.length d2, .slice B3 l3.length d3, .int .u32 a4, .slice B5 l5.length d5, .int .i64 a6, .slice B7 l7.length d7, .int .i64 a8, .string a9] 32 (0, 0))) ∧ Aside0 (Below w.heap.size w w'))
  case atStart => exact ⟨0, rfl, ⟨by omega, by omega⟩, ⟨K1.out⟩, ⟨K2.out⟩, HB⟩
  case round =>
    clear K1 K2 HB
    obtain ⟨i, rfl, HI, K1, K2, HB⟩ := hrel
    have hz0 := (blk_cell K1.out 0).trans rfl
    have hz1 := (blk_cell K1.out 1).trans rfl
    have hz2 := (blk_cell K1.out 2).trans rfl
    have hz3 := (blk_cell K1.out 3).trans rfl
    have hz4 := (blk_cell K1.out 4).trans rfl
    have hz5 := (blk_cell K1.out 5).trans rfl
    have hz6 := (blk_cell K1.out 6).trans rfl
    have hz7 := (blk_cell K1.out 7).trans rfl
    have hz8 := (blk_cell K1.out 8).trans rfl
    have hz9 := (blk_cell K1.out 9).trans rfl
    have hy0 := (blk_cell K2.out 0).trans rfl
    have hy1 := (blk_cell K2.out 1).trans rfl
    have hy2 := (blk_cell K2.out 2).trans rfl
    have hy3 := (blk_cell K2.out 3).trans rfl
    have hy4 := (blk_cell K2.out 4).trans rfl
    have hy5 := (blk_cell K2.out 5).trans rfl
    have hy6 := (blk_cell K2.out 6).trans rfl
    have hy7 := (blk_cell K2.out 7).trans rfl
    have hy8 := (blk_cell K2.out 8).trans rfl
    have hy9 := (blk_cell K2.out 9).trans rfl
    have hfa0 := blk_frozen K1.out 0
    have hfa1 := blk_frozen K1.out 1
    have hfa2 := blk_frozen K1.out 2
    have hfa3 := blk_frozen K1.out 3
    have hfa4 := blk_frozen K1.out 4
    have hfa5 := blk_frozen K1.out 5
    have hfa6 := blk_frozen K1.out 6
    have hfa7 := blk_frozen K1.out 7
    have hfa8 := blk_frozen K1.out 8
    have hfa9 := blk_frozen K1.out 9
    have hfb0 := blk_frozen K2.out 0
    have hfb1 := blk_frozen K2.out 1
    have hfb2 := blk_frozen K2.out 2
    have hfb3 := blk_frozen K2.out 3
    have hfb4 := blk_frozen K2.out 4
    have hfb5 := blk_frozen K2.out 5
    have hfb6 := blk_frozen K2.out 6
    have hfb7 := blk_frozen K2.out 7
    have hfb8 := blk_frozen K2.out 8
    have hfb9 := blk_frozen K2.out 9
    cases gk with
    | zero =>
      have hlt : decide (i < (l3.length : Int)) = false := decide_eq_false (by have := HI.out; omega)
      go_wp2_with (go_at_call 34; (with_reducible refine (HSB.out _ HB.out).mono ?_); rintro e w5 ⟨rfl, hb⟩; have HB5 := Aside0.mk (below_step HB.out hb); clear hb)
      go_ret
      exact ⟨rfl, HB5.out⟩
    | succ k1 =>
      have hi := HI.out
      have hlt : decide (i < (l3.length : Int)) = true := decide_eq_true (by omega)
      have p1 : (0 ≤ i) = True := eq_true (by omega)
      have p2 : (i < (l3.length : Int)) = True := eq_true (by omega)
      have hwr : IntKind.i64.wrap (i + 1) = i + 1 := (i64_w _).trans (by have := HM3.out; unfold wrap64; omega)
      have hwr2 : wrap64 (i + 1) = i + 1 := by have := HM3.out; unfold wrap64; omega
      obtain ⟨ad, eA, hx0⟩ := Kd.at_int (Kd.C_below G3.out HB.out) i (by omega) (by omega)
      cases eA
      obtain ⟨bd, eB, hv0⟩ := Kd.at_int (Kd.C_below R3.out HB.out) i (by omega) (by omega)
      cases eB
      clear hi
      go_wp2
      go_quiet (fail)
      go_wp2
      go_roundg k1
      case measure => omega
      case rel => exact ⟨i + 1, rfl, ⟨by have := HI.out; omega, by have := HI.out; omega⟩, ⟨K1.out⟩, ⟨K2.out⟩, ⟨by first | exact HB.out | exact pw_below_drewN HB.out _⟩⟩
end Go.Proofs.Ytfpkakedlapmkaa.Q
end
section
set_option linter.unusedSimpArgs false
set_option linter.unusedVariables false
namespace Go.Proofs.Ytfpkakedlapmkaa.Q
open Go.RowKit Go.Proofs.YtfpkakedlapmkaaW.PrintWords Go.Proofs.YtfpkakedlapmkaaW.PrintLast
def oddR (c : Int) : Bool := decide (c ≤ 32) || decide (126 < c) || (decide (65 ≤ c) && decide (c ≤ 90))
set_option maxHeartbeats 1000000 in
set_option maxRecDepth 100000 in
theorem oddC_calls (c : Int) (w : World) : Calls Try.prog 41 #[.int .i32 c] w fun e w' => e = .returned (.bool (oddR c)) ∧ w' = w := by
  unfold oddR
  by_cases h1 : c ≤ 32
  · have d1 : decide (c ≤ 32) = true := decide_eq_true h1
    rw [d1]
    clear h1
    go_enter Try.func41, Try.ntmps41
    go_wp2
    go_ret
    exact ⟨by simp, rfl⟩
  · have d1 : decide (c ≤ 32) = false := decide_eq_false h1
    rw [d1]
    clear h1
    by_cases h2 : 126 < c
    · have d2 : decide (126 < c) = true := decide_eq_true h2
      rw [d2]
      clear h2
      go_enter Try.func41, Try.ntmps41
      go_wp2
      go_ret
      exact ⟨by simp, rfl⟩
    · have d2 : decide (126 < c) = false := decide_eq_false h2
      rw [d2]
      clear h2
      by_cases h3 : 65 ≤ c
      · have d3 : decide (65 ≤ c) = true := decide_eq_true h3
        rw [d3]
        clear h3
        go_enter Try.func41, Try.ntmps41
        go_wp2
        go_ret
        exact ⟨by simp, rfl⟩
      · have d3 : decide (65 ≤ c) = false := decide_eq_false h3
        rw [d3]
        clear h3
        go_enter Try.func41, Try.ntmps41
        go_wp2
        go_ret
        exact ⟨by simp, rfl⟩
def okB (b : UInt8) : Bool := !oddR (b.toNat : Int)
def okS (s : ByteArray) : Prop := ∀ (i : Nat) (h : i < s.size), okB (s[i]'h) = true
theorem odd_high (c : Int) (h : 128 ≤ c) : oddR c = true := by
  unfold oddR
  rw [decide_eq_true (show 126 < c by omega)]
  simp
set_option maxHeartbeats 2000000 in
set_option maxRecDepth 100000 in
theorem indexFunc_calls (s : ByteArray) (w : World) :
    Calls Try.prog 71 #[.string s, .func (.func 41) #[] #[], .bool true] w fun e w' => ∃ r : Int, e = .returned (.int .i64 r) ∧ (r < 0 ↔ okS s) ∧ Below w.heap.size w w' := by
  have hu9 := Try.underlying9
  have hB : ∀ p, Below w.heap.size w (w.iter s p) := fun p => below_alloc (Below.refl _ _) _
  have HB := Aside0.mk hB
  clear hB
  go_enter Try.func71, Try.ntmps71
  go_wp2
  go_loopw [11] (fun _ wr => ∃ i : Nat, i ≤ s.size ∧ wr = w.iter s i ∧ Aside0 (∀ (j : Nat) (h : j < s.size), j < i → okB (s[j]'h) = true)) (fun _ wr => s.size - wr.iterPos w.heap.size)
  case atStart => exact ⟨0, by omega, rfl, ⟨fun j h hj => absurd hj (by omega)⟩⟩
  case round =>
    obtain ⟨i, hi, rfl, HO⟩ := hrel
    by_cases hlt : i < s.size
    · obtain ⟨c, n, hnx, hod, hn⟩ : ∃ (c : Int) (n : Nat), (∀ ty, (Instr.next (.pointer (some ⟨w.heap.size, 0, none⟩)) true ty).run Try.prog (w.iter s i) = .ok (.tuple #[.bool true, .int .i64 i, .int .i32 c]) (w.iter s (i + n))) ∧ oddR c = !okB (s[i]'hlt) ∧ (oddR c = false → n = 1) := by
        by_cases ha : (s[i]'hlt).toNat < 128
        · exact ⟨((s[i]'hlt).toNat : Int), 1, fun ty => run_next_ascii (P := Try.prog) w s i ty hlt ha, by unfold okB; simp, fun _ => rfl⟩
        · have hd := (decode_high s i hlt (by omega)).1
          refine ⟨((Utf8.decode s i).1 : Int), (Utf8.decode s i).2, fun ty => run_next_any (P := Try.prog) w s i ty hlt, ?_, fun h => ?_⟩
          · unfold okB
            rw [odd_high _ (by omega), odd_high _ (by omega)]
            rfl
          · rw [odd_high _ (by omega)] at h
            cases h
      have HC := Aside0.mk (fun X : World => oddC_calls c X)
      have HH := Aside0.mk hlt
      cases hd : oddR c with
      | true =>
        rw [hd] at HC hod
        have hbad : okB (s[i]'hlt) = false := by simpa using hod
        have HX := Aside0.mk (show ((i : Int) < 0 ↔ okS s) from ⟨fun h => absurd h (by omega), fun h => by have := h i hlt; rw [hbad] at this; cases this⟩)
        clear hd hod hn hi hlt hbad
        go_wp2_with (go_at_call 41; (with_reducible refine (HC.out _).mono ?_); rintro e w7 ⟨rfl, rfl⟩)
        go_ret
        exact ⟨i, rfl, HX.out, HB.out _⟩
      | false =>
        obtain rfl := hn hd
        rw [hd] at HC hod
        have hgood : okB (s[i]'hlt) = true := by simpa using hod
        have HX := Aside0.mk hgood
        clear hd hod hn hi hgood
        go_wp2_with (go_at_call 41; (with_reducible refine (HC.out _).mono ?_); rintro e w7 ⟨rfl, rfl⟩)
        go_roundw
        case rel =>
          refine ⟨i + 1, HH.out, rfl, ⟨fun j h hj => ?_⟩⟩
          rcases Nat.lt_or_eq_of_le (Nat.le_of_lt_succ hj) with h2 | h2
          · exact HO.out j h h2
          · subst h2; exact HX.out
        case measure =>
          have := HH.out
          simp
          omega
    · have hnx := fun ty => run_next_end (P := Try.prog) w s i ty hlt
      go_wp2
      go_ret
      exact ⟨-1, rfl, ⟨fun _ j h => HO.out j h (by omega), fun _ => by decide⟩, HB.out _⟩
instance okS_dec (s : ByteArray) : Decidable (okS s) := by unfold okS; infer_instance
def dNamed (s : ByteArray) : Bool := !s.toList.isEmpty && (decide ((s.size : Int) ≤ 31) && decide (okS s))
set_option maxHeartbeats 2000000 in
set_option maxRecDepth 100000 in
theorem named_calls (s : ByteArray) (w : World) : Calls Try.prog 18 #[.string s] w fun e w' => e = .returned (.bool (dNamed s)) ∧ Below w.heap.size w w' := by
  have HI := Aside0.mk (indexFunc_calls s)
  have HB := Aside0.mk (Below.refl w.heap.size w)
  unfold dNamed
  by_cases d1 : s.toList.isEmpty = true
  · rw [d1]
    go_enter Try.func18, Try.ntmps18
    go_wp2
    go_ret
    exact ⟨by simp, HB.out⟩
  · replace d1 : s.toList.isEmpty = false := by simpa using d1
    rw [d1]
    by_cases h2 : (s.size : Int) ≤ 31
    · have d2 : decide ((s.size : Int) ≤ 31) = true := decide_eq_true h2
      rw [d2]
      clear h2
      have HS := Aside0.mk (show ∀ X : World, Calls Try.prog 42 #[.string s, .func (.func 41) #[] #[]] X fun e w' => ∃ r : Int, e = .returned (.int .i64 r) ∧ (r < 0 ↔ okS s) ∧ Below X.heap.size X w' from fun X => by
        have HI2 := Aside0.mk (HI.out X)
        clear HI HB d1 d2
        go_enter Try.func42, Try.ntmps42
        go_wp2_with (go_at_call 71; (with_reducible refine HI2.out.mono ?_); rintro e w7 ⟨r, rfl, hr, hb⟩; have HR := Aside0.mk hr; have HB := Aside0.mk hb; clear hr hb)
        go_ret
        exact ⟨r, rfl, HR.out, HB.out⟩)
      go_enter Try.func18, Try.ntmps18
      go_wp2_with (go_at_call 42; (with_reducible refine (HS.out _).mono ?_); rintro e w7 ⟨r, rfl, hr, hb⟩; have HR := Aside0.mk hr; have HB := Aside0.mk hb; clear hr hb)
      go_ret
      refine ⟨?_, HB.out⟩
      have : decide (r < 0) = decide (okS s) := decide_eq_decide.2 HR.out
      simp [this]
    · have d2 : decide ((s.size : Int) ≤ 31) = false := decide_eq_false h2
      rw [d2]
      clear h2
      go_enter Try.func18, Try.ntmps18
      go_wp2
      go_ret
      exact ⟨by simp, HB.out⟩
def dict_Named.f (a0 : ByteArray) : Option Bool := some (dNamed a0)
end Go.Proofs.Ytfpkakedlapmkaa.Q
end
section
set_option linter.unusedVariables false
namespace Go.Proofs.Ytfpkakedlapmkaa.Q
open Go.RowKit Go.Proofs.YtfpkakedlapmkaaW.PrintWords Go.Proofs.YtfpkakedlapmkaaW.PrintLast
def OpG (a : S69) : Prop := (Lit.int .i64 a.f0).wf = true ∧ (Lit.int .u32 a.f1).wf = true
def OpsG (l : List S69) : Prop := l.length * 16 ≤ 140737488351232 ∧ ∀ b ∈ l, OpG b
def WordG (a : S51) : Prop := a.f0.size ≤ 140737488351232 ∧ (Lit.int .i64 a.f1).wf = true ∧ (Lit.int .i64 a.f2).wf = true ∧ (Lit.int .u32 a.f3).wf = true ∧ OpsG a.f4
def PropG (p : S106) : Prop := p.f0.size ≤ 140737488351232 ∧ (p.f1.length * 1 ≤ 140737488351232 ∧ ∀ b ∈ p.f1, (Lit.int .u8 b).wf = true)
def NodeG (a : S91) : Prop := a.f0.size ≤ 140737488351232 ∧ (a.f1.length * 4 ≤ 140737488351232 ∧ ∀ b ∈ a.f1, (Lit.int .u32 b).wf = true) ∧ (Lit.int .i64 a.f2).wf = true ∧ (a.f3.length * 40 ≤ 140737488351232 ∧ ∀ b ∈ a.f3, PropG b) ∧ (a.f4.length * 4 ≤ 140737488351232 ∧ ∀ b ∈ a.f4, (Lit.int .u32 b).wf = true)
def InstG (a : S82) : Prop := (Lit.int .i64 a.f0).wf = true ∧ (Lit.int .i64 a.f1).wf = true ∧ a.f2.size ≤ 140737488351232 ∧ (a.f3.length * 4 ≤ 140737488351232 ∧ ∀ b ∈ a.f3, (Lit.int .u32 b).wf = true)
def MachG (z : S32) : Prop := (z.f0.length * 4 ≤ 140737488351232 ∧ ∀ b ∈ z.f0, (Lit.int .u32 b).wf = true) ∧ (z.f1.length * 1 ≤ 140737488351232 ∧ ∀ b ∈ z.f1, (Lit.int .u8 b).wf = true) ∧ (z.f2.length * 64 ≤ 140737488351232 ∧ ∀ b ∈ z.f2, WordG b) ∧ (z.f3.length * 8 ≤ 140737488351232 ∧ ∀ b ∈ z.f3, (Lit.int .i64 b).wf = true) ∧ (Lit.int .u32 z.f4).wf = true ∧ (z.f5.length * 96 ≤ 140737488351232 ∧ ∀ b ∈ z.f5, NodeG b) ∧ (Lit.int .i64 z.f6).wf = true ∧ (z.f7.length * 56 ≤ 140737488351232 ∧ ∀ b ∈ z.f7, InstG b) ∧ (Lit.int .i64 z.f8).wf = true ∧ z.f9.size ≤ 140737488351232
end Go.Proofs.Ytfpkakedlapmkaa.Q
end
section
namespace Go.Proofs.Ytfpkakedlapmkaa.Q
open Go.RowKit Go.Proofs.YtfpkakedlapmkaaW.PrintWords Go.Proofs.YtfpkakedlapmkaaW.PrintLast Go.Proofs.YtfpkakedlapmkaaW.PrintMore
set_option linter.unusedVariables false
set_option linter.unusedSimpArgs false

attribute [local go_sem] max2_int min2_int max_two min_two max_three min_three max_four min_four
/-! ### tinderref08_New: function 38 -/
def tinderref08_New.f  : Option ((List (S91))) := some (([(⟨(⟨#[]⟩ : ByteArray), ([] : List Int), (-1), ([] : List (S106)), ([] : List Int)⟩ : S91)] : List (S91)))
set_option maxHeartbeats 8000000 in
set_option maxRecDepth 100000 in
theorem tinderref08_New.calls  (r : List (S91)) (w : World) (h : tinderref08_New.f  = some r) :
    Calls Try.prog 38 #[] w fun e w' => ∃ v0_ : Value, e = .returned (v0_) ∧ Kd.R k91 91 w' w.heap.size (fun _ => True) v0_ r ∧ Below w.heap.size w w' := by
  have hu91 := Try.underlying91
  have HB := Aside0.mk (Below.refl w.heap.size w)
  have H : (some (([(⟨(⟨#[]⟩ : ByteArray), ([] : List Int), (-1), ([] : List (S106)), ([] : List Int)⟩ : S91)] : List (S91)))) = some r := h
  clear h
  obtain ⟨y39001, hy39001⟩ : ∃ y_ : List (S91), y_ = (([(⟨(⟨#[]⟩ : ByteArray), ([] : List Int), (-1), ([] : List (S106)), ([] : List Int)⟩ : S91)] : List (S91))) := ⟨_, rfl⟩
  replace H : (some y39001) = some r := by first | (rw [hy39001]; with_reducible exact H) | (have H2_ := (Option.bind_some _ _).symm.trans H; rw [hy39001]; with_reducible exact H2_) | (have H2_ := (Option.bind_some _ _).symm.trans H; with_reducible exact H2_) | with_reducible exact H | (rw [hy39001]; exact H) | exact H
  have Ny39001 := Aside0.mk hy39001
  clear hy39001
  obtain rfl := Option.some.inj H
  go_enter Try.func38, Try.ntmps38
  go_wp2_with (first | ((with_reducible refine gate_dst (N := 2) rfl ?_); refine Kd.R_lit k91 _ 91 ?hg (N := 2) ?hd (xs := ([(⟨(⟨#[]⟩ : ByteArray), ([] : List Int), (-1), ([] : List (S106)), ([] : List Int)⟩ : S91)] : List (S91))) (inner := [.string (⟨#[]⟩ : ByteArray), .slice none 0 0, .int .i64 (-1), .slice none 0 0, .slice none 0 0]) (ok := fun _ => True) (okp := fun _ => True) ?hr ?hp (fun _ hk => hk) trivial (Below.refl _ _) (Nat.le_refl _) (by simp) ?_; (case hd => rfl); (case hg => rfl); (case hr => first | (go_simp; done) | (go_simp; rfl)); (case hp => exact (Reps.c5 (show Kd.M k91 _ _ _ (⟨(⟨#[]⟩ : ByteArray), ([] : List Int), (-1), ([] : List (S106)), ([] : List Int)⟩ : S91) [.string (⟨#[]⟩ : ByteArray), .slice none 0 0, .int .i64 (-1), .slice none 0 0, .slice none 0 0] from (k91_mkM _ _ _ (⟨(⟨#[]⟩ : ByteArray), ([] : List Int), (-1), ([] : List (S106)), ([] : List Int)⟩ : S91) (Kd.R_nil _ _ _ _ _) (Kd.R_nil _ _ _ _ _) (Kd.R_nil _ _ _ _ _))) (Reps.none _ _))); intro v39002 w1 ho2 hb hg_ hnew_; clear hg_ hnew_; (first | rw [← Ny39001.out] at ho2 | (simp only [Int.reduceToNat] at ho2; rw [← Ny39001.out] at ho2)); have n0_ := Aside0.mk (Kd.R_lower ho2 (below_size (by repeat (first | (with_reducible first | exact HB.out | apply below_alloc | apply pw_below_drewN | apply below_drew1) | exact HB.out)))); have n1_ := Aside0.mk (below_step (by repeat (first | (with_reducible first | exact HB.out | apply below_alloc | apply pw_below_drewN | apply below_drew1) | exact HB.out)) hb); clear HB; have HO39003 := n0_; have HB := n1_; clear n0_ n1_; clear hb ho2))
  go_ret
  exact ⟨_, by first | rfl | (simp [errW_none, errW_some] <;> rfl) | (simp [*, errW_none, errW_some] <;> rfl), by (with_reducible repeat (first | apply Kd.R_alloc | apply Kd.R_drewN | apply Kd.R_drew)); exact HO39003.out, by repeat (first | (with_reducible first | exact HB.out | apply below_alloc | apply pw_below_drewN | apply below_drew1) | exact HB.out)⟩

end Go.Proofs.Ytfpkakedlapmkaa.Q
end
section
namespace Go.Proofs.Ytfpkakedlapmkaa.Q
open Go.RowKit Go.Proofs.YtfpkakedlapmkaaW.PrintWords Go.Proofs.YtfpkakedlapmkaaW.PrintLast Go.Proofs.YtfpkakedlapmkaaW.PrintMore
set_option linter.unusedVariables false
set_option linter.unusedSimpArgs false

attribute [local go_sem] max2_int min2_int max_two min_two max_three min_three max_four min_four
/-! ### tinderref09_Prims: function 15 -/
def tinderref09_Prims.f  : Option ((List (S37))) := some (([(⟨(⟨#[105]⟩ : ByteArray), 25⟩ : S37), (⟨(⟨#[106]⟩ : ByteArray), 26⟩ : S37), (⟨(⟨#[101, 120, 101, 99, 117, 116, 101]⟩ : ByteArray), 29⟩ : S37), (⟨(⟨#[43]⟩ : ByteArray), 30⟩ : S37), (⟨(⟨#[45]⟩ : ByteArray), 31⟩ : S37), (⟨(⟨#[42]⟩ : ByteArray), 32⟩ : S37), (⟨(⟨#[47]⟩ : ByteArray), 33⟩ : S37), (⟨(⟨#[109, 111, 100]⟩ : ByteArray), 34⟩ : S37), (⟨(⟨#[97, 110, 100]⟩ : ByteArray), 35⟩ : S37), (⟨(⟨#[111, 114]⟩ : ByteArray), 36⟩ : S37), (⟨(⟨#[120, 111, 114]⟩ : ByteArray), 37⟩ : S37), (⟨(⟨#[105, 110, 118, 101, 114, 116]⟩ : ByteArray), 38⟩ : S37), (⟨(⟨#[108, 115, 104, 105, 102, 116]⟩ : ByteArray), 39⟩ : S37), (⟨(⟨#[114, 115, 104, 105, 102, 116]⟩ : ByteArray), 40⟩ : S37), (⟨(⟨#[62, 62, 97]⟩ : ByteArray), 41⟩ : S37), (⟨(⟨#[47, 109, 111, 100]⟩ : ByteArray), 42⟩ : S37), (⟨(⟨#[117, 47, 109, 111, 100]⟩ : ByteArray), 43⟩ : S37), (⟨(⟨#[110, 101, 103, 97, 116, 101]⟩ : ByteArray), 44⟩ : S37), (⟨(⟨#[97, 98, 115]⟩ : ByteArray), 45⟩ : S37), (⟨(⟨#[109, 105, 110]⟩ : ByteArray), 46⟩ : S37), (⟨(⟨#[109, 97, 120]⟩ : ByteArray), 47⟩ : S37), (⟨(⟨#[62, 114]⟩ : ByteArray), 48⟩ : S37), (⟨(⟨#[114, 62]⟩ : ByteArray), 49⟩ : S37), (⟨(⟨#[114, 64]⟩ : ByteArray), 50⟩ : S37), (⟨(⟨#[48, 61]⟩ : ByteArray), 52⟩ : S37), (⟨(⟨#[48, 60, 62]⟩ : ByteArray), 53⟩ : S37), (⟨(⟨#[48, 60]⟩ : ByteArray), 54⟩ : S37), (⟨(⟨#[48, 60, 61]⟩ : ByteArray), 55⟩ : S37), (⟨(⟨#[48, 62]⟩ : ByteArray), 56⟩ : S37), (⟨(⟨#[48, 62, 61]⟩ : ByteArray), 57⟩ : S37), (⟨(⟨#[60]⟩ : ByteArray), 58⟩ : S37), (⟨(⟨#[62]⟩ : ByteArray), 59⟩ : S37), (⟨(⟨#[61]⟩ : ByteArray), 60⟩ : S37), (⟨(⟨#[60, 62]⟩ : ByteArray), 61⟩ : S37), (⟨(⟨#[117, 62]⟩ : ByteArray), 62⟩ : S37), (⟨(⟨#[117, 60, 61]⟩ : ByteArray), 63⟩ : S37), (⟨(⟨#[117, 60]⟩ : ByteArray), 64⟩ : S37), (⟨(⟨#[117, 62, 61]⟩ : ByteArray), 65⟩ : S37), (⟨(⟨#[62, 61]⟩ : ByteArray), 66⟩ : S37), (⟨(⟨#[60, 61]⟩ : ByteArray), 67⟩ : S37), (⟨(⟨#[100, 114, 111, 112]⟩ : ByteArray), 70⟩ : S37), (⟨(⟨#[100, 117, 112]⟩ : ByteArray), 71⟩ : S37), (⟨(⟨#[111, 118, 101, 114]⟩ : ByteArray), 72⟩ : S37), (⟨(⟨#[115, 119, 97, 112]⟩ : ByteArray), 73⟩ : S37), (⟨(⟨#[114, 111, 116]⟩ : ByteArray), 74⟩ : S37), (⟨(⟨#[45, 114, 111, 116]⟩ : ByteArray), 75⟩ : S37), (⟨(⟨#[116, 117, 99, 107]⟩ : ByteArray), 76⟩ : S37), (⟨(⟨#[110, 105, 112]⟩ : ByteArray), 77⟩ : S37), (⟨(⟨#[112, 105, 99, 107]⟩ : ByteArray), 78⟩ : S37), (⟨(⟨#[114, 111, 108, 108]⟩ : ByteArray), 79⟩ : S37), (⟨(⟨#[63, 100, 117, 112]⟩ : ByteArray), 80⟩ : S37), (⟨(⟨#[100, 101, 112, 116, 104]⟩ : ByteArray), 81⟩ : S37), (⟨(⟨#[50, 100, 114, 111, 112]⟩ : ByteArray), 82⟩ : S37), (⟨(⟨#[50, 100, 117, 112]⟩ : ByteArray), 83⟩ : S37), (⟨(⟨#[50, 111, 118, 101, 114]⟩ : ByteArray), 84⟩ : S37), (⟨(⟨#[50, 115, 119, 97, 112]⟩ : ByteArray), 85⟩ : S37), (⟨(⟨#[50, 114, 111, 116]⟩ : ByteArray), 86⟩ : S37), (⟨(⟨#[50, 47]⟩ : ByteArray), 87⟩ : S37), (⟨(⟨#[117, 50, 47]⟩ : ByteArray), 88⟩ : S37), (⟨(⟨#[50, 42]⟩ : ByteArray), 89⟩ : S37), (⟨(⟨#[43, 33]⟩ : ByteArray), 108⟩ : S37), (⟨(⟨#[64]⟩ : ByteArray), 109⟩ : S37), (⟨(⟨#[119, 64]⟩ : ByteArray), 111⟩ : S37), (⟨(⟨#[99, 64]⟩ : ByteArray), 113⟩ : S37), (⟨(⟨#[33]⟩ : ByteArray), 114⟩ : S37), (⟨(⟨#[119, 33]⟩ : ByteArray), 116⟩ : S37), (⟨(⟨#[99, 33]⟩ : ByteArray), 117⟩ : S37), (⟨(⟨#[109, 111, 118, 101]⟩ : ByteArray), 120⟩ : S37), (⟨(⟨#[102, 105, 108, 108]⟩ : ByteArray), 121⟩ : S37), (⟨(⟨#[99, 111, 109, 112]⟩ : ByteArray), 122⟩ : S37), (⟨(⟨#[108, 98, 115, 112, 108, 105, 116]⟩ : ByteArray), 126⟩ : S37), (⟨(⟨#[98, 108, 106, 111, 105, 110]⟩ : ByteArray), 127⟩ : S37), (⟨(⟨#[119, 98, 102, 108, 105, 112]⟩ : ByteArray), 128⟩ : S37), (⟨(⟨#[117, 112, 99]⟩ : ByteArray), 129⟩ : S37), (⟨(⟨#[108, 99, 99]⟩ : ByteArray), 130⟩ : S37), (⟨(⟨#[117, 110, 108, 111, 111, 112]⟩ : ByteArray), 137⟩ : S37), (⟨(⟨#[97, 108, 108, 111, 99, 45, 109, 101, 109]⟩ : ByteArray), 139⟩ : S37), (⟨(⟨#[101, 109, 105, 116]⟩ : ByteArray), 143⟩ : S37), (⟨(⟨#[116, 121, 112, 101]⟩ : ByteArray), 144⟩ : S37), (⟨(⟨#[99, 114]⟩ : ByteArray), 146⟩ : S37), (⟨(⟨#[117, 46]⟩ : ByteArray), 155⟩ : S37), (⟨(⟨#[46]⟩ : ByteArray), 157⟩ : S37), (⟨(⟨#[98, 97, 115, 101, 33]⟩ : ByteArray), 160⟩ : S37), (⟨(⟨#[45, 49]⟩ : ByteArray), 164⟩ : S37), (⟨(⟨#[48]⟩ : ByteArray), 165⟩ : S37), (⟨(⟨#[49]⟩ : ByteArray), 166⟩ : S37), (⟨(⟨#[50]⟩ : ByteArray), 167⟩ : S37), (⟨(⟨#[51]⟩ : ByteArray), 168⟩ : S37), (⟨(⟨#[98, 108]⟩ : ByteArray), 169⟩ : S37), (⟨(⟨#[104, 101, 114, 101]⟩ : ByteArray), 173⟩ : S37), (⟨(⟨#[117, 109, 42]⟩ : ByteArray), 212⟩ : S37), (⟨(⟨#[117, 109, 47, 109, 111, 100]⟩ : ByteArray), 213⟩ : S37), (⟨(⟨#[100, 43]⟩ : ByteArray), 216⟩ : S37), (⟨(⟨#[100, 45]⟩ : ByteArray), 217⟩ : S37), (⟨(⟨#[112, 114, 111, 112, 101, 114, 116, 121]⟩ : ByteArray), 272⟩ : S37), (⟨(⟨#[101, 110, 99, 111, 100, 101, 45, 105, 110, 116]⟩ : ByteArray), 273⟩ : S37), (⟨(⟨#[101, 110, 99, 111, 100, 101, 43]⟩ : ByteArray), 274⟩ : S37), (⟨(⟨#[101, 110, 99, 111, 100, 101, 45, 115, 116, 114, 105, 110, 103]⟩ : ByteArray), 276⟩ : S37), (⟨(⟨#[110, 101, 119, 45, 100, 101, 118, 105, 99, 101]⟩ : ByteArray), 287⟩ : S37), (⟨(⟨#[102, 105, 110, 105, 115, 104, 45, 100, 101, 118, 105, 99, 101]⟩ : ByteArray), 295⟩ : S37), (⟨(⟨#[115, 109, 47, 114, 101, 109]⟩ : ByteArray), 469⟩ : S37), (⟨(⟨#[109, 121, 45, 115, 101, 108, 102]⟩ : ByteArray), 515⟩ : S37), (⟨(⟨#[109, 121, 45, 112, 97, 114, 101, 110, 116]⟩ : ByteArray), 522⟩ : S37), (⟨(⟨#[36, 99, 97, 108, 108, 45, 109, 101, 116, 104, 111, 100]⟩ : ByteArray), 526⟩ : S37), (⟨(⟨#[99, 97, 116, 99, 104]⟩ : ByteArray), 535⟩ : S37), (⟨(⟨#[116, 104, 114, 111, 119]⟩ : ByteArray), 536⟩ : S37), (⟨(⟨#[103, 101, 116, 45, 109, 121, 45, 112, 114, 111, 112, 101, 114, 116, 121]⟩ : ByteArray), 538⟩ : S37), (⟨(⟨#[100, 101, 99, 111, 100, 101, 45, 105, 110, 116]⟩ : ByteArray), 539⟩ : S37), (⟨(⟨#[100, 101, 99, 111, 100, 101, 45, 115, 116, 114, 105, 110, 103]⟩ : ByteArray), 540⟩ : S37), (⟨(⟨#[100, 101, 108, 101, 116, 101, 45, 112, 114, 111, 112, 101, 114, 116, 121]⟩ : ByteArray), 542⟩ : S37), (⟨(⟨#[102, 109, 47, 109, 111, 100]⟩ : ByteArray), 725⟩ : S37)] : List (S37)))
set_option maxHeartbeats 8000000 in
set_option maxRecDepth 100000 in
theorem tinderref09_Prims.calls  (r : List (S37)) (w : World) (h : tinderref09_Prims.f  = some r) :
    Calls Try.prog 15 #[] w fun e w' => ∃ v0_ : Value, e = .returned (v0_) ∧ Kd.R k37 37 w' w.heap.size (fun _ => True) v0_ r ∧ Below w.heap.size w w' := by
  have hu37 := Try.underlying37
  have HB := Aside0.mk (Below.refl w.heap.size w)
  have H : (some (([(⟨(⟨#[105]⟩ : ByteArray), 25⟩ : S37), (⟨(⟨#[106]⟩ : ByteArray), 26⟩ : S37), (⟨(⟨#[101, 120, 101, 99, 117, 116, 101]⟩ : ByteArray), 29⟩ : S37), (⟨(⟨#[43]⟩ : ByteArray), 30⟩ : S37), (⟨(⟨#[45]⟩ : ByteArray), 31⟩ : S37), (⟨(⟨#[42]⟩ : ByteArray), 32⟩ : S37), (⟨(⟨#[47]⟩ : ByteArray), 33⟩ : S37), (⟨(⟨#[109, 111, 100]⟩ : ByteArray), 34⟩ : S37), (⟨(⟨#[97, 110, 100]⟩ : ByteArray), 35⟩ : S37), (⟨(⟨#[111, 114]⟩ : ByteArray), 36⟩ : S37), (⟨(⟨#[120, 111, 114]⟩ : ByteArray), 37⟩ : S37), (⟨(⟨#[105, 110, 118, 101, 114, 116]⟩ : ByteArray), 38⟩ : S37), (⟨(⟨#[108, 115, 104, 105, 102, 116]⟩ : ByteArray), 39⟩ : S37), (⟨(⟨#[114, 115, 104, 105, 102, 116]⟩ : ByteArray), 40⟩ : S37), (⟨(⟨#[62, 62, 97]⟩ : ByteArray), 41⟩ : S37), (⟨(⟨#[47, 109, 111, 100]⟩ : ByteArray), 42⟩ : S37), (⟨(⟨#[117, 47, 109, 111, 100]⟩ : ByteArray), 43⟩ : S37), (⟨(⟨#[110, 101, 103, 97, 116, 101]⟩ : ByteArray), 44⟩ : S37), (⟨(⟨#[97, 98, 115]⟩ : ByteArray), 45⟩ : S37), (⟨(⟨#[109, 105, 110]⟩ : ByteArray), 46⟩ : S37), (⟨(⟨#[109, 97, 120]⟩ : ByteArray), 47⟩ : S37), (⟨(⟨#[62, 114]⟩ : ByteArray), 48⟩ : S37), (⟨(⟨#[114, 62]⟩ : ByteArray), 49⟩ : S37), (⟨(⟨#[114, 64]⟩ : ByteArray), 50⟩ : S37), (⟨(⟨#[48, 61]⟩ : ByteArray), 52⟩ : S37), (⟨(⟨#[48, 60, 62]⟩ : ByteArray), 53⟩ : S37), (⟨(⟨#[48, 60]⟩ : ByteArray), 54⟩ : S37), (⟨(⟨#[48, 60, 61]⟩ : ByteArray), 55⟩ : S37), (⟨(⟨#[48, 62]⟩ : ByteArray), 56⟩ : S37), (⟨(⟨#[48, 62, 61]⟩ : ByteArray), 57⟩ : S37), (⟨(⟨#[60]⟩ : ByteArray), 58⟩ : S37), (⟨(⟨#[62]⟩ : ByteArray), 59⟩ : S37), (⟨(⟨#[61]⟩ : ByteArray), 60⟩ : S37), (⟨(⟨#[60, 62]⟩ : ByteArray), 61⟩ : S37), (⟨(⟨#[117, 62]⟩ : ByteArray), 62⟩ : S37), (⟨(⟨#[117, 60, 61]⟩ : ByteArray), 63⟩ : S37), (⟨(⟨#[117, 60]⟩ : ByteArray), 64⟩ : S37), (⟨(⟨#[117, 62, 61]⟩ : ByteArray), 65⟩ : S37), (⟨(⟨#[62, 61]⟩ : ByteArray), 66⟩ : S37), (⟨(⟨#[60, 61]⟩ : ByteArray), 67⟩ : S37), (⟨(⟨#[100, 114, 111, 112]⟩ : ByteArray), 70⟩ : S37), (⟨(⟨#[100, 117, 112]⟩ : ByteArray), 71⟩ : S37), (⟨(⟨#[111, 118, 101, 114]⟩ : ByteArray), 72⟩ : S37), (⟨(⟨#[115, 119, 97, 112]⟩ : ByteArray), 73⟩ : S37), (⟨(⟨#[114, 111, 116]⟩ : ByteArray), 74⟩ : S37), (⟨(⟨#[45, 114, 111, 116]⟩ : ByteArray), 75⟩ : S37), (⟨(⟨#[116, 117, 99, 107]⟩ : ByteArray), 76⟩ : S37), (⟨(⟨#[110, 105, 112]⟩ : ByteArray), 77⟩ : S37), (⟨(⟨#[112, 105, 99, 107]⟩ : ByteArray), 78⟩ : S37), (⟨(⟨#[114, 111, 108, 108]⟩ : ByteArray), 79⟩ : S37), (⟨(⟨#[63, 100, 117, 112]⟩ : ByteArray), 80⟩ : S37), (⟨(⟨#[100, 101, 112, 116, 104]⟩ : ByteArray), 81⟩ : S37), (⟨(⟨#[50, 100, 114, 111, 112]⟩ : ByteArray), 82⟩ : S37), (⟨(⟨#[50, 100, 117, 112]⟩ : ByteArray), 83⟩ : S37), (⟨(⟨#[50, 111, 118, 101, 114]⟩ : ByteArray), 84⟩ : S37), (⟨(⟨#[50, 115, 119, 97, 112]⟩ : ByteArray), 85⟩ : S37), (⟨(⟨#[50, 114, 111, 116]⟩ : ByteArray), 86⟩ : S37), (⟨(⟨#[50, 47]⟩ : ByteArray), 87⟩ : S37), (⟨(⟨#[117, 50, 47]⟩ : ByteArray), 88⟩ : S37), (⟨(⟨#[50, 42]⟩ : ByteArray), 89⟩ : S37), (⟨(⟨#[43, 33]⟩ : ByteArray), 108⟩ : S37), (⟨(⟨#[64]⟩ : ByteArray), 109⟩ : S37), (⟨(⟨#[119, 64]⟩ : ByteArray), 111⟩ : S37), (⟨(⟨#[99, 64]⟩ : ByteArray), 113⟩ : S37), (⟨(⟨#[33]⟩ : ByteArray), 114⟩ : S37), (⟨(⟨#[119, 33]⟩ : ByteArray), 116⟩ : S37), (⟨(⟨#[99, 33]⟩ : ByteArray), 117⟩ : S37), (⟨(⟨#[109, 111, 118, 101]⟩ : ByteArray), 120⟩ : S37), (⟨(⟨#[102, 105, 108, 108]⟩ : ByteArray), 121⟩ : S37), (⟨(⟨#[99, 111, 109, 112]⟩ : ByteArray), 122⟩ : S37), (⟨(⟨#[108, 98, 115, 112, 108, 105, 116]⟩ : ByteArray), 126⟩ : S37), (⟨(⟨#[98, 108, 106, 111, 105, 110]⟩ : ByteArray), 127⟩ : S37), (⟨(⟨#[119, 98, 102, 108, 105, 112]⟩ : ByteArray), 128⟩ : S37), (⟨(⟨#[117, 112, 99]⟩ : ByteArray), 129⟩ : S37), (⟨(⟨#[108, 99, 99]⟩ : ByteArray), 130⟩ : S37), (⟨(⟨#[117, 110, 108, 111, 111, 112]⟩ : ByteArray), 137⟩ : S37), (⟨(⟨#[97, 108, 108, 111, 99, 45, 109, 101, 109]⟩ : ByteArray), 139⟩ : S37), (⟨(⟨#[101, 109, 105, 116]⟩ : ByteArray), 143⟩ : S37), (⟨(⟨#[116, 121, 112, 101]⟩ : ByteArray), 144⟩ : S37), (⟨(⟨#[99, 114]⟩ : ByteArray), 146⟩ : S37), (⟨(⟨#[117, 46]⟩ : ByteArray), 155⟩ : S37), (⟨(⟨#[46]⟩ : ByteArray), 157⟩ : S37), (⟨(⟨#[98, 97, 115, 101, 33]⟩ : ByteArray), 160⟩ : S37), (⟨(⟨#[45, 49]⟩ : ByteArray), 164⟩ : S37), (⟨(⟨#[48]⟩ : ByteArray), 165⟩ : S37), (⟨(⟨#[49]⟩ : ByteArray), 166⟩ : S37), (⟨(⟨#[50]⟩ : ByteArray), 167⟩ : S37), (⟨(⟨#[51]⟩ : ByteArray), 168⟩ : S37), (⟨(⟨#[98, 108]⟩ : ByteArray), 169⟩ : S37), (⟨(⟨#[104, 101, 114, 101]⟩ : ByteArray), 173⟩ : S37), (⟨(⟨#[117, 109, 42]⟩ : ByteArray), 212⟩ : S37), (⟨(⟨#[117, 109, 47, 109, 111, 100]⟩ : ByteArray), 213⟩ : S37), (⟨(⟨#[100, 43]⟩ : ByteArray), 216⟩ : S37), (⟨(⟨#[100, 45]⟩ : ByteArray), 217⟩ : S37), (⟨(⟨#[112, 114, 111, 112, 101, 114, 116, 121]⟩ : ByteArray), 272⟩ : S37), (⟨(⟨#[101, 110, 99, 111, 100, 101, 45, 105, 110, 116]⟩ : ByteArray), 273⟩ : S37), (⟨(⟨#[101, 110, 99, 111, 100, 101, 43]⟩ : ByteArray), 274⟩ : S37), (⟨(⟨#[101, 110, 99, 111, 100, 101, 45, 115, 116, 114, 105, 110, 103]⟩ : ByteArray), 276⟩ : S37), (⟨(⟨#[110, 101, 119, 45, 100, 101, 118, 105, 99, 101]⟩ : ByteArray), 287⟩ : S37), (⟨(⟨#[102, 105, 110, 105, 115, 104, 45, 100, 101, 118, 105, 99, 101]⟩ : ByteArray), 295⟩ : S37), (⟨(⟨#[115, 109, 47, 114, 101, 109]⟩ : ByteArray), 469⟩ : S37), (⟨(⟨#[109, 121, 45, 115, 101, 108, 102]⟩ : ByteArray), 515⟩ : S37), (⟨(⟨#[109, 121, 45, 112, 97, 114, 101, 110, 116]⟩ : ByteArray), 522⟩ : S37), (⟨(⟨#[36, 99, 97, 108, 108, 45, 109, 101, 116, 104, 111, 100]⟩ : ByteArray), 526⟩ : S37), (⟨(⟨#[99, 97, 116, 99, 104]⟩ : ByteArray), 535⟩ : S37), (⟨(⟨#[116, 104, 114, 111, 119]⟩ : ByteArray), 536⟩ : S37), (⟨(⟨#[103, 101, 116, 45, 109, 121, 45, 112, 114, 111, 112, 101, 114, 116, 121]⟩ : ByteArray), 538⟩ : S37), (⟨(⟨#[100, 101, 99, 111, 100, 101, 45, 105, 110, 116]⟩ : ByteArray), 539⟩ : S37), (⟨(⟨#[100, 101, 99, 111, 100, 101, 45, 115, 116, 114, 105, 110, 103]⟩ : ByteArray), 540⟩ : S37), (⟨(⟨#[100, 101, 108, 101, 116, 101, 45, 112, 114, 111, 112, 101, 114, 116, 121]⟩ : ByteArray), 542⟩ : S37), (⟨(⟨#[102, 109, 47, 109, 111, 100]⟩ : ByteArray), 725⟩ : S37)] : List (S37)))) = some r := h
  clear h
  obtain ⟨y16001, hy16001⟩ : ∃ y_ : List (S37), y_ = (([(⟨(⟨#[105]⟩ : ByteArray), 25⟩ : S37), (⟨(⟨#[106]⟩ : ByteArray), 26⟩ : S37), (⟨(⟨#[101, 120, 101, 99, 117, 116, 101]⟩ : ByteArray), 29⟩ : S37), (⟨(⟨#[43]⟩ : ByteArray), 30⟩ : S37), (⟨(⟨#[45]⟩ : ByteArray), 31⟩ : S37), (⟨(⟨#[42]⟩ : ByteArray), 32⟩ : S37), (⟨(⟨#[47]⟩ : ByteArray), 33⟩ : S37), (⟨(⟨#[109, 111, 100]⟩ : ByteArray), 34⟩ : S37), (⟨(⟨#[97, 110, 100]⟩ : ByteArray), 35⟩ : S37), (⟨(⟨#[111, 114]⟩ : ByteArray), 36⟩ : S37), (⟨(⟨#[120, 111, 114]⟩ : ByteArray), 37⟩ : S37), (⟨(⟨#[105, 110, 118, 101, 114, 116]⟩ : ByteArray), 38⟩ : S37), (⟨(⟨#[108, 115, 104, 105, 102, 116]⟩ : ByteArray), 39⟩ : S37), (⟨(⟨#[114, 115, 104, 105, 102, 116]⟩ : ByteArray), 40⟩ : S37), (⟨(⟨#[62, 62, 97]⟩ : ByteArray), 41⟩ : S37), (⟨(⟨#[47, 109, 111, 100]⟩ : ByteArray), 42⟩ : S37), (⟨(⟨#[117, 47, 109, 111, 100]⟩ : ByteArray), 43⟩ : S37), (⟨(⟨#[110, 101, 103, 97, 116, 101]⟩ : ByteArray), 44⟩ : S37), (⟨(⟨#[97, 98, 115]⟩ : ByteArray), 45⟩ : S37), (⟨(⟨#[109, 105, 110]⟩ : ByteArray), 46⟩ : S37), (⟨(⟨#[109, 97, 120]⟩ : ByteArray), 47⟩ : S37), (⟨(⟨#[62, 114]⟩ : ByteArray), 48⟩ : S37), (⟨(⟨#[114, 62]⟩ : ByteArray), 49⟩ : S37), (⟨(⟨#[114, 64]⟩ : ByteArray), 50⟩ : S37), (⟨(⟨#[48, 61]⟩ : ByteArray), 52⟩ : S37), (⟨(⟨#[48, 60, 62]⟩ : ByteArray), 53⟩ : S37), (⟨(⟨#[48, 60]⟩ : ByteArray), 54⟩ : S37), (⟨(⟨#[48, 60, 61]⟩ : ByteArray), 55⟩ : S37), (⟨(⟨#[48, 62]⟩ : ByteArray), 56⟩ : S37), (⟨(⟨#[48, 62, 61]⟩ : ByteArray), 57⟩ : S37), (⟨(⟨#[60]⟩ : ByteArray), 58⟩ : S37), (⟨(⟨#[62]⟩ : ByteArray), 59⟩ : S37), (⟨(⟨#[61]⟩ : ByteArray), 60⟩ : S37), (⟨(⟨#[60, 62]⟩ : ByteArray), 61⟩ : S37), (⟨(⟨#[117, 62]⟩ : ByteArray), 62⟩ : S37), (⟨(⟨#[117, 60, 61]⟩ : ByteArray), 63⟩ : S37), (⟨(⟨#[117, 60]⟩ : ByteArray), 64⟩ : S37), (⟨(⟨#[117, 62, 61]⟩ : ByteArray), 65⟩ : S37), (⟨(⟨#[62, 61]⟩ : ByteArray), 66⟩ : S37), (⟨(⟨#[60, 61]⟩ : ByteArray), 67⟩ : S37), (⟨(⟨#[100, 114, 111, 112]⟩ : ByteArray), 70⟩ : S37), (⟨(⟨#[100, 117, 112]⟩ : ByteArray), 71⟩ : S37), (⟨(⟨#[111, 118, 101, 114]⟩ : ByteArray), 72⟩ : S37), (⟨(⟨#[115, 119, 97, 112]⟩ : ByteArray), 73⟩ : S37), (⟨(⟨#[114, 111, 116]⟩ : ByteArray), 74⟩ : S37), (⟨(⟨#[45, 114, 111, 116]⟩ : ByteArray), 75⟩ : S37), (⟨(⟨#[116, 117, 99, 107]⟩ : ByteArray), 76⟩ : S37), (⟨(⟨#[110, 105, 112]⟩ : ByteArray), 77⟩ : S37), (⟨(⟨#[112, 105, 99, 107]⟩ : ByteArray), 78⟩ : S37), (⟨(⟨#[114, 111, 108, 108]⟩ : ByteArray), 79⟩ : S37), (⟨(⟨#[63, 100, 117, 112]⟩ : ByteArray), 80⟩ : S37), (⟨(⟨#[100, 101, 112, 116, 104]⟩ : ByteArray), 81⟩ : S37), (⟨(⟨#[50, 100, 114, 111, 112]⟩ : ByteArray), 82⟩ : S37), (⟨(⟨#[50, 100, 117, 112]⟩ : ByteArray), 83⟩ : S37), (⟨(⟨#[50, 111, 118, 101, 114]⟩ : ByteArray), 84⟩ : S37), (⟨(⟨#[50, 115, 119, 97, 112]⟩ : ByteArray), 85⟩ : S37), (⟨(⟨#[50, 114, 111, 116]⟩ : ByteArray), 86⟩ : S37), (⟨(⟨#[50, 47]⟩ : ByteArray), 87⟩ : S37), (⟨(⟨#[117, 50, 47]⟩ : ByteArray), 88⟩ : S37), (⟨(⟨#[50, 42]⟩ : ByteArray), 89⟩ : S37), (⟨(⟨#[43, 33]⟩ : ByteArray), 108⟩ : S37), (⟨(⟨#[64]⟩ : ByteArray), 109⟩ : S37), (⟨(⟨#[119, 64]⟩ : ByteArray), 111⟩ : S37), (⟨(⟨#[99, 64]⟩ : ByteArray), 113⟩ : S37), (⟨(⟨#[33]⟩ : ByteArray), 114⟩ : S37), (⟨(⟨#[119, 33]⟩ : ByteArray), 116⟩ : S37), (⟨(⟨#[99, 33]⟩ : ByteArray), 117⟩ : S37), (⟨(⟨#[109, 111, 118, 101]⟩ : ByteArray), 120⟩ : S37), (⟨(⟨#[102, 105, 108, 108]⟩ : ByteArray), 121⟩ : S37), (⟨(⟨#[99, 111, 109, 112]⟩ : ByteArray), 122⟩ : S37), (⟨(⟨#[108, 98, 115, 112, 108, 105, 116]⟩ : ByteArray), 126⟩ : S37), (⟨(⟨#[98, 108, 106, 111, 105, 110]⟩ : ByteArray), 127⟩ : S37), (⟨(⟨#[119, 98, 102, 108, 105, 112]⟩ : ByteArray), 128⟩ : S37), (⟨(⟨#[117, 112, 99]⟩ : ByteArray), 129⟩ : S37), (⟨(⟨#[108, 99, 99]⟩ : ByteArray), 130⟩ : S37), (⟨(⟨#[117, 110, 108, 111, 111, 112]⟩ : ByteArray), 137⟩ : S37), (⟨(⟨#[97, 108, 108, 111, 99, 45, 109, 101, 109]⟩ : ByteArray), 139⟩ : S37), (⟨(⟨#[101, 109, 105, 116]⟩ : ByteArray), 143⟩ : S37), (⟨(⟨#[116, 121, 112, 101]⟩ : ByteArray), 144⟩ : S37), (⟨(⟨#[99, 114]⟩ : ByteArray), 146⟩ : S37), (⟨(⟨#[117, 46]⟩ : ByteArray), 155⟩ : S37), (⟨(⟨#[46]⟩ : ByteArray), 157⟩ : S37), (⟨(⟨#[98, 97, 115, 101, 33]⟩ : ByteArray), 160⟩ : S37), (⟨(⟨#[45, 49]⟩ : ByteArray), 164⟩ : S37), (⟨(⟨#[48]⟩ : ByteArray), 165⟩ : S37), (⟨(⟨#[49]⟩ : ByteArray), 166⟩ : S37), (⟨(⟨#[50]⟩ : ByteArray), 167⟩ : S37), (⟨(⟨#[51]⟩ : ByteArray), 168⟩ : S37), (⟨(⟨#[98, 108]⟩ : ByteArray), 169⟩ : S37), (⟨(⟨#[104, 101, 114, 101]⟩ : ByteArray), 173⟩ : S37), (⟨(⟨#[117, 109, 42]⟩ : ByteArray), 212⟩ : S37), (⟨(⟨#[117, 109, 47, 109, 111, 100]⟩ : ByteArray), 213⟩ : S37), (⟨(⟨#[100, 43]⟩ : ByteArray), 216⟩ : S37), (⟨(⟨#[100, 45]⟩ : ByteArray), 217⟩ : S37), (⟨(⟨#[112, 114, 111, 112, 101, 114, 116, 121]⟩ : ByteArray), 272⟩ : S37), (⟨(⟨#[101, 110, 99, 111, 100, 101, 45, 105, 110, 116]⟩ : ByteArray), 273⟩ : S37), (⟨(⟨#[101, 110, 99, 111, 100, 101, 43]⟩ : ByteArray), 274⟩ : S37), (⟨(⟨#[101, 110, 99, 111, 100, 101, 45, 115, 116, 114, 105, 110, 103]⟩ : ByteArray), 276⟩ : S37), (⟨(⟨#[110, 101, 119, 45, 100, 101, 118, 105, 99, 101]⟩ : ByteArray), 287⟩ : S37), (⟨(⟨#[102, 105, 110, 105, 115, 104, 45, 100, 101, 118, 105, 99, 101]⟩ : ByteArray), 295⟩ : S37), (⟨(⟨#[115, 109, 47, 114, 101, 109]⟩ : ByteArray), 469⟩ : S37), (⟨(⟨#[109, 121, 45, 115, 101, 108, 102]⟩ : ByteArray), 515⟩ : S37), (⟨(⟨#[109, 121, 45, 112, 97, 114, 101, 110, 116]⟩ : ByteArray), 522⟩ : S37), (⟨(⟨#[36, 99, 97, 108, 108, 45, 109, 101, 116, 104, 111, 100]⟩ : ByteArray), 526⟩ : S37), (⟨(⟨#[99, 97, 116, 99, 104]⟩ : ByteArray), 535⟩ : S37), (⟨(⟨#[116, 104, 114, 111, 119]⟩ : ByteArray), 536⟩ : S37), (⟨(⟨#[103, 101, 116, 45, 109, 121, 45, 112, 114, 111, 112, 101, 114, 116, 121]⟩ : ByteArray), 538⟩ : S37), (⟨(⟨#[100, 101, 99, 111, 100, 101, 45, 105, 110, 116]⟩ : ByteArray), 539⟩ : S37), (⟨(⟨#[100, 101, 99, 111, 100, 101, 45, 115, 116, 114, 105, 110, 103]⟩ : ByteArray), 540⟩ : S37), (⟨(⟨#[100, 101, 108, 101, 116, 101, 45, 112, 114, 111, 112, 101, 114, 116, 121]⟩ : ByteArray), 542⟩ : S37), (⟨(⟨#[102, 109, 47, 109, 111, 100]⟩ : ByteArray), 725⟩ : S37)] : List (S37))) := ⟨_, rfl⟩
  replace H : (some y16001) = some r := by first | (rw [hy16001]; with_reducible exact H) | (have H2_ := (Option.bind_some _ _).symm.trans H; rw [hy16001]; with_reducible exact H2_) | (have H2_ := (Option.bind_some _ _).symm.trans H; with_reducible exact H2_) | with_reducible exact H | (rw [hy16001]; exact H) | exact H
  have Ny16001 := Aside0.mk hy16001
  clear hy16001
  obtain rfl := Option.some.inj H
  go_enter Try.func15, Try.ntmps15
  go_wp2_with (first | ((with_reducible refine gate_dst (N := 112) rfl ?_); refine Kd.R_lit k37 _ 37 ?hg (N := 112) ?hd (xs := ([(⟨(⟨#[105]⟩ : ByteArray), 25⟩ : S37), (⟨(⟨#[106]⟩ : ByteArray), 26⟩ : S37), (⟨(⟨#[101, 120, 101, 99, 117, 116, 101]⟩ : ByteArray), 29⟩ : S37), (⟨(⟨#[43]⟩ : ByteArray), 30⟩ : S37), (⟨(⟨#[45]⟩ : ByteArray), 31⟩ : S37), (⟨(⟨#[42]⟩ : ByteArray), 32⟩ : S37), (⟨(⟨#[47]⟩ : ByteArray), 33⟩ : S37), (⟨(⟨#[109, 111, 100]⟩ : ByteArray), 34⟩ : S37), (⟨(⟨#[97, 110, 100]⟩ : ByteArray), 35⟩ : S37), (⟨(⟨#[111, 114]⟩ : ByteArray), 36⟩ : S37), (⟨(⟨#[120, 111, 114]⟩ : ByteArray), 37⟩ : S37), (⟨(⟨#[105, 110, 118, 101, 114, 116]⟩ : ByteArray), 38⟩ : S37), (⟨(⟨#[108, 115, 104, 105, 102, 116]⟩ : ByteArray), 39⟩ : S37), (⟨(⟨#[114, 115, 104, 105, 102, 116]⟩ : ByteArray), 40⟩ : S37), (⟨(⟨#[62, 62, 97]⟩ : ByteArray), 41⟩ : S37), (⟨(⟨#[47, 109, 111, 100]⟩ : ByteArray), 42⟩ : S37), (⟨(⟨#[117, 47, 109, 111, 100]⟩ : ByteArray), 43⟩ : S37), (⟨(⟨#[110, 101, 103, 97, 116, 101]⟩ : ByteArray), 44⟩ : S37), (⟨(⟨#[97, 98, 115]⟩ : ByteArray), 45⟩ : S37), (⟨(⟨#[109, 105, 110]⟩ : ByteArray), 46⟩ : S37), (⟨(⟨#[109, 97, 120]⟩ : ByteArray), 47⟩ : S37), (⟨(⟨#[62, 114]⟩ : ByteArray), 48⟩ : S37), (⟨(⟨#[114, 62]⟩ : ByteArray), 49⟩ : S37), (⟨(⟨#[114, 64]⟩ : ByteArray), 50⟩ : S37), (⟨(⟨#[48, 61]⟩ : ByteArray), 52⟩ : S37), (⟨(⟨#[48, 60, 62]⟩ : ByteArray), 53⟩ : S37), (⟨(⟨#[48, 60]⟩ : ByteArray), 54⟩ : S37), (⟨(⟨#[48, 60, 61]⟩ : ByteArray), 55⟩ : S37), (⟨(⟨#[48, 62]⟩ : ByteArray), 56⟩ : S37), (⟨(⟨#[48, 62, 61]⟩ : ByteArray), 57⟩ : S37), (⟨(⟨#[60]⟩ : ByteArray), 58⟩ : S37), (⟨(⟨#[62]⟩ : ByteArray), 59⟩ : S37), (⟨(⟨#[61]⟩ : ByteArray), 60⟩ : S37), (⟨(⟨#[60, 62]⟩ : ByteArray), 61⟩ : S37), (⟨(⟨#[117, 62]⟩ : ByteArray), 62⟩ : S37), (⟨(⟨#[117, 60, 61]⟩ : ByteArray), 63⟩ : S37), (⟨(⟨#[117, 60]⟩ : ByteArray), 64⟩ : S37), (⟨(⟨#[117, 62, 61]⟩ : ByteArray), 65⟩ : S37), (⟨(⟨#[62, 61]⟩ : ByteArray), 66⟩ : S37), (⟨(⟨#[60, 61]⟩ : ByteArray), 67⟩ : S37), (⟨(⟨#[100, 114, 111, 112]⟩ : ByteArray), 70⟩ : S37), (⟨(⟨#[100, 117, 112]⟩ : ByteArray), 71⟩ : S37), (⟨(⟨#[111, 118, 101, 114]⟩ : ByteArray), 72⟩ : S37), (⟨(⟨#[115, 119, 97, 112]⟩ : ByteArray), 73⟩ : S37), (⟨(⟨#[114, 111, 116]⟩ : ByteArray), 74⟩ : S37), (⟨(⟨#[45, 114, 111, 116]⟩ : ByteArray), 75⟩ : S37), (⟨(⟨#[116, 117, 99, 107]⟩ : ByteArray), 76⟩ : S37), (⟨(⟨#[110, 105, 112]⟩ : ByteArray), 77⟩ : S37), (⟨(⟨#[112, 105, 99, 107]⟩ : ByteArray), 78⟩ : S37), (⟨(⟨#[114, 111, 108, 108]⟩ : ByteArray), 79⟩ : S37), (⟨(⟨#[63, 100, 117, 112]⟩ : ByteArray), 80⟩ : S37), (⟨(⟨#[100, 101, 112, 116, 104]⟩ : ByteArray), 81⟩ : S37), (⟨(⟨#[50, 100, 114, 111, 112]⟩ : ByteArray), 82⟩ : S37), (⟨(⟨#[50, 100, 117, 112]⟩ : ByteArray), 83⟩ : S37), (⟨(⟨#[50, 111, 118, 101, 114]⟩ : ByteArray), 84⟩ : S37), (⟨(⟨#[50, 115, 119, 97, 112]⟩ : ByteArray), 85⟩ : S37), (⟨(⟨#[50, 114, 111, 116]⟩ : ByteArray), 86⟩ : S37), (⟨(⟨#[50, 47]⟩ : ByteArray), 87⟩ : S37), (⟨(⟨#[117, 50, 47]⟩ : ByteArray), 88⟩ : S37), (⟨(⟨#[50, 42]⟩ : ByteArray), 89⟩ : S37), (⟨(⟨#[43, 33]⟩ : ByteArray), 108⟩ : S37), (⟨(⟨#[64]⟩ : ByteArray), 109⟩ : S37), (⟨(⟨#[119, 64]⟩ : ByteArray), 111⟩ : S37), (⟨(⟨#[99, 64]⟩ : ByteArray), 113⟩ : S37), (⟨(⟨#[33]⟩ : ByteArray), 114⟩ : S37), (⟨(⟨#[119, 33]⟩ : ByteArray), 116⟩ : S37), (⟨(⟨#[99, 33]⟩ : ByteArray), 117⟩ : S37), (⟨(⟨#[109, 111, 118, 101]⟩ : ByteArray), 120⟩ : S37), (⟨(⟨#[102, 105, 108, 108]⟩ : ByteArray), 121⟩ : S37), (⟨(⟨#[99, 111, 109, 112]⟩ : ByteArray), 122⟩ : S37), (⟨(⟨#[108, 98, 115, 112, 108, 105, 116]⟩ : ByteArray), 126⟩ : S37), (⟨(⟨#[98, 108, 106, 111, 105, 110]⟩ : ByteArray), 127⟩ : S37), (⟨(⟨#[119, 98, 102, 108, 105, 112]⟩ : ByteArray), 128⟩ : S37), (⟨(⟨#[117, 112, 99]⟩ : ByteArray), 129⟩ : S37), (⟨(⟨#[108, 99, 99]⟩ : ByteArray), 130⟩ : S37), (⟨(⟨#[117, 110, 108, 111, 111, 112]⟩ : ByteArray), 137⟩ : S37), (⟨(⟨#[97, 108, 108, 111, 99, 45, 109, 101, 109]⟩ : ByteArray), 139⟩ : S37), (⟨(⟨#[101, 109, 105, 116]⟩ : ByteArray), 143⟩ : S37), (⟨(⟨#[116, 121, 112, 101]⟩ : ByteArray), 144⟩ : S37), (⟨(⟨#[99, 114]⟩ : ByteArray), 146⟩ : S37), (⟨(⟨#[117, 46]⟩ : ByteArray), 155⟩ : S37), (⟨(⟨#[46]⟩ : ByteArray), 157⟩ : S37), (⟨(⟨#[98, 97, 115, 101, 33]⟩ : ByteArray), 160⟩ : S37), (⟨(⟨#[45, 49]⟩ : ByteArray), 164⟩ : S37), (⟨(⟨#[48]⟩ : ByteArray), 165⟩ : S37), (⟨(⟨#[49]⟩ : ByteArray), 166⟩ : S37), (⟨(⟨#[50]⟩ : ByteArray), 167⟩ : S37), (⟨(⟨#[51]⟩ : ByteArray), 168⟩ : S37), (⟨(⟨#[98, 108]⟩ : ByteArray), 169⟩ : S37), (⟨(⟨#[104, 101, 114, 101]⟩ : ByteArray), 173⟩ : S37), (⟨(⟨#[117, 109, 42]⟩ : ByteArray), 212⟩ : S37), (⟨(⟨#[117, 109, 47, 109, 111, 100]⟩ : ByteArray), 213⟩ : S37), (⟨(⟨#[100, 43]⟩ : ByteArray), 216⟩ : S37), (⟨(⟨#[100, 45]⟩ : ByteArray), 217⟩ : S37), (⟨(⟨#[112, 114, 111, 112, 101, 114, 116, 121]⟩ : ByteArray), 272⟩ : S37), (⟨(⟨#[101, 110, 99, 111, 100, 101, 45, 105, 110, 116]⟩ : ByteArray), 273⟩ : S37), (⟨(⟨#[101, 110, 99, 111, 100, 101, 43]⟩ : ByteArray), 274⟩ : S37), (⟨(⟨#[101, 110, 99, 111, 100, 101, 45, 115, 116, 114, 105, 110, 103]⟩ : ByteArray), 276⟩ : S37), (⟨(⟨#[110, 101, 119, 45, 100, 101, 118, 105, 99, 101]⟩ : ByteArray), 287⟩ : S37), (⟨(⟨#[102, 105, 110, 105, 115, 104, 45, 100, 101, 118, 105, 99, 101]⟩ : ByteArray), 295⟩ : S37), (⟨(⟨#[115, 109, 47, 114, 101, 109]⟩ : ByteArray), 469⟩ : S37), (⟨(⟨#[109, 121, 45, 115, 101, 108, 102]⟩ : ByteArray), 515⟩ : S37), (⟨(⟨#[109, 121, 45, 112, 97, 114, 101, 110, 116]⟩ : ByteArray), 522⟩ : S37), (⟨(⟨#[36, 99, 97, 108, 108, 45, 109, 101, 116, 104, 111, 100]⟩ : ByteArray), 526⟩ : S37), (⟨(⟨#[99, 97, 116, 99, 104]⟩ : ByteArray), 535⟩ : S37), (⟨(⟨#[116, 104, 114, 111, 119]⟩ : ByteArray), 536⟩ : S37), (⟨(⟨#[103, 101, 116, 45, 109, 121, 45, 112, 114, 111, 112, 101, 114, 116, 121]⟩ : ByteArray), 538⟩ : S37), (⟨(⟨#[100, 101, 99, 111, 100, 101, 45, 105, 110, 116]⟩ : ByteArray), 539⟩ : S37), (⟨(⟨#[100, 101, 99, 111, 100, 101, 45, 115, 116, 114, 105, 110, 103]⟩ : ByteArray), 540⟩ : S37), (⟨(⟨#[100, 101, 108, 101, 116, 101, 45, 112, 114, 111, 112, 101, 114, 116, 121]⟩ : ByteArray), 542⟩ : S37), (⟨(⟨#[102, 109, 47, 109, 111, 100]⟩ : ByteArray), 725⟩ : S37)] : List (S37))) (inner := [.string (⟨#[105]⟩ : ByteArray), .int .i64 25, .string (⟨#[106]⟩ : ByteArray), .int .i64 26, .string (⟨#[101, 120, 101, 99, 117, 116, 101]⟩ : ByteArray), .int .i64 29, .string (⟨#[43]⟩ : ByteArray), .int .i64 30, .string (⟨#[45]⟩ : ByteArray), .int .i64 31, .string (⟨#[42]⟩ : ByteArray), .int .i64 32, .string (⟨#[47]⟩ : ByteArray), .int .i64 33, .string (⟨#[109, 111, 100]⟩ : ByteArray), .int .i64 34, .string (⟨#[97, 110, 100]⟩ : ByteArray), .int .i64 35, .string (⟨#[111, 114]⟩ : ByteArray), .int .i64 36, .string (⟨#[120, 111, 114]⟩ : ByteArray), .int .i64 37, .string (⟨#[105, 110, 118, 101, 114, 116]⟩ : ByteArray), .int .i64 38, .string (⟨#[108, 115, 104, 105, 102, 116]⟩ : ByteArray), .int .i64 39, .string (⟨#[114, 115, 104, 105, 102, 116]⟩ : ByteArray), .int .i64 40, .string (⟨#[62, 62, 97]⟩ : ByteArray), .int .i64 41, .string (⟨#[47, 109, 111, 100]⟩ : ByteArray), .int .i64 42, .string (⟨#[117, 47, 109, 111, 100]⟩ : ByteArray), .int .i64 43, .string (⟨#[110, 101, 103, 97, 116, 101]⟩ : ByteArray), .int .i64 44, .string (⟨#[97, 98, 115]⟩ : ByteArray), .int .i64 45, .string (⟨#[109, 105, 110]⟩ : ByteArray), .int .i64 46, .string (⟨#[109, 97, 120]⟩ : ByteArray), .int .i64 47, .string (⟨#[62, 114]⟩ : ByteArray), .int .i64 48, .string (⟨#[114, 62]⟩ : ByteArray), .int .i64 49, .string (⟨#[114, 64]⟩ : ByteArray), .int .i64 50, .string (⟨#[48, 61]⟩ : ByteArray), .int .i64 52, .string (⟨#[48, 60, 62]⟩ : ByteArray), .int .i64 53, .string (⟨#[48, 60]⟩ : ByteArray), .int .i64 54, .string (⟨#[48, 60, 61]⟩ : ByteArray), .int .i64 55, .string (⟨#[48, 62]⟩ : ByteArray), .int .i64 56, .string (⟨#[48, 62, 61]⟩ : ByteArray), .int .i64 57, .string (⟨#[60]⟩ : ByteArray), .int .i64 58, .string (⟨#[62]⟩ : ByteArray), .int .i64 59, .string (⟨#[61]⟩ : ByteArray), .int .i64 60, .string (⟨#[60, 62]⟩ : ByteArray), .int .i64 61, .string (⟨#[117, 62]⟩ : ByteArray), .int .i64 62, .string (⟨#[117, 60, 61]⟩ : ByteArray), .int .i64 63, .string (⟨#[117, 60]⟩ : ByteArray), .int .i64 64, .string (⟨#[117, 62, 61]⟩ : ByteArray), .int .i64 65, .string (⟨#[62, 61]⟩ : ByteArray), .int .i64 66, .string (⟨#[60, 61]⟩ : ByteArray), .int .i64 67, .string (⟨#[100, 114, 111, 112]⟩ : ByteArray), .int .i64 70, .string (⟨#[100, 117, 112]⟩ : ByteArray), .int .i64 71, .string (⟨#[111, 118, 101, 114]⟩ : ByteArray), .int .i64 72, .string (⟨#[115, 119, 97, 112]⟩ : ByteArray), .int .i64 73, .string (⟨#[114, 111, 116]⟩ : ByteArray), .int .i64 74, .string (⟨#[45, 114, 111, 116]⟩ : ByteArray), .int .i64 75, .string (⟨#[116, 117, 99, 107]⟩ : ByteArray), .int .i64 76, .string (⟨#[110, 105, 112]⟩ : ByteArray), .int .i64 77, .string (⟨#[112, 105, 99, 107]⟩ : ByteArray), .int .i64 78, .string (⟨#[114, 111, 108, 108]⟩ : ByteArray), .int .i64 79, .string (⟨#[63, 100, 117, 112]⟩ : ByteArray), .int .i64 80, .string (⟨#[100, 101, 112, 116, 104]⟩ : ByteArray), .int .i64 81, .string (⟨#[50, 100, 114, 111, 112]⟩ : ByteArray), .int .i64 82, .string (⟨#[50, 100, 117, 112]⟩ : ByteArray), .int .i64 83, .string (⟨#[50, 111, 118, 101, 114]⟩ : ByteArray), .int .i64 84, .string (⟨#[50, 115, 119, 97, 112]⟩ : ByteArray), .int .i64 85, .string (⟨#[50, 114, 111, 116]⟩ : ByteArray), .int .i64 86, .string (⟨#[50, 47]⟩ : ByteArray), .int .i64 87, .string (⟨#[117, 50, 47]⟩ : ByteArray), .int .i64 88, .string (⟨#[50, 42]⟩ : ByteArray), .int .i64 89, .string (⟨#[43, 33]⟩ : ByteArray), .int .i64 108, .string (⟨#[64]⟩ : ByteArray), .int .i64 109, .string (⟨#[119, 64]⟩ : ByteArray), .int .i64 111, .string (⟨#[99, 64]⟩ : ByteArray), .int .i64 113, .string (⟨#[33]⟩ : ByteArray), .int .i64 114, .string (⟨#[119, 33]⟩ : ByteArray), .int .i64 116, .string (⟨#[99, 33]⟩ : ByteArray), .int .i64 117, .string (⟨#[109, 111, 118, 101]⟩ : ByteArray), .int .i64 120, .string (⟨#[102, 105, 108, 108]⟩ : ByteArray), .int .i64 121, .string (⟨#[99, 111, 109, 112]⟩ : ByteArray), .int .i64 122, .string (⟨#[108, 98, 115, 112, 108, 105, 116]⟩ : ByteArray), .int .i64 126, .string (⟨#[98, 108, 106, 111, 105, 110]⟩ : ByteArray), .int .i64 127, .string (⟨#[119, 98, 102, 108, 105, 112]⟩ : ByteArray), .int .i64 128, .string (⟨#[117, 112, 99]⟩ : ByteArray), .int .i64 129, .string (⟨#[108, 99, 99]⟩ : ByteArray), .int .i64 130, .string (⟨#[117, 110, 108, 111, 111, 112]⟩ : ByteArray), .int .i64 137, .string (⟨#[97, 108, 108, 111, 99, 45, 109, 101, 109]⟩ : ByteArray), .int .i64 139, .string (⟨#[101, 109, 105, 116]⟩ : ByteArray), .int .i64 143, .string (⟨#[116, 121, 112, 101]⟩ : ByteArray), .int .i64 144, .string (⟨#[99, 114]⟩ : ByteArray), .int .i64 146, .string (⟨#[117, 46]⟩ : ByteArray), .int .i64 155, .string (⟨#[46]⟩ : ByteArray), .int .i64 157, .string (⟨#[98, 97, 115, 101, 33]⟩ : ByteArray), .int .i64 160, .string (⟨#[45, 49]⟩ : ByteArray), .int .i64 164, .string (⟨#[48]⟩ : ByteArray), .int .i64 165, .string (⟨#[49]⟩ : ByteArray), .int .i64 166, .string (⟨#[50]⟩ : ByteArray), .int .i64 167, .string (⟨#[51]⟩ : ByteArray), .int .i64 168, .string (⟨#[98, 108]⟩ : ByteArray), .int .i64 169, .string (⟨#[104, 101, 114, 101]⟩ : ByteArray), .int .i64 173, .string (⟨#[117, 109, 42]⟩ : ByteArray), .int .i64 212, .string (⟨#[117, 109, 47, 109, 111, 100]⟩ : ByteArray), .int .i64 213, .string (⟨#[100, 43]⟩ : ByteArray), .int .i64 216, .string (⟨#[100, 45]⟩ : ByteArray), .int .i64 217, .string (⟨#[112, 114, 111, 112, 101, 114, 116, 121]⟩ : ByteArray), .int .i64 272, .string (⟨#[101, 110, 99, 111, 100, 101, 45, 105, 110, 116]⟩ : ByteArray), .int .i64 273, .string (⟨#[101, 110, 99, 111, 100, 101, 43]⟩ : ByteArray), .int .i64 274, .string (⟨#[101, 110, 99, 111, 100, 101, 45, 115, 116, 114, 105, 110, 103]⟩ : ByteArray), .int .i64 276, .string (⟨#[110, 101, 119, 45, 100, 101, 118, 105, 99, 101]⟩ : ByteArray), .int .i64 287, .string (⟨#[102, 105, 110, 105, 115, 104, 45, 100, 101, 118, 105, 99, 101]⟩ : ByteArray), .int .i64 295, .string (⟨#[115, 109, 47, 114, 101, 109]⟩ : ByteArray), .int .i64 469, .string (⟨#[109, 121, 45, 115, 101, 108, 102]⟩ : ByteArray), .int .i64 515, .string (⟨#[109, 121, 45, 112, 97, 114, 101, 110, 116]⟩ : ByteArray), .int .i64 522, .string (⟨#[36, 99, 97, 108, 108, 45, 109, 101, 116, 104, 111, 100]⟩ : ByteArray), .int .i64 526, .string (⟨#[99, 97, 116, 99, 104]⟩ : ByteArray), .int .i64 535, .string (⟨#[116, 104, 114, 111, 119]⟩ : ByteArray), .int .i64 536, .string (⟨#[103, 101, 116, 45, 109, 121, 45, 112, 114, 111, 112, 101, 114, 116, 121]⟩ : ByteArray), .int .i64 538, .string (⟨#[100, 101, 99, 111, 100, 101, 45, 105, 110, 116]⟩ : ByteArray), .int .i64 539, .string (⟨#[100, 101, 99, 111, 100, 101, 45, 115, 116, 114, 105, 110, 103]⟩ : ByteArray), .int .i64 540, .string (⟨#[100, 101, 108, 101, 116, 101, 45, 112, 114, 111, 112, 101, 114, 116, 121]⟩ : ByteArray), .int .i64 542, .string (⟨#[102, 109, 47, 109, 111, 100]⟩ : ByteArray), .int .i64 725]) (ok := fun _ => True) (okp := fun _ => True) ?hr ?hp (fun _ hk => hk) trivial (Below.refl _ _) (Nat.le_refl _) (by simp) ?_; (case hd => rfl); (case hg => rfl); (case hr => kernel_rfl); (case hp => exact (Reps.c2 (show Kd.M k37 _ _ _ (⟨(⟨#[105]⟩ : ByteArray), 25⟩ : S37) [.string (⟨#[105]⟩ : ByteArray), .int .i64 25] from (k37_mkM _ _ _ (⟨(⟨#[105]⟩ : ByteArray), 25⟩ : S37) )) (Reps.c2 (show Kd.M k37 _ _ _ (⟨(⟨#[106]⟩ : ByteArray), 26⟩ : S37) [.string (⟨#[106]⟩ : ByteArray), .int .i64 26] from (k37_mkM _ _ _ (⟨(⟨#[106]⟩ : ByteArray), 26⟩ : S37) )) (Reps.c2 (show Kd.M k37 _ _ _ (⟨(⟨#[101, 120, 101, 99, 117, 116, 101]⟩ : ByteArray), 29⟩ : S37) [.string (⟨#[101, 120, 101, 99, 117, 116, 101]⟩ : ByteArray), .int .i64 29] from (k37_mkM _ _ _ (⟨(⟨#[101, 120, 101, 99, 117, 116, 101]⟩ : ByteArray), 29⟩ : S37) )) (Reps.c2 (show Kd.M k37 _ _ _ (⟨(⟨#[43]⟩ : ByteArray), 30⟩ : S37) [.string (⟨#[43]⟩ : ByteArray), .int .i64 30] from (k37_mkM _ _ _ (⟨(⟨#[43]⟩ : ByteArray), 30⟩ : S37) )) (Reps.c2 (show Kd.M k37 _ _ _ (⟨(⟨#[45]⟩ : ByteArray), 31⟩ : S37) [.string (⟨#[45]⟩ : ByteArray), .int .i64 31] from (k37_mkM _ _ _ (⟨(⟨#[45]⟩ : ByteArray), 31⟩ : S37) )) (Reps.c2 (show Kd.M k37 _ _ _ (⟨(⟨#[42]⟩ : ByteArray), 32⟩ : S37) [.string (⟨#[42]⟩ : ByteArray), .int .i64 32] from (k37_mkM _ _ _ (⟨(⟨#[42]⟩ : ByteArray), 32⟩ : S37) )) (Reps.c2 (show Kd.M k37 _ _ _ (⟨(⟨#[47]⟩ : ByteArray), 33⟩ : S37) [.string (⟨#[47]⟩ : ByteArray), .int .i64 33] from (k37_mkM _ _ _ (⟨(⟨#[47]⟩ : ByteArray), 33⟩ : S37) )) (Reps.c2 (show Kd.M k37 _ _ _ (⟨(⟨#[109, 111, 100]⟩ : ByteArray), 34⟩ : S37) [.string (⟨#[109, 111, 100]⟩ : ByteArray), .int .i64 34] from (k37_mkM _ _ _ (⟨(⟨#[109, 111, 100]⟩ : ByteArray), 34⟩ : S37) )) (Reps.c2 (show Kd.M k37 _ _ _ (⟨(⟨#[97, 110, 100]⟩ : ByteArray), 35⟩ : S37) [.string (⟨#[97, 110, 100]⟩ : ByteArray), .int .i64 35] from (k37_mkM _ _ _ (⟨(⟨#[97, 110, 100]⟩ : ByteArray), 35⟩ : S37) )) (Reps.c2 (show Kd.M k37 _ _ _ (⟨(⟨#[111, 114]⟩ : ByteArray), 36⟩ : S37) [.string (⟨#[111, 114]⟩ : ByteArray), .int .i64 36] from (k37_mkM _ _ _ (⟨(⟨#[111, 114]⟩ : ByteArray), 36⟩ : S37) )) (Reps.c2 (show Kd.M k37 _ _ _ (⟨(⟨#[120, 111, 114]⟩ : ByteArray), 37⟩ : S37) [.string (⟨#[120, 111, 114]⟩ : ByteArray), .int .i64 37] from (k37_mkM _ _ _ (⟨(⟨#[120, 111, 114]⟩ : ByteArray), 37⟩ : S37) )) (Reps.c2 (show Kd.M k37 _ _ _ (⟨(⟨#[105, 110, 118, 101, 114, 116]⟩ : ByteArray), 38⟩ : S37) [.string (⟨#[105, 110, 118, 101, 114, 116]⟩ : ByteArray), .int .i64 38] from (k37_mkM _ _ _ (⟨(⟨#[105, 110, 118, 101, 114, 116]⟩ : ByteArray), 38⟩ : S37) )) (Reps.c2 (show Kd.M k37 _ _ _ (⟨(⟨#[108, 115, 104, 105, 102, 116]⟩ : ByteArray), 39⟩ : S37) [.string (⟨#[108, 115, 104, 105, 102, 116]⟩ : ByteArray), .int .i64 39] from (k37_mkM _ _ _ (⟨(⟨#[108, 115, 104, 105, 102, 116]⟩ : ByteArray), 39⟩ : S37) )) (Reps.c2 (show Kd.M k37 _ _ _ (⟨(⟨#[114, 115, 104, 105, 102, 116]⟩ : ByteArray), 40⟩ : S37) [.string (⟨#[114, 115, 104, 105, 102, 116]⟩ : ByteArray), .int .i64 40] from (k37_mkM _ _ _ (⟨(⟨#[114, 115, 104, 105, 102, 116]⟩ : ByteArray), 40⟩ : S37) )) (Reps.c2 (show Kd.M k37 _ _ _ (⟨(⟨#[62, 62, 97]⟩ : ByteArray), 41⟩ : S37) [.string (⟨#[62, 62, 97]⟩ : ByteArray), .int .i64 41] from (k37_mkM _ _ _ (⟨(⟨#[62, 62, 97]⟩ : ByteArray), 41⟩ : S37) )) (Reps.c2 (show Kd.M k37 _ _ _ (⟨(⟨#[47, 109, 111, 100]⟩ : ByteArray), 42⟩ : S37) [.string (⟨#[47, 109, 111, 100]⟩ : ByteArray), .int .i64 42] from (k37_mkM _ _ _ (⟨(⟨#[47, 109, 111, 100]⟩ : ByteArray), 42⟩ : S37) )) (Reps.c2 (show Kd.M k37 _ _ _ (⟨(⟨#[117, 47, 109, 111, 100]⟩ : ByteArray), 43⟩ : S37) [.string (⟨#[117, 47, 109, 111, 100]⟩ : ByteArray), .int .i64 43] from (k37_mkM _ _ _ (⟨(⟨#[117, 47, 109, 111, 100]⟩ : ByteArray), 43⟩ : S37) )) (Reps.c2 (show Kd.M k37 _ _ _ (⟨(⟨#[110, 101, 103, 97, 116, 101]⟩ : ByteArray), 44⟩ : S37) [.string (⟨#[110, 101, 103, 97, 116, 101]⟩ : ByteArray), .int .i64 44] from (k37_mkM _ _ _ (⟨(⟨#[110, 101, 103, 97, 116, 101]⟩ : ByteArray), 44⟩ : S37) )) (Reps.c2 (show Kd.M k37 _ _ _ (⟨(⟨#[97, 98, 115]⟩ : ByteArray), 45⟩ : S37) [.string (⟨#[97, 98, 115]⟩ : ByteArray), .int .i64 45] from (k37_mkM _ _ _ (⟨(⟨#[97, 98, 115]⟩ : ByteArray), 45⟩ : S37) )) (Reps.c2 (show Kd.M k37 _ _ _ (⟨(⟨#[109, 105, 110]⟩ : ByteArray), 46⟩ : S37) [.string (⟨#[109, 105, 110]⟩ : ByteArray), .int .i64 46] from (k37_mkM _ _ _ (⟨(⟨#[109, 105, 110]⟩ : ByteArray), 46⟩ : S37) )) (Reps.c2 (show Kd.M k37 _ _ _ (⟨(⟨#[109, 97, 120]⟩ : ByteArray), 47⟩ : S37) [.string (⟨#[109, 97, 120]⟩ : ByteArray), .int .i64 47] from (k37_mkM _ _ _ (⟨(⟨#[109, 97, 120]⟩ : ByteArray), 47⟩ : S37) )) (Reps.c2 (show Kd.M k37 _ _ _ (⟨(⟨#[62, 114]⟩ : ByteArray), 48⟩ : S37) [.string (⟨#[62, 114]⟩ : ByteArray), .int .i64 48] from (k37_mkM _ _ _ (⟨(⟨#[62, 114]⟩ : ByteArray), 48⟩ : S37) )) (Reps.c2 (show Kd.M k37 _ _ _ (⟨(⟨#[114, 62]⟩ : ByteArray), 49⟩ : S37) [.string (⟨#[114, 62]⟩ : ByteArray), .int .i64 49] from (k37_mkM _ _ _ (⟨(⟨#[114, 62]⟩ : ByteArray), 49⟩ : S37) )) (Reps.c2 (show Kd.M k37 _ _ _ (⟨(⟨#[114, 64]⟩ : ByteArray), 50⟩ : S37) [.string (⟨#[114, 64]⟩ : ByteArray), .int .i64 50] from (k37_mkM _ _ _ (⟨(⟨#[114, 64]⟩ : ByteArray), 50⟩ : S37) )) (Reps.c2 (show Kd.M k37 _ _ _ (⟨(⟨#[48, 61]⟩ : ByteArray), 52⟩ : S37) [.string (⟨#[48, 61]⟩ : ByteArray), .int .i64 52] from (k37_mkM _ _ _ (⟨(⟨#[48, 61]⟩ : ByteArray), 52⟩ : S37) )) (Reps.c2 (show Kd.M k37 _ _ _ (⟨(⟨#[48, 60, 62]⟩ : ByteArray), 53⟩ : S37) [.string (⟨#[48, 60, 62]⟩ : ByteArray), .int .i64 53] from (k37_mkM _ _ _ (⟨(⟨#[48, 60, 62]⟩ : ByteArray), 53⟩ : S37) )) (Reps.c2 (show Kd.M k37 _ _ _ (⟨(⟨#[48, 60]⟩ : ByteArray), 54⟩ : S37) [.string (⟨#[48, 60]⟩ : ByteArray), .int .i64 54] from (k37_mkM _ _ _ (⟨(⟨#[48, 60]⟩ : ByteArray), 54⟩ : S37) )) (Reps.c2 (show Kd.M k37 _ _ _ (⟨(⟨#[48, 60, 61]⟩ : ByteArray), 55⟩ : S37) [.string (⟨#[48, 60, 61]⟩ : ByteArray), .int .i64 55] from (k37_mkM _ _ _ (⟨(⟨#[48, 60, 61]⟩ : ByteArray), 55⟩ : S37) )) (Reps.c2 (show Kd.M k37 _ _ _ (⟨(⟨#[48, 62]⟩ : ByteArray), 56⟩ : S37) [.string (⟨#[48, 62]⟩ : ByteArray), .int .i64 56] from (k37_mkM _ _ _ (⟨(⟨#[48, 62]⟩ : ByteArray), 56⟩ : S37) )) (Reps.c2 (show Kd.M k37 _ _ _ (⟨(⟨#[48, 62, 61]⟩ : ByteArray), 57⟩ : S37) [.string (⟨#[48, 62, 61]⟩ : ByteArray), .int .i64 57] from (k37_mkM _ _ _ (⟨(⟨#[48, 62, 61]⟩ : ByteArray), 57⟩ : S37) )) (Reps.c2 (show Kd.M k37 _ _ _ (⟨(⟨#[60]⟩ : ByteArray), 58⟩ : S37) [.string (⟨#[60]⟩ : ByteArray), .int .i64 58] from (k37_mkM _ _ _ (⟨(⟨#[60]⟩ : ByteArray), 58⟩ : S37) )) (Reps.c2 (show Kd.M k37 _ _ _ (⟨(⟨#[62]⟩ : ByteArray), 59⟩ : S37) [.string (⟨#[62]⟩ : ByteArray), .int .i64 59] from (k37_mkM _ _ _ (⟨(⟨#[62]⟩ : ByteArray), 59⟩ : S37) )) (Reps.c2 (show Kd.M k37 _ _ _ (⟨(⟨#[61]⟩ : ByteArray), 60⟩ : S37) [.string (⟨#[61]⟩ : ByteArray), .int .i64 60] from (k37_mkM _ _ _ (⟨(⟨#[61]⟩ : ByteArray), 60⟩ : S37) )) (Reps.c2 (show Kd.M k37 _ _ _ (⟨(⟨#[60, 62]⟩ : ByteArray), 61⟩ : S37) [.string (⟨#[60, 62]⟩ : ByteArray), .int .i64 61] from (k37_mkM _ _ _ (⟨(⟨#[60, 62]⟩ : ByteArray), 61⟩ : S37) )) (Reps.c2 (show Kd.M k37 _ _ _ (⟨(⟨#[117, 62]⟩ : ByteArray), 62⟩ : S37) [.string (⟨#[117, 62]⟩ : ByteArray), .int .i64 62] from (k37_mkM _ _ _ (⟨(⟨#[117, 62]⟩ : ByteArray), 62⟩ : S37) )) (Reps.c2 (show Kd.M k37 _ _ _ (⟨(⟨#[117, 60, 61]⟩ : ByteArray), 63⟩ : S37) [.string (⟨#[117, 60, 61]⟩ : ByteArray), .int .i64 63] from (k37_mkM _ _ _ (⟨(⟨#[117, 60, 61]⟩ : ByteArray), 63⟩ : S37) )) (Reps.c2 (show Kd.M k37 _ _ _ (⟨(⟨#[117, 60]⟩ : ByteArray), 64⟩ : S37) [.string (⟨#[117, 60]⟩ : ByteArray), .int .i64 64] from (k37_mkM _ _ _ (⟨(⟨#[117, 60]⟩ : ByteArray), 64⟩ : S37) )) (Reps.c2 (show Kd.M k37 _ _ _ (⟨(⟨#[117, 62, 61]⟩ : ByteArray), 65⟩ : S37) [.string (⟨#[117, 62, 61]⟩ : ByteArray), .int .i64 65] from (k37_mkM _ _ _ (⟨(⟨#[117, 62, 61]⟩ : ByteArray), 65⟩ : S37) )) (Reps.c2 (show Kd.M k37 _ _ _ (⟨(⟨#[62, 61]⟩ : ByteArray), 66⟩ : S37) [.string (⟨#[62, 61]⟩ : ByteArray), .int .i64 66] from (k37_mkM _ _ _ (⟨(⟨#[62, 61]⟩ : ByteArray), 66⟩ : S37) )) (Reps.c2 (show Kd.M k37 _ _ _ (⟨(⟨#[60, 61]⟩ : ByteArray), 67⟩ : S37) [.string (⟨#[60, 61]⟩ : ByteArray), .int .i64 67] from (k37_mkM _ _ _ (⟨(⟨#[60, 61]⟩ : ByteArray), 67⟩ : S37) )) (Reps.c2 (show Kd.M k37 _ _ _ (⟨(⟨#[100, 114, 111, 112]⟩ : ByteArray), 70⟩ : S37) [.string (⟨#[100, 114, 111, 112]⟩ : ByteArray), .int .i64 70] from (k37_mkM _ _ _ (⟨(⟨#[100, 114, 111, 112]⟩ : ByteArray), 70⟩ : S37) )) (Reps.c2 (show Kd.M k37 _ _ _ (⟨(⟨#[100, 117, 112]⟩ : ByteArray), 71⟩ : S37) [.string (⟨#[100, 117, 112]⟩ : ByteArray), .int .i64 71] from (k37_mkM _ _ _ (⟨(⟨#[100, 117, 112]⟩ : ByteArray), 71⟩ : S37) )) (Reps.c2 (show Kd.M k37 _ _ _ (⟨(⟨#[111, 118, 101, 114]⟩ : ByteArray), 72⟩ : S37) [.string (⟨#[111, 118, 101, 114]⟩ : ByteArray), .int .i64 72] from (k37_mkM _ _ _ (⟨(⟨#[111, 118, 101, 114]⟩ : ByteArray), 72⟩ : S37) )) (Reps.c2 (show Kd.M k37 _ _ _ (⟨(⟨#[115, 119, 97, 112]⟩ : ByteArray), 73⟩ : S37) [.string (⟨#[115, 119, 97, 112]⟩ : ByteArray), .int .i64 73] from (k37_mkM _ _ _ (⟨(⟨#[115, 119, 97, 112]⟩ : ByteArray), 73⟩ : S37) )) (Reps.c2 (show Kd.M k37 _ _ _ (⟨(⟨#[114, 111, 116]⟩ : ByteArray), 74⟩ : S37) [.string (⟨#[114, 111, 116]⟩ : ByteArray), .int .i64 74] from (k37_mkM _ _ _ (⟨(⟨#[114, 111, 116]⟩ : ByteArray), 74⟩ : S37) )) (Reps.c2 (show Kd.M k37 _ _ _ (⟨(⟨#[45, 114, 111, 116]⟩ : ByteArray), 75⟩ : S37) [.string (⟨#[45, 114, 111, 116]⟩ : ByteArray), .int .i64 75] from (k37_mkM _ _ _ (⟨(⟨#[45, 114, 111, 116]⟩ : ByteArray), 75⟩ : S37) )) (Reps.c2 (show Kd.M k37 _ _ _ (⟨(⟨#[116, 117, 99, 107]⟩ : ByteArray), 76⟩ : S37) [.string (⟨#[116, 117, 99, 107]⟩ : ByteArray), .int .i64 76] from (k37_mkM _ _ _ (⟨(⟨#[116, 117, 99, 107]⟩ : ByteArray), 76⟩ : S37) )) (Reps.c2 (show Kd.M k37 _ _ _ (⟨(⟨#[110, 105, 112]⟩ : ByteArray), 77⟩ : S37) [.string (⟨#[110, 105, 112]⟩ : ByteArray), .int .i64 77] from (k37_mkM _ _ _ (⟨(⟨#[110, 105, 112]⟩ : ByteArray), 77⟩ : S37) )) (Reps.c2 (show Kd.M k37 _ _ _ (⟨(⟨#[112, 105, 99, 107]⟩ : ByteArray), 78⟩ : S37) [.string (⟨#[112, 105, 99, 107]⟩ : ByteArray), .int .i64 78] from (k37_mkM _ _ _ (⟨(⟨#[112, 105, 99, 107]⟩ : ByteArray), 78⟩ : S37) )) (Reps.c2 (show Kd.M k37 _ _ _ (⟨(⟨#[114, 111, 108, 108]⟩ : ByteArray), 79⟩ : S37) [.string (⟨#[114, 111, 108, 108]⟩ : ByteArray), .int .i64 79] from (k37_mkM _ _ _ (⟨(⟨#[114, 111, 108, 108]⟩ : ByteArray), 79⟩ : S37) )) (Reps.c2 (show Kd.M k37 _ _ _ (⟨(⟨#[63, 100, 117, 112]⟩ : ByteArray), 80⟩ : S37) [.string (⟨#[63, 100, 117, 112]⟩ : ByteArray), .int .i64 80] from (k37_mkM _ _ _ (⟨(⟨#[63, 100, 117, 112]⟩ : ByteArray), 80⟩ : S37) )) (Reps.c2 (show Kd.M k37 _ _ _ (⟨(⟨#[100, 101, 112, 116, 104]⟩ : ByteArray), 81⟩ : S37) [.string (⟨#[100, 101, 112, 116, 104]⟩ : ByteArray), .int .i64 81] from (k37_mkM _ _ _ (⟨(⟨#[100, 101, 112, 116, 104]⟩ : ByteArray), 81⟩ : S37) )) (Reps.c2 (show Kd.M k37 _ _ _ (⟨(⟨#[50, 100, 114, 111, 112]⟩ : ByteArray), 82⟩ : S37) [.string (⟨#[50, 100, 114, 111, 112]⟩ : ByteArray), .int .i64 82] from (k37_mkM _ _ _ (⟨(⟨#[50, 100, 114, 111, 112]⟩ : ByteArray), 82⟩ : S37) )) (Reps.c2 (show Kd.M k37 _ _ _ (⟨(⟨#[50, 100, 117, 112]⟩ : ByteArray), 83⟩ : S37) [.string (⟨#[50, 100, 117, 112]⟩ : ByteArray), .int .i64 83] from (k37_mkM _ _ _ (⟨(⟨#[50, 100, 117, 112]⟩ : ByteArray), 83⟩ : S37) )) (Reps.c2 (show Kd.M k37 _ _ _ (⟨(⟨#[50, 111, 118, 101, 114]⟩ : ByteArray), 84⟩ : S37) [.string (⟨#[50, 111, 118, 101, 114]⟩ : ByteArray), .int .i64 84] from (k37_mkM _ _ _ (⟨(⟨#[50, 111, 118, 101, 114]⟩ : ByteArray), 84⟩ : S37) )) (Reps.c2 (show Kd.M k37 _ _ _ (⟨(⟨#[50, 115, 119, 97, 112]⟩ : ByteArray), 85⟩ : S37) [.string (⟨#[50, 115, 119, 97, 112]⟩ : ByteArray), .int .i64 85] from (k37_mkM _ _ _ (⟨(⟨#[50, 115, 119, 97, 112]⟩ : ByteArray), 85⟩ : S37) )) (Reps.c2 (show Kd.M k37 _ _ _ (⟨(⟨#[50, 114, 111, 116]⟩ : ByteArray), 86⟩ : S37) [.string (⟨#[50, 114, 111, 116]⟩ : ByteArray), .int .i64 86] from (k37_mkM _ _ _ (⟨(⟨#[50, 114, 111, 116]⟩ : ByteArray), 86⟩ : S37) )) (Reps.c2 (show Kd.M k37 _ _ _ (⟨(⟨#[50, 47]⟩ : ByteArray), 87⟩ : S37) [.string (⟨#[50, 47]⟩ : ByteArray), .int .i64 87] from (k37_mkM _ _ _ (⟨(⟨#[50, 47]⟩ : ByteArray), 87⟩ : S37) )) (Reps.c2 (show Kd.M k37 _ _ _ (⟨(⟨#[117, 50, 47]⟩ : ByteArray), 88⟩ : S37) [.string (⟨#[117, 50, 47]⟩ : ByteArray), .int .i64 88] from (k37_mkM _ _ _ (⟨(⟨#[117, 50, 47]⟩ : ByteArray), 88⟩ : S37) )) (Reps.c2 (show Kd.M k37 _ _ _ (⟨(⟨#[50, 42]⟩ : ByteArray), 89⟩ : S37) [.string (⟨#[50, 42]⟩ : ByteArray), .int .i64 89] from (k37_mkM _ _ _ (⟨(⟨#[50, 42]⟩ : ByteArray), 89⟩ : S37) )) (Reps.c2 (show Kd.M k37 _ _ _ (⟨(⟨#[43, 33]⟩ : ByteArray), 108⟩ : S37) [.string (⟨#[43, 33]⟩ : ByteArray), .int .i64 108] from (k37_mkM _ _ _ (⟨(⟨#[43, 33]⟩ : ByteArray), 108⟩ : S37) )) (Reps.c2 (show Kd.M k37 _ _ _ (⟨(⟨#[64]⟩ : ByteArray), 109⟩ : S37) [.string (⟨#[64]⟩ : ByteArray), .int .i64 109] from (k37_mkM _ _ _ (⟨(⟨#[64]⟩ : ByteArray), 109⟩ : S37) )) (Reps.c2 (show Kd.M k37 _ _ _ (⟨(⟨#[119, 64]⟩ : ByteArray), 111⟩ : S37) [.string (⟨#[119, 64]⟩ : ByteArray), .int .i64 111] from (k37_mkM _ _ _ (⟨(⟨#[119, 64]⟩ : ByteArray), 111⟩ : S37) )) (Reps.c2 (show Kd.M k37 _ _ _ (⟨(⟨#[99, 64]⟩ : ByteArray), 113⟩ : S37) [.string (⟨#[99, 64]⟩ : ByteArray), .int .i64 113] from (k37_mkM _ _ _ (⟨(⟨#[99, 64]⟩ : ByteArray), 113⟩ : S37) )) (Reps.c2 (show Kd.M k37 _ _ _ (⟨(⟨#[33]⟩ : ByteArray), 114⟩ : S37) [.string (⟨#[33]⟩ : ByteArray), .int .i64 114] from (k37_mkM _ _ _ (⟨(⟨#[33]⟩ : ByteArray), 114⟩ : S37) )) (Reps.c2 (show Kd.M k37 _ _ _ (⟨(⟨#[119, 33]⟩ : ByteArray), 116⟩ : S37) [.string (⟨#[119, 33]⟩ : ByteArray), .int .i64 116] from (k37_mkM _ _ _ (⟨(⟨#[119, 33]⟩ : ByteArray), 116⟩ : S37) )) (Reps.c2 (show Kd.M k37 _ _ _ (⟨(⟨#[99, 33]⟩ : ByteArray), 117⟩ : S37) [.string (⟨#[99, 33]⟩ : ByteArray), .int .i64 117] from (k37_mkM _ _ _ (⟨(⟨#[99, 33]⟩ : ByteArray), 117⟩ : S37) )) (Reps.c2 (show Kd.M k37 _ _ _ (⟨(⟨#[109, 111, 118, 101]⟩ : ByteArray), 120⟩ : S37) [.string (⟨#[109, 111, 118, 101]⟩ : ByteArray), .int .i64 120] from (k37_mkM _ _ _ (⟨(⟨#[109, 111, 118, 101]⟩ : ByteArray), 120⟩ : S37) )) (Reps.c2 (show Kd.M k37 _ _ _ (⟨(⟨#[102, 105, 108, 108]⟩ : ByteArray), 121⟩ : S37) [.string (⟨#[102, 105, 108, 108]⟩ : ByteArray), .int .i64 121] from (k37_mkM _ _ _ (⟨(⟨#[102, 105, 108, 108]⟩ : ByteArray), 121⟩ : S37) )) (Reps.c2 (show Kd.M k37 _ _ _ (⟨(⟨#[99, 111, 109, 112]⟩ : ByteArray), 122⟩ : S37) [.string (⟨#[99, 111, 109, 112]⟩ : ByteArray), .int .i64 122] from (k37_mkM _ _ _ (⟨(⟨#[99, 111, 109, 112]⟩ : ByteArray), 122⟩ : S37) )) (Reps.c2 (show Kd.M k37 _ _ _ (⟨(⟨#[108, 98, 115, 112, 108, 105, 116]⟩ : ByteArray), 126⟩ : S37) [.string (⟨#[108, 98, 115, 112, 108, 105, 116]⟩ : ByteArray), .int .i64 126] from (k37_mkM _ _ _ (⟨(⟨#[108, 98, 115, 112, 108, 105, 116]⟩ : ByteArray), 126⟩ : S37) )) (Reps.c2 (show Kd.M k37 _ _ _ (⟨(⟨#[98, 108, 106, 111, 105, 110]⟩ : ByteArray), 127⟩ : S37) [.string (⟨#[98, 108, 106, 111, 105, 110]⟩ : ByteArray), .int .i64 127] from (k37_mkM _ _ _ (⟨(⟨#[98, 108, 106, 111, 105, 110]⟩ : ByteArray), 127⟩ : S37) )) (Reps.c2 (show Kd.M k37 _ _ _ (⟨(⟨#[119, 98, 102, 108, 105, 112]⟩ : ByteArray), 128⟩ : S37) [.string (⟨#[119, 98, 102, 108, 105, 112]⟩ : ByteArray), .int .i64 128] from (k37_mkM _ _ _ (⟨(⟨#[119, 98, 102, 108, 105, 112]⟩ : ByteArray), 128⟩ : S37) )) (Reps.c2 (show Kd.M k37 _ _ _ (⟨(⟨#[117, 112, 99]⟩ : ByteArray), 129⟩ : S37) [.string (⟨#[117, 112, 99]⟩ : ByteArray), .int .i64 129] from (k37_mkM _ _ _ (⟨(⟨#[117, 112, 99]⟩ : ByteArray), 129⟩ : S37) )) (Reps.c2 (show Kd.M k37 _ _ _ (⟨(⟨#[108, 99, 99]⟩ : ByteArray), 130⟩ : S37) [.string (⟨#[108, 99, 99]⟩ : ByteArray), .int .i64 130] from (k37_mkM _ _ _ (⟨(⟨#[108, 99, 99]⟩ : ByteArray), 130⟩ : S37) )) (Reps.c2 (show Kd.M k37 _ _ _ (⟨(⟨#[117, 110, 108, 111, 111, 112]⟩ : ByteArray), 137⟩ : S37) [.string (⟨#[117, 110, 108, 111, 111, 112]⟩ : ByteArray), .int .i64 137] from (k37_mkM _ _ _ (⟨(⟨#[117, 110, 108, 111, 111, 112]⟩ : ByteArray), 137⟩ : S37) )) (Reps.c2 (show Kd.M k37 _ _ _ (⟨(⟨#[97, 108, 108, 111, 99, 45, 109, 101, 109]⟩ : ByteArray), 139⟩ : S37) [.string (⟨#[97, 108, 108, 111, 99, 45, 109, 101, 109]⟩ : ByteArray), .int .i64 139] from (k37_mkM _ _ _ (⟨(⟨#[97, 108, 108, 111, 99, 45, 109, 101, 109]⟩ : ByteArray), 139⟩ : S37) )) (Reps.c2 (show Kd.M k37 _ _ _ (⟨(⟨#[101, 109, 105, 116]⟩ : ByteArray), 143⟩ : S37) [.string (⟨#[101, 109, 105, 116]⟩ : ByteArray), .int .i64 143] from (k37_mkM _ _ _ (⟨(⟨#[101, 109, 105, 116]⟩ : ByteArray), 143⟩ : S37) )) (Reps.c2 (show Kd.M k37 _ _ _ (⟨(⟨#[116, 121, 112, 101]⟩ : ByteArray), 144⟩ : S37) [.string (⟨#[116, 121, 112, 101]⟩ : ByteArray), .int .i64 144] from (k37_mkM _ _ _ (⟨(⟨#[116, 121, 112, 101]⟩ : ByteArray), 144⟩ : S37) )) (Reps.c2 (show Kd.M k37 _ _ _ (⟨(⟨#[99, 114]⟩ : ByteArray), 146⟩ : S37) [.string (⟨#[99, 114]⟩ : ByteArray), .int .i64 146] from (k37_mkM _ _ _ (⟨(⟨#[99, 114]⟩ : ByteArray), 146⟩ : S37) )) (Reps.c2 (show Kd.M k37 _ _ _ (⟨(⟨#[117, 46]⟩ : ByteArray), 155⟩ : S37) [.string (⟨#[117, 46]⟩ : ByteArray), .int .i64 155] from (k37_mkM _ _ _ (⟨(⟨#[117, 46]⟩ : ByteArray), 155⟩ : S37) )) (Reps.c2 (show Kd.M k37 _ _ _ (⟨(⟨#[46]⟩ : ByteArray), 157⟩ : S37) [.string (⟨#[46]⟩ : ByteArray), .int .i64 157] from (k37_mkM _ _ _ (⟨(⟨#[46]⟩ : ByteArray), 157⟩ : S37) )) (Reps.c2 (show Kd.M k37 _ _ _ (⟨(⟨#[98, 97, 115, 101, 33]⟩ : ByteArray), 160⟩ : S37) [.string (⟨#[98, 97, 115, 101, 33]⟩ : ByteArray), .int .i64 160] from (k37_mkM _ _ _ (⟨(⟨#[98, 97, 115, 101, 33]⟩ : ByteArray), 160⟩ : S37) )) (Reps.c2 (show Kd.M k37 _ _ _ (⟨(⟨#[45, 49]⟩ : ByteArray), 164⟩ : S37) [.string (⟨#[45, 49]⟩ : ByteArray), .int .i64 164] from (k37_mkM _ _ _ (⟨(⟨#[45, 49]⟩ : ByteArray), 164⟩ : S37) )) (Reps.c2 (show Kd.M k37 _ _ _ (⟨(⟨#[48]⟩ : ByteArray), 165⟩ : S37) [.string (⟨#[48]⟩ : ByteArray), .int .i64 165] from (k37_mkM _ _ _ (⟨(⟨#[48]⟩ : ByteArray), 165⟩ : S37) )) (Reps.c2 (show Kd.M k37 _ _ _ (⟨(⟨#[49]⟩ : ByteArray), 166⟩ : S37) [.string (⟨#[49]⟩ : ByteArray), .int .i64 166] from (k37_mkM _ _ _ (⟨(⟨#[49]⟩ : ByteArray), 166⟩ : S37) )) (Reps.c2 (show Kd.M k37 _ _ _ (⟨(⟨#[50]⟩ : ByteArray), 167⟩ : S37) [.string (⟨#[50]⟩ : ByteArray), .int .i64 167] from (k37_mkM _ _ _ (⟨(⟨#[50]⟩ : ByteArray), 167⟩ : S37) )) (Reps.c2 (show Kd.M k37 _ _ _ (⟨(⟨#[51]⟩ : ByteArray), 168⟩ : S37) [.string (⟨#[51]⟩ : ByteArray), .int .i64 168] from (k37_mkM _ _ _ (⟨(⟨#[51]⟩ : ByteArray), 168⟩ : S37) )) (Reps.c2 (show Kd.M k37 _ _ _ (⟨(⟨#[98, 108]⟩ : ByteArray), 169⟩ : S37) [.string (⟨#[98, 108]⟩ : ByteArray), .int .i64 169] from (k37_mkM _ _ _ (⟨(⟨#[98, 108]⟩ : ByteArray), 169⟩ : S37) )) (Reps.c2 (show Kd.M k37 _ _ _ (⟨(⟨#[104, 101, 114, 101]⟩ : ByteArray), 173⟩ : S37) [.string (⟨#[104, 101, 114, 101]⟩ : ByteArray), .int .i64 173] from (k37_mkM _ _ _ (⟨(⟨#[104, 101, 114, 101]⟩ : ByteArray), 173⟩ : S37) )) (Reps.c2 (show Kd.M k37 _ _ _ (⟨(⟨#[117, 109, 42]⟩ : ByteArray), 212⟩ : S37) [.string (⟨#[117, 109, 42]⟩ : ByteArray), .int .i64 212] from (k37_mkM _ _ _ (⟨(⟨#[117, 109, 42]⟩ : ByteArray), 212⟩ : S37) )) (Reps.c2 (show Kd.M k37 _ _ _ (⟨(⟨#[117, 109, 47, 109, 111, 100]⟩ : ByteArray), 213⟩ : S37) [.string (⟨#[117, 109, 47, 109, 111, 100]⟩ : ByteArray), .int .i64 213] from (k37_mkM _ _ _ (⟨(⟨#[117, 109, 47, 109, 111, 100]⟩ : ByteArray), 213⟩ : S37) )) (Reps.c2 (show Kd.M k37 _ _ _ (⟨(⟨#[100, 43]⟩ : ByteArray), 216⟩ : S37) [.string (⟨#[100, 43]⟩ : ByteArray), .int .i64 216] from (k37_mkM _ _ _ (⟨(⟨#[100, 43]⟩ : ByteArray), 216⟩ : S37) )) (Reps.c2 (show Kd.M k37 _ _ _ (⟨(⟨#[100, 45]⟩ : ByteArray), 217⟩ : S37) [.string (⟨#[100, 45]⟩ : ByteArray), .int .i64 217] from (k37_mkM _ _ _ (⟨(⟨#[100, 45]⟩ : ByteArray), 217⟩ : S37) )) (Reps.c2 (show Kd.M k37 _ _ _ (⟨(⟨#[112, 114, 111, 112, 101, 114, 116, 121]⟩ : ByteArray), 272⟩ : S37) [.string (⟨#[112, 114, 111, 112, 101, 114, 116, 121]⟩ : ByteArray), .int .i64 272] from (k37_mkM _ _ _ (⟨(⟨#[112, 114, 111, 112, 101, 114, 116, 121]⟩ : ByteArray), 272⟩ : S37) )) (Reps.c2 (show Kd.M k37 _ _ _ (⟨(⟨#[101, 110, 99, 111, 100, 101, 45, 105, 110, 116]⟩ : ByteArray), 273⟩ : S37) [.string (⟨#[101, 110, 99, 111, 100, 101, 45, 105, 110, 116]⟩ : ByteArray), .int .i64 273] from (k37_mkM _ _ _ (⟨(⟨#[101, 110, 99, 111, 100, 101, 45, 105, 110, 116]⟩ : ByteArray), 273⟩ : S37) )) (Reps.c2 (show Kd.M k37 _ _ _ (⟨(⟨#[101, 110, 99, 111, 100, 101, 43]⟩ : ByteArray), 274⟩ : S37) [.string (⟨#[101, 110, 99, 111, 100, 101, 43]⟩ : ByteArray), .int .i64 274] from (k37_mkM _ _ _ (⟨(⟨#[101, 110, 99, 111, 100, 101, 43]⟩ : ByteArray), 274⟩ : S37) )) (Reps.c2 (show Kd.M k37 _ _ _ (⟨(⟨#[101, 110, 99, 111, 100, 101, 45, 115, 116, 114, 105, 110, 103]⟩ : ByteArray), 276⟩ : S37) [.string (⟨#[101, 110, 99, 111, 100, 101, 45, 115, 116, 114, 105, 110, 103]⟩ : ByteArray), .int .i64 276] from (k37_mkM _ _ _ (⟨(⟨#[101, 110, 99, 111, 100, 101, 45, 115, 116, 114, 105, 110, 103]⟩ : ByteArray), 276⟩ : S37) )) (Reps.c2 (show Kd.M k37 _ _ _ (⟨(⟨#[110, 101, 119, 45, 100, 101, 118, 105, 99, 101]⟩ : ByteArray), 287⟩ : S37) [.string (⟨#[110, 101, 119, 45, 100, 101, 118, 105, 99, 101]⟩ : ByteArray), .int .i64 287] from (k37_mkM _ _ _ (⟨(⟨#[110, 101, 119, 45, 100, 101, 118, 105, 99, 101]⟩ : ByteArray), 287⟩ : S37) )) (Reps.c2 (show Kd.M k37 _ _ _ (⟨(⟨#[102, 105, 110, 105, 115, 104, 45, 100, 101, 118, 105, 99, 101]⟩ : ByteArray), 295⟩ : S37) [.string (⟨#[102, 105, 110, 105, 115, 104, 45, 100, 101, 118, 105, 99, 101]⟩ : ByteArray), .int .i64 295] from (k37_mkM _ _ _ (⟨(⟨#[102, 105, 110, 105, 115, 104, 45, 100, 101, 118, 105, 99, 101]⟩ : ByteArray), 295⟩ : S37) )) (Reps.c2 (show Kd.M k37 _ _ _ (⟨(⟨#[115, 109, 47, 114, 101, 109]⟩ : ByteArray), 469⟩ : S37) [.string (⟨#[115, 109, 47, 114, 101, 109]⟩ : ByteArray), .int .i64 469] from (k37_mkM _ _ _ (⟨(⟨#[115, 109, 47, 114, 101, 109]⟩ : ByteArray), 469⟩ : S37) )) (Reps.c2 (show Kd.M k37 _ _ _ (⟨(⟨#[109, 121, 45, 115, 101, 108, 102]⟩ : ByteArray), 515⟩ : S37) [.string (⟨#[109, 121, 45, 115, 101, 108, 102]⟩ : ByteArray), .int .i64 515] from (k37_mkM _ _ _ (⟨(⟨#[109, 121, 45, 115, 101, 108, 102]⟩ : ByteArray), 515⟩ : S37) )) (Reps.c2 (show Kd.M k37 _ _ _ (⟨(⟨#[109, 121, 45, 112, 97, 114, 101, 110, 116]⟩ : ByteArray), 522⟩ : S37) [.string (⟨#[109, 121, 45, 112, 97, 114, 101, 110, 116]⟩ : ByteArray), .int .i64 522] from (k37_mkM _ _ _ (⟨(⟨#[109, 121, 45, 112, 97, 114, 101, 110, 116]⟩ : ByteArray), 522⟩ : S37) )) (Reps.c2 (show Kd.M k37 _ _ _ (⟨(⟨#[36, 99, 97, 108, 108, 45, 109, 101, 116, 104, 111, 100]⟩ : ByteArray), 526⟩ : S37) [.string (⟨#[36, 99, 97, 108, 108, 45, 109, 101, 116, 104, 111, 100]⟩ : ByteArray), .int .i64 526] from (k37_mkM _ _ _ (⟨(⟨#[36, 99, 97, 108, 108, 45, 109, 101, 116, 104, 111, 100]⟩ : ByteArray), 526⟩ : S37) )) (Reps.c2 (show Kd.M k37 _ _ _ (⟨(⟨#[99, 97, 116, 99, 104]⟩ : ByteArray), 535⟩ : S37) [.string (⟨#[99, 97, 116, 99, 104]⟩ : ByteArray), .int .i64 535] from (k37_mkM _ _ _ (⟨(⟨#[99, 97, 116, 99, 104]⟩ : ByteArray), 535⟩ : S37) )) (Reps.c2 (show Kd.M k37 _ _ _ (⟨(⟨#[116, 104, 114, 111, 119]⟩ : ByteArray), 536⟩ : S37) [.string (⟨#[116, 104, 114, 111, 119]⟩ : ByteArray), .int .i64 536] from (k37_mkM _ _ _ (⟨(⟨#[116, 104, 114, 111, 119]⟩ : ByteArray), 536⟩ : S37) )) (Reps.c2 (show Kd.M k37 _ _ _ (⟨(⟨#[103, 101, 116, 45, 109, 121, 45, 112, 114, 111, 112, 101, 114, 116, 121]⟩ : ByteArray), 538⟩ : S37) [.string (⟨#[103, 101, 116, 45, 109, 121, 45, 112, 114, 111, 112, 101, 114, 116, 121]⟩ : ByteArray), .int .i64 538] from (k37_mkM _ _ _ (⟨(⟨#[103, 101, 116, 45, 109, 121, 45, 112, 114, 111, 112, 101, 114, 116, 121]⟩ : ByteArray), 538⟩ : S37) )) (Reps.c2 (show Kd.M k37 _ _ _ (⟨(⟨#[100, 101, 99, 111, 100, 101, 45, 105, 110, 116]⟩ : ByteArray), 539⟩ : S37) [.string (⟨#[100, 101, 99, 111, 100, 101, 45, 105, 110, 116]⟩ : ByteArray), .int .i64 539] from (k37_mkM _ _ _ (⟨(⟨#[100, 101, 99, 111, 100, 101, 45, 105, 110, 116]⟩ : ByteArray), 539⟩ : S37) )) (Reps.c2 (show Kd.M k37 _ _ _ (⟨(⟨#[100, 101, 99, 111, 100, 101, 45, 115, 116, 114, 105, 110, 103]⟩ : ByteArray), 540⟩ : S37) [.string (⟨#[100, 101, 99, 111, 100, 101, 45, 115, 116, 114, 105, 110, 103]⟩ : ByteArray), .int .i64 540] from (k37_mkM _ _ _ (⟨(⟨#[100, 101, 99, 111, 100, 101, 45, 115, 116, 114, 105, 110, 103]⟩ : ByteArray), 540⟩ : S37) )) (Reps.c2 (show Kd.M k37 _ _ _ (⟨(⟨#[100, 101, 108, 101, 116, 101, 45, 112, 114, 111, 112, 101, 114, 116, 121]⟩ : ByteArray), 542⟩ : S37) [.string (⟨#[100, 101, 108, 101, 116, 101, 45, 112, 114, 111, 112, 101, 114, 116, 121]⟩ : ByteArray), .int .i64 542] from (k37_mkM _ _ _ (⟨(⟨#[100, 101, 108, 101, 116, 101, 45, 112, 114, 111, 112, 101, 114, 116, 121]⟩ : ByteArray), 542⟩ : S37) )) (Reps.c2 (show Kd.M k37 _ _ _ (⟨(⟨#[102, 109, 47, 109, 111, 100]⟩ : ByteArray), 725⟩ : S37) [.string (⟨#[102, 109, 47, 109, 111, 100]⟩ : ByteArray), .int .i64 725] from (k37_mkM _ _ _ (⟨(⟨#[102, 109, 47, 109, 111, 100]⟩ : ByteArray), 725⟩ : S37) )) (Reps.none _ _))))))))))))))))))))))))))))))))))))))))))))))))))))))))))))))))))))))))))))))))))))))))))))))))))))))))))))))))); intro v16002 w1 ho2 hb hg_ hnew_; clear hg_ hnew_; (first | rw [← Ny16001.out] at ho2 | (simp only [Int.reduceToNat] at ho2; rw [← Ny16001.out] at ho2)); have n0_ := Aside0.mk (Kd.R_lower ho2 (below_size (by repeat (first | (with_reducible first | exact HB.out | apply below_alloc | apply pw_below_drewN | apply below_drew1) | exact HB.out)))); have n1_ := Aside0.mk (below_step (by repeat (first | (with_reducible first | exact HB.out | apply below_alloc | apply pw_below_drewN | apply below_drew1) | exact HB.out)) hb); clear HB; have HO16003 := n0_; have HB := n1_; clear n0_ n1_; clear hb ho2))
  go_ret
  exact ⟨_, by first | rfl | (simp [errW_none, errW_some] <;> rfl) | (simp [*, errW_none, errW_some] <;> rfl), by (with_reducible repeat (first | apply Kd.R_alloc | apply Kd.R_drewN | apply Kd.R_drew)); exact HO16003.out, by repeat (first | (with_reducible first | exact HB.out | apply below_alloc | apply pw_below_drewN | apply below_drew1) | exact HB.out)⟩

end Go.Proofs.Ytfpkakedlapmkaa.Q
end
