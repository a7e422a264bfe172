/- Contracts of Go functions and plain facts, of several texts, one behind the other; no condition. -/
import Derived.Test.YtfpkakedlapmkaaMDictForms2
import Derived.Test.YtfpkakedlapmkaaMDictForms3
import Derived.Test.YtfpkakedlapmkaaMDictForms7
import Derived.Test.YtfpkakedlapmkaaMDictForms4
import Derived.Test.YtfpkakedlapmkaaMDictForms6
section
namespace Go.Proofs.Ytfpkakedlapmkaa.Q
open Go.RowKit Go.Proofs.YtfpkakedlapmkaaW.PrintWords Go.Proofs.YtfpkakedlapmkaaW.PrintLast Go.Proofs.YtfpkakedlapmkaaW.PrintMore
set_option linter.unusedVariables false
set_option linter.unusedSimpArgs false

attribute [local go_sem] max2_int min2_int max_two min_two max_three min_three max_four min_four
/-! ### tinderref09_wordFormed: function 53 -/
def tinderref09_wordFormed.j0 : Nat → Int → List (S91) → Bool → ByteArray → Int → Int → Int → List (S69) → Option (Bool)
 | 0, _, _, _, _, _, _, _, _ => none
 | k + 1, x1, x2, x37, x54002000, x54002001, x54002002, x54002003, x54002004 => if x37 = true then (some false) else (if x54002002 = 2 then (if x54002003 = 0 then ((tinderref09_Sound.f k x54002004 x1).bind fun t54003 => (some t54003)) else (some false)) else (if x54002002 = 6 then (if (wrap64 (x54002003)) ≥ x1 then (some false) else (some ((x54002004.length : Int) == 0))) else (if x54002002 = 7 then (if x54002001 < 0 then (some false) else (if 0 ≤ x54002001 then (if x54002001 < (x2.length : Int) then (if (wrap64 (x54002003)) ≥ (((rd_T91 x2 x54002001).f4).length : Int) then (some false) else (some ((x54002004.length : Int) == 0))) else (none)) else (none))) else (some ((x54002004.length : Int) == 0)))))
def tinderref09_wordFormed.f (k : Nat) (a0_0 : ByteArray) (a0_1 : Int) (a0_2 : Int) (a0_3 : Int) (l0_4 : List (S69)) (a1 : Int) (l2 : List (S91)) : Option (Bool) := if a0_2 < 2 then (tinderref09_wordFormed.j0 k a1 l2 true a0_0 a0_1 a0_2 a0_3 l0_4) else (if a0_2 > 7 then (tinderref09_wordFormed.j0 k a1 l2 true a0_0 a0_1 a0_2 a0_3 l0_4) else (if a0_0.toList = ([] : List UInt8) then (if a0_1 < (-1) then (tinderref09_wordFormed.j0 k a1 l2 true a0_0 a0_1 a0_2 a0_3 l0_4) else (tinderref09_wordFormed.j0 k a1 l2 (decide (a0_1 ≥ (l2.length : Int))) a0_0 a0_1 a0_2 a0_3 l0_4)) else ((tinderref09_Named.f k a0_0).bind fun t54002 => (if t54002 = true then (if a0_1 < (-1) then (tinderref09_wordFormed.j0 k a1 l2 true a0_0 a0_1 a0_2 a0_3 l0_4) else (tinderref09_wordFormed.j0 k a1 l2 (decide (a0_1 ≥ (l2.length : Int))) a0_0 a0_1 a0_2 a0_3 l0_4)) else (tinderref09_wordFormed.j0 k a1 l2 true a0_0 a0_1 a0_2 a0_3 l0_4)))))
set_option maxHeartbeats 8000000 in
set_option maxRecDepth 100000 in
theorem tinderref09_wordFormed.calls (k : Nat) (a0_0 : ByteArray) (a0_1 : Int) (a0_2 : Int) (a0_3 : Int) (A0_4 : Option Addr) (c0_4 : Nat) (l0_4 : List (S69)) (a1 : Int) (A2 : Option Addr) (c2 : Nat) (l2 : List (S91)) (r : Bool) (w : World) (hr0_4 : Kd.C k69 w A0_4 l0_4.length l0_4) (hc0_4 : l0_4.length ≤ c0_4) (hr2 : Kd.C k91 w A2 l2.length l2) (hc2 : l2.length ≤ c2) (h : tinderref09_wordFormed.f k a0_0 a0_1 a0_2 a0_3 l0_4 a1 l2 = some r) :
  Calls Try.prog 53 #[.agg #[.string a0_0, .int .i64 a0_1, .int .i64 a0_2, .int .u32 a0_3, .slice A0_4 l0_4.length c0_4], .int .i64 a1, .slice A2 l2.length c2] w fun e w' => e = .returned (.bool r) ∧ Below w.heap.size w w' := by
 have hu51 := Try.underlying51
 have HR0_4 := Aside0.mk hr0_4
 have HC0_4 := Aside0.mk hc0_4
 clear hr0_4 hc0_4
 have HR2 := Aside0.mk hr2
 have HC2 := Aside0.mk hc2
 clear hr2 hc2
 have HB := Aside0.mk (Below.refl w.heap.size w)
 have H : (if a0_2 < 2 then (tinderref09_wordFormed.j0 k a1 l2 true a0_0 a0_1 a0_2 a0_3 l0_4) else (if a0_2 > 7 then (tinderref09_wordFormed.j0 k a1 l2 true a0_0 a0_1 a0_2 a0_3 l0_4) else (if a0_0.toList = ([] : List UInt8) then (if a0_1 < (-1) then (tinderref09_wordFormed.j0 k a1 l2 true a0_0 a0_1 a0_2 a0_3 l0_4) else (tinderref09_wordFormed.j0 k a1 l2 (decide (a0_1 ≥ (l2.length : Int))) a0_0 a0_1 a0_2 a0_3 l0_4)) else ((tinderref09_Named.f k a0_0).bind fun t54002 => (if t54002 = true then (if a0_1 < (-1) then (tinderref09_wordFormed.j0 k a1 l2 true a0_0 a0_1 a0_2 a0_3 l0_4) else (tinderref09_wordFormed.j0 k a1 l2 (decide (a0_1 ≥ (l2.length : Int))) a0_0 a0_1 a0_2 a0_3 l0_4)) else (tinderref09_wordFormed.j0 k a1 l2 true a0_0 a0_1 a0_2 a0_3 l0_4)))))) = some r := h
 clear h
 have HC4 := Aside0.mk H
 clear H
 go_enter Try.func53, Try.ntmps53
 go_upto_region 1 with (first | ((with_reducible refine gate_dst (N := 3) rfl ?_); (try (refine gate_guard (by rfl) ?_; dsimp only)); refine box_event ?hg (N := 3) ?hd (cs := #[.string a0_0, .int .i64 a0_1, .int .i64 a0_2, .int .u32 a0_3, .slice A0_4 l0_4.length c0_4]) (t := 51) ?hr ?_; (case hd => rfl); (case hg => rfl); (case hr => first | (go_simp; done) | (go_simp; rfl)); intro gb54001 hg w5 hbox hb; have n0_ := Aside0.mk (below_step (by repeat (first | (with_reducible first | exact HB.out | apply below_alloc | apply pw_below_drewN | apply below_drew1) | exact HB.out)) hb); have n1_ := Aside0.mk (hbox); have n2_ := Aside0.mk ((by rw [hg]; exact (below_size (by repeat (first | (with_reducible first | exact HB.out | apply below_alloc | apply pw_below_drewN | apply below_drew1) | exact HB.out))) : w.heap.size ≤ gb54001)); have n3_ := Aside0.mk ((by rw [hg]; exact (below_size (by repeat (first | (with_reducible first | exact HB.out | apply below_alloc | apply pw_below_drewN | apply below_drew1) | exact HB.out))) : w.heap.size ≤ gb54001)); clear HB; have HB := n0_; have BK54001 := n1_; have GW54001 := n2_; have GE54001 := n3_; clear n0_ n1_ n2_ n3_; clear hb hbox hg))
 repeat (go_quiet (first | ((with_reducible refine gate_dst (N := 3) rfl ?_); (try (refine gate_guard (by rfl) ?_; dsimp only)); refine box_event ?hg (N := 3) ?hd (cs := #[.string a0_0, .int .i64 a0_1, .int .i64 a0_2, .int .u32 a0_3, .slice A0_4 l0_4.length c0_4]) (t := 51) ?hr ?_; (case hd => rfl); (case hg => rfl); (case hr => first | (go_simp; done) | (go_simp; rfl)); intro gb54001 hg w5 hbox hb; have n0_ := Aside0.mk (below_step (by repeat (first | (with_reducible first | exact HB.out | apply below_alloc | apply pw_below_drewN | apply below_drew1) | exact HB.out)) hb); have n1_ := Aside0.mk (hbox); have n2_ := Aside0.mk ((by rw [hg]; exact (below_size (by repeat (first | (with_reducible first | exact HB.out | apply below_alloc | apply pw_below_drewN | apply below_drew1) | exact HB.out))) : w.heap.size ≤ gb54001)); have n3_ := Aside0.mk ((by rw [hg]; exact (below_size (by repeat (first | (with_reducible first | exact HB.out | apply below_alloc | apply pw_below_drewN | apply below_drew1) | exact HB.out))) : w.heap.size ≤ gb54001)); clear HB; have HB := n0_; have BK54001 := n1_; have GW54001 := n2_; have GE54001 := n3_; clear n0_ n1_ n2_ n3_; clear hb hbox hg)); go_upto_region 1 with (first | ((with_reducible refine gate_dst (N := 3) rfl ?_); (try (refine gate_guard (by rfl) ?_; dsimp only)); refine box_event ?hg (N := 3) ?hd (cs := #[.string a0_0, .int .i64 a0_1, .int .i64 a0_2, .int .u32 a0_3, .slice A0_4 l0_4.length c0_4]) (t := 51) ?hr ?_; (case hd => rfl); (case hg => rfl); (case hr => first | (go_simp; done) | (go_simp; rfl)); intro gb54001 hg w5 hbox hb; have n0_ := Aside0.mk (below_step (by repeat (first | (with_reducible first | exact HB.out | apply below_alloc | apply pw_below_drewN | apply below_drew1) | exact HB.out)) hb); have n1_ := Aside0.mk (hbox); have n2_ := Aside0.mk ((by rw [hg]; exact (below_size (by repeat (first | (with_reducible first | exact HB.out | apply below_alloc | apply pw_below_drewN | apply below_drew1) | exact HB.out))) : w.heap.size ≤ gb54001)); have n3_ := Aside0.mk ((by rw [hg]; exact (below_size (by repeat (first | (with_reducible first | exact HB.out | apply below_alloc | apply pw_below_drewN | apply below_drew1) | exact HB.out))) : w.heap.size ≤ gb54001)); clear HB; have HB := n0_; have BK54001 := n1_; have GW54001 := n2_; have GE54001 := n3_; clear n0_ n1_ n2_ n3_; clear hb hbox hg)))
 (try simp only [Act.put, List.setIfInBounds_toArray, List.set_cons_zero, List.set_cons_succ])
 go_cut [37] (fun v37 wc => ∃ (kq : Nat) (x37_3 : Bool), v37 = .bool x37_3 ∧ Aside0 (tinderref09_wordFormed.j0 kq a1 l2 x37_3 a0_0 a0_1 a0_2 a0_3 l0_4 = some r) ∧ Aside0 (kq ≤ k) ∧ Aside0 (wc.heap[gb54001]? = some (.cells #[.string a0_0, .int .i64 a0_1, .int .i64 a0_2, .int .u32 a0_3, (.slice A0_4 l0_4.length c0_4)] 51 (0, 0))) ∧ Aside0 (Below w.heap.size w wc))
 case first =>
  have H := HC4.out
  clear HC4
  by_cases c6 : a0_2 < 2
  ·rw [if_pos c6] at H
   have c6b0 : decide (a0_2 < 2) = true := decide_eq_true c6
   clear c6
   (first | rw [c6b0] | (simp only [i64_w, i32_w]; rw [c6b0]) | skip)
   have H' := Aside0.mk H
   clear H
   have hcz7_0 : w5.cell? ⟨gb54001, 0, none⟩ = some (.string a0_0) := (blk_cell BK54001.out 0).trans rfl
   have hcz7_1 : w5.cell? ⟨gb54001, 1, none⟩ = some (.int .i64 a0_1) := (blk_cell BK54001.out 1).trans rfl
   have hcz7_2 : w5.cell? ⟨gb54001, 2, none⟩ = some (.int .i64 a0_2) := (blk_cell BK54001.out 2).trans rfl
   have hcz7_3 : w5.cell? ⟨gb54001, 3, none⟩ = some (.int .u32 a0_3) := (blk_cell BK54001.out 3).trans rfl
   have hcz7_4 : w5.cell? ⟨gb54001, 4, none⟩ = some (.slice A0_4 l0_4.length c0_4) := (blk_cell BK54001.out 4).trans rfl
   have hfz7_0 := blk_frozen BK54001.out 0
   have hfz7_1 := blk_frozen BK54001.out 1
   have hfz7_2 := blk_frozen BK54001.out 2
   have hfz7_3 := blk_frozen BK54001.out 3
   have hfz7_4 := blk_frozen BK54001.out 4
   go_wp2
   repeat (go_quiet (fail); try go_wp2)
   go_meet
   case rel => exact ⟨_, (true), (by first | rfl | (simp; done) | (simp [*]; done)), H', ⟨by first | omega | exact Nat.le_refl _⟩, ⟨by (with_reducible repeat (first | refine blk_drewN ?_ _ | refine blk_drew ?_ | refine blk_alloc ?_ _)); exact BK54001.out⟩, ⟨by repeat (first | (with_reducible first | exact HB.out | apply below_alloc | apply pw_below_drewN | apply below_drew1 | refine below_set ?_ GE54001.out) | exact HB.out)⟩⟩
  ·rw [if_neg c6] at H
   have c6b0 : decide (a0_2 < 2) = false := decide_eq_false c6
   clear c6
   (first | rw [c6b0] | (simp only [i64_w, i32_w]; rw [c6b0]) | skip)
   by_cases c8 : a0_2 > 7
   ·rw [if_pos c8] at H
    have c8b0 : decide (7 < a0_2) = true := decide_eq_true c8
    clear c8
    have H' := Aside0.mk H
    clear H
    have hcz9_0 : w5.cell? ⟨gb54001, 0, none⟩ = some (.string a0_0) := (blk_cell BK54001.out 0).trans rfl
    have hcz9_1 : w5.cell? ⟨gb54001, 1, none⟩ = some (.int .i64 a0_1) := (blk_cell BK54001.out 1).trans rfl
    have hcz9_2 : w5.cell? ⟨gb54001, 2, none⟩ = some (.int .i64 a0_2) := (blk_cell BK54001.out 2).trans rfl
    have hcz9_3 : w5.cell? ⟨gb54001, 3, none⟩ = some (.int .u32 a0_3) := (blk_cell BK54001.out 3).trans rfl
    have hcz9_4 : w5.cell? ⟨gb54001, 4, none⟩ = some (.slice A0_4 l0_4.length c0_4) := (blk_cell BK54001.out 4).trans rfl
    have hfz9_0 := blk_frozen BK54001.out 0
    have hfz9_1 := blk_frozen BK54001.out 1
    have hfz9_2 := blk_frozen BK54001.out 2
    have hfz9_3 := blk_frozen BK54001.out 3
    have hfz9_4 := blk_frozen BK54001.out 4
    go_wp2
    repeat (go_quiet (fail); try go_wp2)
    go_meet
    case rel => exact ⟨_, (true), (by first | rfl | (simp; done) | (simp [*]; done)), H', ⟨by first | omega | exact Nat.le_refl _⟩, ⟨by (with_reducible repeat (first | refine blk_drewN ?_ _ | refine blk_drew ?_ | refine blk_alloc ?_ _)); exact BK54001.out⟩, ⟨by repeat (first | (with_reducible first | exact HB.out | apply below_alloc | apply pw_below_drewN | apply below_drew1 | refine below_set ?_ GE54001.out) | exact HB.out)⟩⟩
   ·rw [if_neg c8] at H
    have c8b0 : decide (7 < a0_2) = false := decide_eq_false c8
    clear c8
    by_cases c10 : a0_0.toList = ([] : List UInt8)
    ·rw [if_pos c10] at H
     have c10b0 : (a0_0.toList == ([] : List UInt8)) = true := beq_iff_eq.mpr c10
     have c10b1 : (a0_0.toList != ([] : List UInt8)) = false := bne_eq_false_iff_eq.mpr c10
     clear c10
     by_cases c11 : a0_1 < (-1)
     ·rw [if_pos c11] at H
      have c11b0 : decide (a0_1 < (-1)) = true := decide_eq_true c11
      clear c11
      have H' := Aside0.mk H
      clear H
      have hcz12_0 : w5.cell? ⟨gb54001, 0, none⟩ = some (.string a0_0) := (blk_cell BK54001.out 0).trans rfl
      have hcz12_1 : w5.cell? ⟨gb54001, 1, none⟩ = some (.int .i64 a0_1) := (blk_cell BK54001.out 1).trans rfl
      have hcz12_2 : w5.cell? ⟨gb54001, 2, none⟩ = some (.int .i64 a0_2) := (blk_cell BK54001.out 2).trans rfl
      have hcz12_3 : w5.cell? ⟨gb54001, 3, none⟩ = some (.int .u32 a0_3) := (blk_cell BK54001.out 3).trans rfl
      have hcz12_4 : w5.cell? ⟨gb54001, 4, none⟩ = some (.slice A0_4 l0_4.length c0_4) := (blk_cell BK54001.out 4).trans rfl
      have hfz12_0 := blk_frozen BK54001.out 0
      have hfz12_1 := blk_frozen BK54001.out 1
      have hfz12_2 := blk_frozen BK54001.out 2
      have hfz12_3 := blk_frozen BK54001.out 3
      have hfz12_4 := blk_frozen BK54001.out 4
      go_wp2
      repeat (go_quiet (fail); try go_wp2)
      go_meet
      case rel => exact ⟨_, (true), (by first | rfl | (simp; done) | (simp [*]; done)), H', ⟨by first | omega | exact Nat.le_refl _⟩, ⟨by (with_reducible repeat (first | refine blk_drewN ?_ _ | refine blk_drew ?_ | refine blk_alloc ?_ _)); exact BK54001.out⟩, ⟨by repeat (first | (with_reducible first | exact HB.out | apply below_alloc | apply pw_below_drewN | apply below_drew1 | refine below_set ?_ GE54001.out) | exact HB.out)⟩⟩
     ·rw [if_neg c11] at H
      have c11b0 : decide (a0_1 < (-1)) = false := decide_eq_false c11
      clear c11
      have H' := Aside0.mk H
      clear H
      have hcz13_0 : w5.cell? ⟨gb54001, 0, none⟩ = some (.string a0_0) := (blk_cell BK54001.out 0).trans rfl
      have hcz13_1 : w5.cell? ⟨gb54001, 1, none⟩ = some (.int .i64 a0_1) := (blk_cell BK54001.out 1).trans rfl
      have hcz13_2 : w5.cell? ⟨gb54001, 2, none⟩ = some (.int .i64 a0_2) := (blk_cell BK54001.out 2).trans rfl
      have hcz13_3 : w5.cell? ⟨gb54001, 3, none⟩ = some (.int .u32 a0_3) := (blk_cell BK54001.out 3).trans rfl
      have hcz13_4 : w5.cell? ⟨gb54001, 4, none⟩ = some (.slice A0_4 l0_4.length c0_4) := (blk_cell BK54001.out 4).trans rfl
      have hfz13_0 := blk_frozen BK54001.out 0
      have hfz13_1 := blk_frozen BK54001.out 1
      have hfz13_2 := blk_frozen BK54001.out 2
      have hfz13_3 := blk_frozen BK54001.out 3
      have hfz13_4 := blk_frozen BK54001.out 4
      go_wp2
      repeat (go_quiet (fail); try go_wp2)
      go_meet
      case rel => exact ⟨_, (decide (a0_1 ≥ (l2.length : Int))), (by first | rfl | (simp; done) | (simp [*]; done)), H', ⟨by first | omega | exact Nat.le_refl _⟩, ⟨by (with_reducible repeat (first | refine blk_drewN ?_ _ | refine blk_drew ?_ | refine blk_alloc ?_ _)); exact BK54001.out⟩, ⟨by repeat (first | (with_reducible first | exact HB.out | apply below_alloc | apply pw_below_drewN | apply below_drew1 | refine below_set ?_ GE54001.out) | exact HB.out)⟩⟩
    ·rw [if_neg c10] at H
     have c10b0 : (a0_0.toList == ([] : List UInt8)) = false := beq_eq_false_iff_ne.mpr c10
     have c10b1 : (a0_0.toList != ([] : List UInt8)) = true := bne_iff_ne.mpr c10
     replace H := Option.bind_eq_some_iff.mp H
     obtain ⟨t54002, A140, H⟩ := H
     replace H : (if t54002 = true then (if a0_1 < (-1) then (tinderref09_wordFormed.j0 k a1 l2 true a0_0 a0_1 a0_2 a0_3 l0_4) else (tinderref09_wordFormed.j0 k a1 l2 (decide (a0_1 ≥ (l2.length : Int))) a0_0 a0_1 a0_2 a0_3 l0_4)) else (tinderref09_wordFormed.j0 k a1 l2 true a0_0 a0_1 a0_2 a0_3 l0_4)) = some r := H
     have A14 := Aside0.mk A140
     clear A140
     by_cases c15 : t54002 = true
     ·subst c15
      have H1 : (if a0_1 < (-1) then (tinderref09_wordFormed.j0 k a1 l2 true a0_0 a0_1 a0_2 a0_3 l0_4) else (tinderref09_wordFormed.j0 k a1 l2 (decide (a0_1 ≥ (l2.length : Int))) a0_0 a0_1 a0_2 a0_3 l0_4)) = some r := by rw [if_pos rfl] at H; exact H
      clear H
      have H := H1
      clear H1
      by_cases c16 : a0_1 < (-1)
      ·rw [if_pos c16] at H
       have c16b0 : decide (a0_1 < (-1)) = true := decide_eq_true c16
       clear c16
       have H' := Aside0.mk H
       clear H
       have hcz17_0 : w5.cell? ⟨gb54001, 0, none⟩ = some (.string a0_0) := (blk_cell BK54001.out 0).trans rfl
       have hcz17_1 : w5.cell? ⟨gb54001, 1, none⟩ = some (.int .i64 a0_1) := (blk_cell BK54001.out 1).trans rfl
       have hcz17_2 : w5.cell? ⟨gb54001, 2, none⟩ = some (.int .i64 a0_2) := (blk_cell BK54001.out 2).trans rfl
       have hcz17_3 : w5.cell? ⟨gb54001, 3, none⟩ = some (.int .u32 a0_3) := (blk_cell BK54001.out 3).trans rfl
       have hcz17_4 : w5.cell? ⟨gb54001, 4, none⟩ = some (.slice A0_4 l0_4.length c0_4) := (blk_cell BK54001.out 4).trans rfl
       have hfz17_0 := blk_frozen BK54001.out 0
       have hfz17_1 := blk_frozen BK54001.out 1
       have hfz17_2 := blk_frozen BK54001.out 2
       have hfz17_3 := blk_frozen BK54001.out 3
       have hfz17_4 := blk_frozen BK54001.out 4
       go_wp2_with (first | (go_at_call 21; (with_reducible refine (tinderref09_Named.calls k a0_0 true _ A14.out).mono ?_); rintro e w' ⟨rfl, ⟨nd, rfl⟩⟩; (try first | exact ⟨rfl, _, World.drewN_drewN _ _ _⟩ | exact ⟨rfl, _, Eq.trans (World.drewN_drewN _ _ _) (congrArg (World.drewN _) (Nat.add_assoc _ _ _))⟩)))
       repeat (go_quiet (first | (go_at_call 21; (with_reducible refine (tinderref09_Named.calls k a0_0 true _ A14.out).mono ?_); rintro e w' ⟨rfl, ⟨nd, rfl⟩⟩; (try first | exact ⟨rfl, _, World.drewN_drewN _ _ _⟩ | exact ⟨rfl, _, Eq.trans (World.drewN_drewN _ _ _) (congrArg (World.drewN _) (Nat.add_assoc _ _ _))⟩))); try go_wp2_with (first | (go_at_call 21; (with_reducible refine (tinderref09_Named.calls k a0_0 true _ A14.out).mono ?_); rintro e w' ⟨rfl, ⟨nd, rfl⟩⟩; (try first | exact ⟨rfl, _, World.drewN_drewN _ _ _⟩ | exact ⟨rfl, _, Eq.trans (World.drewN_drewN _ _ _) (congrArg (World.drewN _) (Nat.add_assoc _ _ _))⟩))))
       go_meet
       case rel => exact ⟨_, (true), (by first | rfl | (simp; done) | (simp [*]; done)), H', ⟨by first | omega | exact Nat.le_refl _⟩, ⟨by (with_reducible repeat (first | refine blk_drewN ?_ _ | refine blk_drew ?_ | refine blk_alloc ?_ _)); exact BK54001.out⟩, ⟨by repeat (first | (with_reducible first | exact HB.out | apply below_alloc | apply pw_below_drewN | apply below_drew1 | refine below_set ?_ GE54001.out) | exact HB.out)⟩⟩
      ·rw [if_neg c16] at H
       have c16b0 : decide (a0_1 < (-1)) = false := decide_eq_false c16
       clear c16
       have H' := Aside0.mk H
       clear H
       have hcz18_0 : w5.cell? ⟨gb54001, 0, none⟩ = some (.string a0_0) := (blk_cell BK54001.out 0).trans rfl
       have hcz18_1 : w5.cell? ⟨gb54001, 1, none⟩ = some (.int .i64 a0_1) := (blk_cell BK54001.out 1).trans rfl
       have hcz18_2 : w5.cell? ⟨gb54001, 2, none⟩ = some (.int .i64 a0_2) := (blk_cell BK54001.out 2).trans rfl
       have hcz18_3 : w5.cell? ⟨gb54001, 3, none⟩ = some (.int .u32 a0_3) := (blk_cell BK54001.out 3).trans rfl
       have hcz18_4 : w5.cell? ⟨gb54001, 4, none⟩ = some (.slice A0_4 l0_4.length c0_4) := (blk_cell BK54001.out 4).trans rfl
       have hfz18_0 := blk_frozen BK54001.out 0
       have hfz18_1 := blk_frozen BK54001.out 1
       have hfz18_2 := blk_frozen BK54001.out 2
       have hfz18_3 := blk_frozen BK54001.out 3
       have hfz18_4 := blk_frozen BK54001.out 4
       go_wp2_with (first | (go_at_call 21; (with_reducible refine (tinderref09_Named.calls k a0_0 true _ A14.out).mono ?_); rintro e w' ⟨rfl, ⟨nd, rfl⟩⟩; (try first | exact ⟨rfl, _, World.drewN_drewN _ _ _⟩ | exact ⟨rfl, _, Eq.trans (World.drewN_drewN _ _ _) (congrArg (World.drewN _) (Nat.add_assoc _ _ _))⟩)))
       repeat (go_quiet (first | (go_at_call 21; (with_reducible refine (tinderref09_Named.calls k a0_0 true _ A14.out).mono ?_); rintro e w' ⟨rfl, ⟨nd, rfl⟩⟩; (try first | exact ⟨rfl, _, World.drewN_drewN _ _ _⟩ | exact ⟨rfl, _, Eq.trans (World.drewN_drewN _ _ _) (congrArg (World.drewN _) (Nat.add_assoc _ _ _))⟩))); try go_wp2_with (first | (go_at_call 21; (with_reducible refine (tinderref09_Named.calls k a0_0 true _ A14.out).mono ?_); rintro e w' ⟨rfl, ⟨nd, rfl⟩⟩; (try first | exact ⟨rfl, _, World.drewN_drewN _ _ _⟩ | exact ⟨rfl, _, Eq.trans (World.drewN_drewN _ _ _) (congrArg (World.drewN _) (Nat.add_assoc _ _ _))⟩))))
       go_meet
       case rel => exact ⟨_, (decide (a0_1 ≥ (l2.length : Int))), (by first | rfl | (simp; done) | (simp [*]; done)), H', ⟨by first | omega | exact Nat.le_refl _⟩, ⟨by (with_reducible repeat (first | refine blk_drewN ?_ _ | refine blk_drew ?_ | refine blk_alloc ?_ _)); exact BK54001.out⟩, ⟨by repeat (first | (with_reducible first | exact HB.out | apply below_alloc | apply pw_below_drewN | apply below_drew1 | refine below_set ?_ GE54001.out) | exact HB.out)⟩⟩
     ·replace c15 := Bool.eq_false_iff.mpr c15
      subst c15
      have H1 : (tinderref09_wordFormed.j0 k a1 l2 true a0_0 a0_1 a0_2 a0_3 l0_4) = some r := by rw [if_neg (show ¬ (false = true) by decide)] at H; exact H
      clear H
      have H := H1
      clear H1
      have H' := Aside0.mk H
      clear H
      have hcz19_0 : w5.cell? ⟨gb54001, 0, none⟩ = some (.string a0_0) := (blk_cell BK54001.out 0).trans rfl
      have hcz19_1 : w5.cell? ⟨gb54001, 1, none⟩ = some (.int .i64 a0_1) := (blk_cell BK54001.out 1).trans rfl
      have hcz19_2 : w5.cell? ⟨gb54001, 2, none⟩ = some (.int .i64 a0_2) := (blk_cell BK54001.out 2).trans rfl
      have hcz19_3 : w5.cell? ⟨gb54001, 3, none⟩ = some (.int .u32 a0_3) := (blk_cell BK54001.out 3).trans rfl
      have hcz19_4 : w5.cell? ⟨gb54001, 4, none⟩ = some (.slice A0_4 l0_4.length c0_4) := (blk_cell BK54001.out 4).trans rfl
      have hfz19_0 := blk_frozen BK54001.out 0
      have hfz19_1 := blk_frozen BK54001.out 1
      have hfz19_2 := blk_frozen BK54001.out 2
      have hfz19_3 := blk_frozen BK54001.out 3
      have hfz19_4 := blk_frozen BK54001.out 4
      go_wp2_with (first | (go_at_call 21; (with_reducible refine (tinderref09_Named.calls k a0_0 false _ A14.out).mono ?_); rintro e w' ⟨rfl, ⟨nd, rfl⟩⟩; (try first | exact ⟨rfl, _, World.drewN_drewN _ _ _⟩ | exact ⟨rfl, _, Eq.trans (World.drewN_drewN _ _ _) (congrArg (World.drewN _) (Nat.add_assoc _ _ _))⟩)))
      repeat (go_quiet (first | (go_at_call 21; (with_reducible refine (tinderref09_Named.calls k a0_0 false _ A14.out).mono ?_); rintro e w' ⟨rfl, ⟨nd, rfl⟩⟩; (try first | exact ⟨rfl, _, World.drewN_drewN _ _ _⟩ | exact ⟨rfl, _, Eq.trans (World.drewN_drewN _ _ _) (congrArg (World.drewN _) (Nat.add_assoc _ _ _))⟩))); try go_wp2_with (first | (go_at_call 21; (with_reducible refine (tinderref09_Named.calls k a0_0 false _ A14.out).mono ?_); rintro e w' ⟨rfl, ⟨nd, rfl⟩⟩; (try first | exact ⟨rfl, _, World.drewN_drewN _ _ _⟩ | exact ⟨rfl, _, Eq.trans (World.drewN_drewN _ _ _) (congrArg (World.drewN _) (Nat.add_assoc _ _ _))⟩))))
      go_meet
      case rel => exact ⟨_, (true), (by first | rfl | (simp; done) | (simp [*]; done)), H', ⟨by first | omega | exact Nat.le_refl _⟩, ⟨by (with_reducible repeat (first | refine blk_drewN ?_ _ | refine blk_drew ?_ | refine blk_alloc ?_ _)); exact BK54001.out⟩, ⟨by repeat (first | (with_reducible first | exact HB.out | apply below_alloc | apply pw_below_drewN | apply below_drew1 | refine below_set ?_ GE54001.out) | exact HB.out)⟩⟩
 case rest =>
  clear HC4
  try clear c1
  try clear c2
  try clear p2
  try clear c5
  try clear c6
  try clear c6b0
  try clear c8
  try clear c8b0
  try clear c10
  try clear c10b0
  try clear c10b1
  try clear c11
  try clear c11b0
  try clear c15
  try clear c16
  try clear c16b0
  try clear hcz12_0
  try clear hcz12_1
  try clear hcz12_2
  try clear hcz12_3
  try clear hcz12_4
  try clear hcz13_0
  try clear hcz13_1
  try clear hcz13_2
  try clear hcz13_3
  try clear hcz13_4
  try clear hcz17_0
  try clear hcz17_1
  try clear hcz17_2
  try clear hcz17_3
  try clear hcz17_4
  try clear hcz18_0
  try clear hcz18_1
  try clear hcz18_2
  try clear hcz18_3
  try clear hcz18_4
  try clear hcz19_0
  try clear hcz19_1
  try clear hcz19_2
  try clear hcz19_3
  try clear hcz19_4
  try clear hcz7_0
  try clear hcz7_1
  try clear hcz7_2
  try clear hcz7_3
  try clear hcz7_4
  try clear hcz9_0
  try clear hcz9_1
  try clear hcz9_2
  try clear hcz9_3
  try clear hcz9_4
  try clear hfz12_0
  try clear hfz12_1
  try clear hfz12_2
  try clear hfz12_3
  try clear hfz12_4
  try clear hfz13_0
  try clear hfz13_1
  try clear hfz13_2
  try clear hfz13_3
  try clear hfz13_4
  try clear hfz17_0
  try clear hfz17_1
  try clear hfz17_2
  try clear hfz17_3
  try clear hfz17_4
  try clear hfz18_0
  try clear hfz18_1
  try clear hfz18_2
  try clear hfz18_3
  try clear hfz18_4
  try clear hfz19_0
  try clear hfz19_1
  try clear hfz19_2
  try clear hfz19_3
  try clear hfz19_4
  try clear hfz7_0
  try clear hfz7_1
  try clear hfz7_2
  try clear hfz7_3
  try clear hfz7_4
  try clear hfz9_0
  try clear hfz9_1
  try clear hfz9_2
  try clear hfz9_3
  try clear hfz9_4
  obtain ⟨kq, x37_3, rfl, HA, HJ3, BK54001, HB⟩ := hcut
  cases kq with
  | zero => exact absurd HA.out (by simp [tinderref09_wordFormed.j0])
  | succ kj3 =>
   have H := HA.out
   clear HA
   simp only [tinderref09_wordFormed.j0] at H
   by_cases c20 : x37_3 = true
   ·subst c20
    have H1 : (some false) = some r := by rw [if_pos rfl] at H; exact H
    clear H
    have H := H1
    clear H1
    obtain rfl := Option.some.inj H
    go_wp2
    repeat (go_quiet (fail); try go_wp2)
    go_ret
    exact ⟨by first | rfl | (simp [errW_none, errW_some] <;> rfl) | (simp [*, errW_none, errW_some] <;> rfl), by repeat (first | (with_reducible first | exact HB.out | apply below_alloc | apply pw_below_drewN | apply below_drew1 | refine below_set ?_ GE54001.out) | exact HB.out)⟩
   ·replace c20 := Bool.eq_false_iff.mpr c20
    subst c20
    have H1 : (if a0_2 = 2 then (if a0_3 = 0 then ((tinderref09_Sound.f kj3 l0_4 a1).bind fun t54003 => (some t54003)) else (some false)) else (if a0_2 = 6 then (if (wrap64 (a0_3)) ≥ a1 then (some false) else (some ((l0_4.length : Int) == 0))) else (if a0_2 = 7 then (if a0_1 < 0 then (some false) else (if 0 ≤ a0_1 then (if a0_1 < (l2.length : Int) then (if (wrap64 (a0_3)) ≥ (((rd_T91 l2 a0_1).f4).length : Int) then (some false) else (some ((l0_4.length : Int) == 0))) else (none)) else (none))) else (some ((l0_4.length : Int) == 0))))) = some r := by rw [if_neg (show ¬ (false = true) by decide)] at H; exact H
    clear H
    have H := H1
    clear H1
    by_cases c21 : a0_2 = 2
    ·rw [if_pos c21] at H
     have c21b0 : (a0_2 == 2) = true := beq_iff_eq.mpr c21
     have c21b1 : (a0_2 != 2) = false := bne_eq_false_iff_eq.mpr c21
     clear c21
     by_cases c22 : a0_3 = 0
     ·rw [if_pos c22] at H
      have c22b0 : (a0_3 == 0) = true := beq_iff_eq.mpr c22
      have c22b1 : (a0_3 != 0) = false := bne_eq_false_iff_eq.mpr c22
      clear c22
      replace H := Option.bind_eq_some_iff.mp H
      obtain ⟨t54003, A230, H⟩ := H
      replace H : (some t54003) = some r := H
      have A23 := Aside0.mk A230
      clear A230
      obtain rfl := Option.some.inj H
      have hcz24_0 : wc.cell? ⟨gb54001, 0, none⟩ = some (.string a0_0) := (blk_cell BK54001.out 0).trans rfl
      have hcz24_1 : wc.cell? ⟨gb54001, 1, none⟩ = some (.int .i64 a0_1) := (blk_cell BK54001.out 1).trans rfl
      have hcz24_2 : wc.cell? ⟨gb54001, 2, none⟩ = some (.int .i64 a0_2) := (blk_cell BK54001.out 2).trans rfl
      have hcz24_3 : wc.cell? ⟨gb54001, 3, none⟩ = some (.int .u32 a0_3) := (blk_cell BK54001.out 3).trans rfl
      have hcz24_4 : wc.cell? ⟨gb54001, 4, none⟩ = some (.slice A0_4 l0_4.length c0_4) := (blk_cell BK54001.out 4).trans rfl
      have hfz24_0 := blk_frozen BK54001.out 0
      have hfz24_1 := blk_frozen BK54001.out 1
      have hfz24_2 := blk_frozen BK54001.out 2
      have hfz24_3 := blk_frozen BK54001.out 3
      have hfz24_4 := blk_frozen BK54001.out 4
      go_wp2_with (first | (go_at_call 20; (with_reducible refine (tinderref09_Sound.calls kj3 _ _ l0_4 a1 t54003 _ ?side1 ?side2 A23.out).mono ?_); (case side1 => repeat (first | exact (Kd.C_below HR0_4.out HB.out) | (with_reducible refine Kd.C_alloc ?_ _) | (with_reducible refine Kd.C_drewN ?_ _) | (with_reducible refine Kd.C_drew ?_))); (case side2 => exact HC0_4.out); rintro e w' ⟨rfl, ⟨nd, rfl⟩⟩; (try first | exact ⟨rfl, _, World.drewN_drewN _ _ _⟩ | exact ⟨rfl, _, Eq.trans (World.drewN_drewN _ _ _) (congrArg (World.drewN _) (Nat.add_assoc _ _ _))⟩)))
      repeat (go_quiet (first | (go_at_call 20; (with_reducible refine (tinderref09_Sound.calls kj3 _ _ l0_4 a1 t54003 _ ?side1 ?side2 A23.out).mono ?_); (case side1 => repeat (first | exact (Kd.C_below HR0_4.out HB.out) | (with_reducible refine Kd.C_alloc ?_ _) | (with_reducible refine Kd.C_drewN ?_ _) | (with_reducible refine Kd.C_drew ?_))); (case side2 => exact HC0_4.out); rintro e w' ⟨rfl, ⟨nd, rfl⟩⟩; (try first | exact ⟨rfl, _, World.drewN_drewN _ _ _⟩ | exact ⟨rfl, _, Eq.trans (World.drewN_drewN _ _ _) (congrArg (World.drewN _) (Nat.add_assoc _ _ _))⟩))); try go_wp2_with (first | (go_at_call 20; (with_reducible refine (tinderref09_Sound.calls kj3 _ _ l0_4 a1 t54003 _ ?side1 ?side2 A23.out).mono ?_); (case side1 => repeat (first | exact (Kd.C_below HR0_4.out HB.out) | (with_reducible refine Kd.C_alloc ?_ _) | (with_reducible refine Kd.C_drewN ?_ _) | (with_reducible refine Kd.C_drew ?_))); (case side2 => exact HC0_4.out); rintro e w' ⟨rfl, ⟨nd, rfl⟩⟩; (try first | exact ⟨rfl, _, World.drewN_drewN _ _ _⟩ | exact ⟨rfl, _, Eq.trans (World.drewN_drewN _ _ _) (congrArg (World.drewN _) (Nat.add_assoc _ _ _))⟩))))
      go_ret
      exact ⟨by first | rfl | (simp [errW_none, errW_some] <;> rfl) | (simp [*, errW_none, errW_some] <;> rfl), by repeat (first | (with_reducible first | exact HB.out | apply below_alloc | apply pw_below_drewN | apply below_drew1 | refine below_set ?_ GE54001.out) | exact HB.out)⟩
     ·rw [if_neg c22] at H
      have c22b0 : (a0_3 == 0) = false := beq_eq_false_iff_ne.mpr c22
      have c22b1 : (a0_3 != 0) = true := bne_iff_ne.mpr c22
      obtain rfl := Option.some.inj H
      have hcz25_0 : wc.cell? ⟨gb54001, 0, none⟩ = some (.string a0_0) := (blk_cell BK54001.out 0).trans rfl
      have hcz25_1 : wc.cell? ⟨gb54001, 1, none⟩ = some (.int .i64 a0_1) := (blk_cell BK54001.out 1).trans rfl
      have hcz25_2 : wc.cell? ⟨gb54001, 2, none⟩ = some (.int .i64 a0_2) := (blk_cell BK54001.out 2).trans rfl
      have hcz25_3 : wc.cell? ⟨gb54001, 3, none⟩ = some (.int .u32 a0_3) := (blk_cell BK54001.out 3).trans rfl
      have hcz25_4 : wc.cell? ⟨gb54001, 4, none⟩ = some (.slice A0_4 l0_4.length c0_4) := (blk_cell BK54001.out 4).trans rfl
      have hfz25_0 := blk_frozen BK54001.out 0
      have hfz25_1 := blk_frozen BK54001.out 1
      have hfz25_2 := blk_frozen BK54001.out 2
      have hfz25_3 := blk_frozen BK54001.out 3
      have hfz25_4 := blk_frozen BK54001.out 4
      go_wp2
      repeat (go_quiet (fail); try go_wp2)
      go_ret
      exact ⟨by first | rfl | (simp [errW_none, errW_some] <;> rfl) | (simp [*, errW_none, errW_some] <;> rfl), by repeat (first | (with_reducible first | exact HB.out | apply below_alloc | apply pw_below_drewN | apply below_drew1 | refine below_set ?_ GE54001.out) | exact HB.out)⟩
    ·rw [if_neg c21] at H
     have c21b0 : (a0_2 == 2) = false := beq_eq_false_iff_ne.mpr c21
     have c21b1 : (a0_2 != 2) = true := bne_iff_ne.mpr c21
     by_cases c26 : a0_2 = 6
     ·rw [if_pos c26] at H
      have c26b0 : (a0_2 == 6) = true := beq_iff_eq.mpr c26
      have c26b1 : (a0_2 != 6) = false := bne_eq_false_iff_eq.mpr c26
      clear c26
      by_cases c27 : (wrap64 (a0_3)) ≥ a1
      ·rw [if_pos c27] at H
       have c27b0 : decide (a1 ≤ (wrap64 (a0_3))) = true := decide_eq_true c27
       clear c27
       obtain rfl := Option.some.inj H
       have hcz28_0 : wc.cell? ⟨gb54001, 0, none⟩ = some (.string a0_0) := (blk_cell BK54001.out 0).trans rfl
       have hcz28_1 : wc.cell? ⟨gb54001, 1, none⟩ = some (.int .i64 a0_1) := (blk_cell BK54001.out 1).trans rfl
       have hcz28_2 : wc.cell? ⟨gb54001, 2, none⟩ = some (.int .i64 a0_2) := (blk_cell BK54001.out 2).trans rfl
       have hcz28_3 : wc.cell? ⟨gb54001, 3, none⟩ = some (.int .u32 a0_3) := (blk_cell BK54001.out 3).trans rfl
       have hcz28_4 : wc.cell? ⟨gb54001, 4, none⟩ = some (.slice A0_4 l0_4.length c0_4) := (blk_cell BK54001.out 4).trans rfl
       have hfz28_0 := blk_frozen BK54001.out 0
       have hfz28_1 := blk_frozen BK54001.out 1
       have hfz28_2 := blk_frozen BK54001.out 2
       have hfz28_3 := blk_frozen BK54001.out 3
       have hfz28_4 := blk_frozen BK54001.out 4
       go_wp2
       repeat (go_quiet (fail); try go_wp2)
       go_ret
       exact ⟨by first | rfl | (simp [errW_none, errW_some] <;> rfl) | (simp [*, errW_none, errW_some] <;> rfl), by repeat (first | (with_reducible first | exact HB.out | apply below_alloc | apply pw_below_drewN | apply below_drew1 | refine below_set ?_ GE54001.out) | exact HB.out)⟩
      ·rw [if_neg c27] at H
       have c27b0 : decide (a1 ≤ (wrap64 (a0_3))) = false := decide_eq_false c27
       clear c27
       obtain rfl := Option.some.inj H
       have hcz29_0 : wc.cell? ⟨gb54001, 0, none⟩ = some (.string a0_0) := (blk_cell BK54001.out 0).trans rfl
       have hcz29_1 : wc.cell? ⟨gb54001, 1, none⟩ = some (.int .i64 a0_1) := (blk_cell BK54001.out 1).trans rfl
       have hcz29_2 : wc.cell? ⟨gb54001, 2, none⟩ = some (.int .i64 a0_2) := (blk_cell BK54001.out 2).trans rfl
       have hcz29_3 : wc.cell? ⟨gb54001, 3, none⟩ = some (.int .u32 a0_3) := (blk_cell BK54001.out 3).trans rfl
       have hcz29_4 : wc.cell? ⟨gb54001, 4, none⟩ = some (.slice A0_4 l0_4.length c0_4) := (blk_cell BK54001.out 4).trans rfl
       have hfz29_0 := blk_frozen BK54001.out 0
       have hfz29_1 := blk_frozen BK54001.out 1
       have hfz29_2 := blk_frozen BK54001.out 2
       have hfz29_3 := blk_frozen BK54001.out 3
       have hfz29_4 := blk_frozen BK54001.out 4
       go_wp2
       repeat (go_quiet (fail); try go_wp2)
       go_ret
       exact ⟨by first | rfl | (simp [errW_none, errW_some] <;> rfl) | (simp [*, errW_none, errW_some] <;> rfl), by repeat (first | (with_reducible first | exact HB.out | apply below_alloc | apply pw_below_drewN | apply below_drew1 | refine below_set ?_ GE54001.out) | exact HB.out)⟩
     ·rw [if_neg c26] at H
      have c26b0 : (a0_2 == 6) = false := beq_eq_false_iff_ne.mpr c26
      have c26b1 : (a0_2 != 6) = true := bne_iff_ne.mpr c26
      by_cases c30 : a0_2 = 7
      ·rw [if_pos c30] at H
       have c30b0 : (a0_2 == 7) = true := beq_iff_eq.mpr c30
       have c30b1 : (a0_2 != 7) = false := bne_eq_false_iff_eq.mpr c30
       clear c30
       by_cases c31 : a0_1 < 0
       ·rw [if_pos c31] at H
        have c31b0 : decide (a0_1 < 0) = true := decide_eq_true c31
        clear c31
        obtain rfl := Option.some.inj H
        have hcz32_0 : wc.cell? ⟨gb54001, 0, none⟩ = some (.string a0_0) := (blk_cell BK54001.out 0).trans rfl
        have hcz32_1 : wc.cell? ⟨gb54001, 1, none⟩ = some (.int .i64 a0_1) := (blk_cell BK54001.out 1).trans rfl
        have hcz32_2 : wc.cell? ⟨gb54001, 2, none⟩ = some (.int .i64 a0_2) := (blk_cell BK54001.out 2).trans rfl
        have hcz32_3 : wc.cell? ⟨gb54001, 3, none⟩ = some (.int .u32 a0_3) := (blk_cell BK54001.out 3).trans rfl
        have hcz32_4 : wc.cell? ⟨gb54001, 4, none⟩ = some (.slice A0_4 l0_4.length c0_4) := (blk_cell BK54001.out 4).trans rfl
        have hfz32_0 := blk_frozen BK54001.out 0
        have hfz32_1 := blk_frozen BK54001.out 1
        have hfz32_2 := blk_frozen BK54001.out 2
        have hfz32_3 := blk_frozen BK54001.out 3
        have hfz32_4 := blk_frozen BK54001.out 4
        go_wp2
        repeat (go_quiet (fail); try go_wp2)
        go_ret
        exact ⟨by first | rfl | (simp [errW_none, errW_some] <;> rfl) | (simp [*, errW_none, errW_some] <;> rfl), by repeat (first | (with_reducible first | exact HB.out | apply below_alloc | apply pw_below_drewN | apply below_drew1 | refine below_set ?_ GE54001.out) | exact HB.out)⟩
       ·rw [if_neg c31] at H
        have c31b0 : decide (a0_1 < 0) = false := decide_eq_false c31
        clear c31
        by_cases c33 : 0 ≤ a0_1
        ·rw [if_pos c33] at H
         have c33b0 : decide (0 ≤ a0_1) = true := decide_eq_true c33
         clear c33
         by_cases c34 : a0_1 < (l2.length : Int)
         ·rw [if_pos c34] at H
          have c34b0 : decide (a0_1 < (l2.length : Int)) = true := decide_eq_true c34
          clear c34
          by_cases c35 : (wrap64 (a0_3)) ≥ (((rd_T91 l2 a0_1).f4).length : Int)
          ·rw [if_pos c35] at H
           have c35b0 : decide ((((rd_T91 l2 a0_1).f4).length : Int) ≤ (wrap64 (a0_3))) = true := decide_eq_true c35
           clear c35
           obtain rfl := Option.some.inj H
           have hcz36_0 : wc.cell? ⟨gb54001, 0, none⟩ = some (.string a0_0) := (blk_cell BK54001.out 0).trans rfl
           have hcz36_1 : wc.cell? ⟨gb54001, 1, none⟩ = some (.int .i64 a0_1) := (blk_cell BK54001.out 1).trans rfl
           have hcz36_2 : wc.cell? ⟨gb54001, 2, none⟩ = some (.int .i64 a0_2) := (blk_cell BK54001.out 2).trans rfl
           have hcz36_3 : wc.cell? ⟨gb54001, 3, none⟩ = some (.int .u32 a0_3) := (blk_cell BK54001.out 3).trans rfl
           have hcz36_4 : wc.cell? ⟨gb54001, 4, none⟩ = some (.slice A0_4 l0_4.length c0_4) := (blk_cell BK54001.out 4).trans rfl
           have hfz36_0 := blk_frozen BK54001.out 0
           have hfz36_1 := blk_frozen BK54001.out 1
           have hfz36_2 := blk_frozen BK54001.out 2
           have hfz36_3 := blk_frozen BK54001.out 3
           have hfz36_4 := blk_frozen BK54001.out 4
           have p54004 : 0 ≤ (a0_1 : Int) := of_decide_eq_true (by first | (with_reducible assumption) | assumption)
           have q54004 : a0_1 < (l2.length : Int) := of_decide_eq_true (by first | (with_reducible assumption) | assumption)
           obtain ⟨ad54004, A54004_1, c54004_1, A54004_3, c54004_3, A54004_4, c54004_4, e54004, hx54004_0, hx54004_1, hx54004_2, hx54004_3, hx54004_4, hl54004_1, hi54004_1, hl54004_3, hi54004_3, hl54004_4, hi54004_4⟩ := at_T91 HR2.out a0_1 p54004 q54004
           cases e54004
           replace hx54004_0 := (HB.out.cell (World.block_lt_of_cell? w _ hx54004_0)).trans hx54004_0
           replace hx54004_1 := (HB.out.cell (World.block_lt_of_cell? w _ hx54004_1)).trans hx54004_1
           replace hx54004_2 := (HB.out.cell (World.block_lt_of_cell? w _ hx54004_2)).trans hx54004_2
           replace hx54004_3 := (HB.out.cell (World.block_lt_of_cell? w _ hx54004_3)).trans hx54004_3
           replace hx54004_4 := (HB.out.cell (World.block_lt_of_cell? w _ hx54004_4)).trans hx54004_4
           have HR54004_1 := Aside0.mk hi54004_1
           have HC54004_1 := Aside0.mk hl54004_1
           clear hi54004_1 hl54004_1
           have HR54004_3 := Aside0.mk hi54004_3
           have HC54004_3 := Aside0.mk hl54004_3
           clear hi54004_3 hl54004_3
           have HR54004_4 := Aside0.mk hi54004_4
           have HC54004_4 := Aside0.mk hl54004_4
           clear hi54004_4 hl54004_4
           replace p54004 := eq_true p54004
           replace q54004 := eq_true q54004
           go_wp2
           repeat (go_quiet (fail); try go_wp2)
           go_ret
           exact ⟨by first | rfl | (simp [errW_none, errW_some] <;> rfl) | (simp [*, errW_none, errW_some] <;> rfl), by repeat (first | (with_reducible first | exact HB.out | apply below_alloc | apply pw_below_drewN | apply below_drew1 | refine below_set ?_ GE54001.out) | exact HB.out)⟩
          ·rw [if_neg c35] at H
           have c35b0 : decide ((((rd_T91 l2 a0_1).f4).length : Int) ≤ (wrap64 (a0_3))) = false := decide_eq_false c35
           clear c35
           obtain rfl := Option.some.inj H
           have hcz37_0 : wc.cell? ⟨gb54001, 0, none⟩ = some (.string a0_0) := (blk_cell BK54001.out 0).trans rfl
           have hcz37_1 : wc.cell? ⟨gb54001, 1, none⟩ = some (.int .i64 a0_1) := (blk_cell BK54001.out 1).trans rfl
           have hcz37_2 : wc.cell? ⟨gb54001, 2, none⟩ = some (.int .i64 a0_2) := (blk_cell BK54001.out 2).trans rfl
           have hcz37_3 : wc.cell? ⟨gb54001, 3, none⟩ = some (.int .u32 a0_3) := (blk_cell BK54001.out 3).trans rfl
           have hcz37_4 : wc.cell? ⟨gb54001, 4, none⟩ = some (.slice A0_4 l0_4.length c0_4) := (blk_cell BK54001.out 4).trans rfl
           have hfz37_0 := blk_frozen BK54001.out 0
           have hfz37_1 := blk_frozen BK54001.out 1
           have hfz37_2 := blk_frozen BK54001.out 2
           have hfz37_3 := blk_frozen BK54001.out 3
           have hfz37_4 := blk_frozen BK54001.out 4
           have p54004 : 0 ≤ (a0_1 : Int) := of_decide_eq_true (by first | (with_reducible assumption) | assumption)
           have q54004 : a0_1 < (l2.length : Int) := of_decide_eq_true (by first | (with_reducible assumption) | assumption)
           obtain ⟨ad54004, A54004_1, c54004_1, A54004_3, c54004_3, A54004_4, c54004_4, e54004, hx54004_0, hx54004_1, hx54004_2, hx54004_3, hx54004_4, hl54004_1, hi54004_1, hl54004_3, hi54004_3, hl54004_4, hi54004_4⟩ := at_T91 HR2.out a0_1 p54004 q54004
           cases e54004
           replace hx54004_0 := (HB.out.cell (World.block_lt_of_cell? w _ hx54004_0)).trans hx54004_0
           replace hx54004_1 := (HB.out.cell (World.block_lt_of_cell? w _ hx54004_1)).trans hx54004_1
           replace hx54004_2 := (HB.out.cell (World.block_lt_of_cell? w _ hx54004_2)).trans hx54004_2
           replace hx54004_3 := (HB.out.cell (World.block_lt_of_cell? w _ hx54004_3)).trans hx54004_3
           replace hx54004_4 := (HB.out.cell (World.block_lt_of_cell? w _ hx54004_4)).trans hx54004_4
           have HR54004_1 := Aside0.mk hi54004_1
           have HC54004_1 := Aside0.mk hl54004_1
           clear hi54004_1 hl54004_1
           have HR54004_3 := Aside0.mk hi54004_3
           have HC54004_3 := Aside0.mk hl54004_3
           clear hi54004_3 hl54004_3
           have HR54004_4 := Aside0.mk hi54004_4
           have HC54004_4 := Aside0.mk hl54004_4
           clear hi54004_4 hl54004_4
           replace p54004 := eq_true p54004
           replace q54004 := eq_true q54004
           go_wp2
           repeat (go_quiet (fail); try go_wp2)
           go_ret
           exact ⟨by first | rfl | (simp [errW_none, errW_some] <;> rfl) | (simp [*, errW_none, errW_some] <;> rfl), by repeat (first | (with_reducible first | exact HB.out | apply below_alloc | apply pw_below_drewN | apply below_drew1 | refine below_set ?_ GE54001.out) | exact HB.out)⟩
         ·rw [if_neg c34] at H
          exact absurd H (by simp)
        ·rw [if_neg c33] at H
         exact absurd H (by simp)
      ·rw [if_neg c30] at H
       have c30b0 : (a0_2 == 7) = false := beq_eq_false_iff_ne.mpr c30
       have c30b1 : (a0_2 != 7) = true := bne_iff_ne.mpr c30
       obtain rfl := Option.some.inj H
       have hcz38_0 : wc.cell? ⟨gb54001, 0, none⟩ = some (.string a0_0) := (blk_cell BK54001.out 0).trans rfl
       have hcz38_1 : wc.cell? ⟨gb54001, 1, none⟩ = some (.int .i64 a0_1) := (blk_cell BK54001.out 1).trans rfl
       have hcz38_2 : wc.cell? ⟨gb54001, 2, none⟩ = some (.int .i64 a0_2) := (blk_cell BK54001.out 2).trans rfl
       have hcz38_3 : wc.cell? ⟨gb54001, 3, none⟩ = some (.int .u32 a0_3) := (blk_cell BK54001.out 3).trans rfl
       have hcz38_4 : wc.cell? ⟨gb54001, 4, none⟩ = some (.slice A0_4 l0_4.length c0_4) := (blk_cell BK54001.out 4).trans rfl
       have hfz38_0 := blk_frozen BK54001.out 0
       have hfz38_1 := blk_frozen BK54001.out 1
       have hfz38_2 := blk_frozen BK54001.out 2
       have hfz38_3 := blk_frozen BK54001.out 3
       have hfz38_4 := blk_frozen BK54001.out 4
       go_wp2
       repeat (go_quiet (fail); try go_wp2)
       go_ret
       exact ⟨by first | rfl | (simp [errW_none, errW_some] <;> rfl) | (simp [*, errW_none, errW_some] <;> rfl), by repeat (first | (with_reducible first | exact HB.out | apply below_alloc | apply pw_below_drewN | apply below_drew1 | refine below_set ?_ GE54001.out) | exact HB.out)⟩

end Go.Proofs.Ytfpkakedlapmkaa.Q
end
section
namespace Go.Proofs.Ytfpkakedlapmkaa.Q
open Go.RowKit Go.Proofs.YtfpkakedlapmkaaW.PrintWords Go.Proofs.YtfpkakedlapmkaaW.PrintLast Go.Proofs.YtfpkakedlapmkaaW.PrintMore
set_option linter.unusedVariables false
set_option linter.unusedSimpArgs false

attribute [local go_sem] max2_int min2_int max_two min_two max_three min_three max_four min_four
/-! ### tinderref09_Formed: function 27 -/
mutual
def tinderref09_Formed.j0 : Nat → List (S37) → Bool → List Int → List Int → List (S51) → List Int → Int → List (S91) → Int → List (S82) → Int → ByteArray → Option (Bool)
 | 0, _, _, _, _, _, _, _, _, _, _, _, _ => none
 | k + 1, x3, x52, x28002000, x28002001, x28002002, x28002003, x28002004, x28002005, x28002006, x28002007, x28002008, x28002009 => if x52 = true then (some false) else ((tinderref08_Formed.f k x28002005).bind fun t28005 => (if t28005 = true then (if x28002006 < (-1) then (tinderref09_Formed.j1 k x3 true x28002000 x28002001 x28002002 x28002003 x28002004 x28002005 x28002006 x28002007 x28002008 x28002009) else (if x28002006 ≥ (x28002005.length : Int) then (tinderref09_Formed.j1 k x3 true x28002000 x28002001 x28002002 x28002003 x28002004 x28002005 x28002006 x28002007 x28002008 x28002009) else ((tinderref09_instsFormed.f k x28002007 x28002005).bind fun t28006 => (if t28006 = true then (if x28002008 = (-1) then (tinderref09_Formed.j1 k x3 false x28002000 x28002001 x28002002 x28002003 x28002004 x28002005 x28002006 x28002007 x28002008 x28002009) else ((tinderref09_alive.f x28002007 x28002008).bind fun t28007 => (tinderref09_Formed.j1 k x3 (!t28007) x28002000 x28002001 x28002002 x28002003 x28002004 x28002005 x28002006 x28002007 x28002008 x28002009))) else (tinderref09_Formed.j1 k x3 true x28002000 x28002001 x28002002 x28002003 x28002004 x28002005 x28002006 x28002007 x28002008 x28002009))))) else (tinderref09_Formed.j1 k x3 true x28002000 x28002001 x28002002 x28002003 x28002004 x28002005 x28002006 x28002007 x28002008 x28002009)))
def tinderref09_Formed.j1 : Nat → List (S37) → Bool → List Int → List Int → List (S51) → List Int → Int → List (S91) → Int → List (S82) → Int → ByteArray → Option (Bool)
 | 0, _, _, _, _, _, _, _, _, _, _, _, _ => none
 | k + 1, x3, x90, x28002000, x28002001, x28002002, x28002003, x28002004, x28002005, x28002006, x28002007, x28002008, x28002009 => if x90 = true then (some false) else (tinderref09_Formed.l0 k x3 0 x28002000 x28002001 x28002002 x28002003 x28002004 x28002005 x28002006 x28002007 x28002008 x28002009)
def tinderref09_Formed.l0 : Nat → List (S37) → Int → List Int → List Int → List (S51) → List Int → Int → List (S91) → Int → List (S82) → Int → ByteArray → Option (Bool)
 | 0, _, _, _, _, _, _, _, _, _, _, _, _ => none
 | k + 1, x3, x4, x28002000, x28002001, x28002002, x28002003, x28002004, x28002005, x28002006, x28002007, x28002008, x28002009 => if x4 < (x28002002.length : Int) then (if x4 < (x3.length : Int) then (if 0 ≤ x4 then ((tinderref09_SameWord.f k ((rd_T51 x28002002 x4).f0) ((rd_T51 x28002002 x4).f1) ((rd_T51 x28002002 x4).f2) ((rd_T51 x28002002 x4).f3) ((rd_T51 x28002002 x4).f4) ((rd_T37 x3 x4).f0) (-1) 1 (((rd_T37 x3 x4).f1) % 4294967296) ([] : List (S69))).bind fun t28011 => (if t28011 = true then (tinderref09_Formed.l0 k x3 (wrap64 (x4 + 1)) x28002000 x28002001 x28002002 x28002003 x28002004 x28002005 x28002006 x28002007 x28002008 x28002009) else (some false))) else (none)) else (if 0 ≤ x4 then ((tinderref09_wordFormed.f k ((rd_T51 x28002002 x4).f0) ((rd_T51 x28002002 x4).f1) ((rd_T51 x28002002 x4).f2) ((rd_T51 x28002002 x4).f3) ((rd_T51 x28002002 x4).f4) (x28002002.length : Int) x28002005).bind fun t28013 => (if t28013 = true then (tinderref09_Formed.l0 k x3 (wrap64 (x4 + 1)) x28002000 x28002001 x28002002 x28002003 x28002004 x28002005 x28002006 x28002007 x28002008 x28002009) else (some false))) else (none))) else (tinderref09_Formed.l1 k 0 x28002000 x28002001 x28002002 x28002003 x28002004 x28002005 x28002006 x28002007 x28002008 x28002009)
def tinderref09_Formed.l1 : Nat → Int → List Int → List Int → List (S51) → List Int → Int → List (S91) → Int → List (S82) → Int → ByteArray → Option (Bool)
 | 0, _, _, _, _, _, _, _, _, _, _, _ => none
 | k + 1, x5, x28002000, x28002001, x28002002, x28002003, x28002004, x28002005, x28002006, x28002007, x28002008, x28002009 => if x5 < (x28002003.length : Int) then (if 0 ≤ x5 then (if (rd x28002003 x5) < (-1) then (some false) else (if (rd x28002003 x5) ≥ (x28002002.length : Int) then (some false) else (tinderref09_Formed.l1 k (wrap64 (x5 + 1)) x28002000 x28002001 x28002002 x28002003 x28002004 x28002005 x28002006 x28002007 x28002008 x28002009))) else (none)) else (some true)
end
def tinderref09_Formed.f (k : Nat) (l0_0 : List Int) (l0_1 : List Int) (l0_2 : List (S51)) (l0_3 : List Int) (a0_4 : Int) (l0_5 : List (S91)) (a0_6 : Int) (l0_7 : List (S82)) (a0_8 : Int) (a0_9 : ByteArray) : Option (Bool) := (tinderref09_Prims.f).bind fun t28002 => (if (l0_0.length : Int) > 64 then (tinderref09_Formed.j0 k t28002 true l0_0 l0_1 l0_2 l0_3 a0_4 l0_5 a0_6 l0_7 a0_8 a0_9) else (if (l0_1.length : Int) > 4096 then (tinderref09_Formed.j0 k t28002 true l0_0 l0_1 l0_2 l0_3 a0_4 l0_5 a0_6 l0_7 a0_8 a0_9) else (if (l0_2.length : Int) > 640 then (tinderref09_Formed.j0 k t28002 true l0_0 l0_1 l0_2 l0_3 a0_4 l0_5 a0_6 l0_7 a0_8 a0_9) else (if (l0_2.length : Int) < (t28002.length : Int) then (tinderref09_Formed.j0 k t28002 true l0_0 l0_1 l0_2 l0_3 a0_4 l0_5 a0_6 l0_7 a0_8 a0_9) else (if (l0_3.length : Int) > 2048 then (tinderref09_Formed.j0 k t28002 true l0_0 l0_1 l0_2 l0_3 a0_4 l0_5 a0_6 l0_7 a0_8 a0_9) else (if a0_4 < 2 then (tinderref09_Formed.j0 k t28002 true l0_0 l0_1 l0_2 l0_3 a0_4 l0_5 a0_6 l0_7 a0_8 a0_9) else (if a0_4 > 36 then (tinderref09_Formed.j0 k t28002 true l0_0 l0_1 l0_2 l0_3 a0_4 l0_5 a0_6 l0_7 a0_8 a0_9) else (tinderref09_Formed.j0 k t28002 (decide ((a0_9.size : Int) > 1024)) l0_0 l0_1 l0_2 l0_3 a0_4 l0_5 a0_6 l0_7 a0_8 a0_9))))))))
def tinderref09_Formed.T10 : Bool × List (List Nat × List Nat) := (true, [([], []), ([0], [0]), ([], []), ([1, 2], [1, 2]), ([3], [3]), ([], []), ([], []), ([5, 6], [5, 6]), ([7], [7]), ([8], [8]), ([], []), ([], []), ([10, 11], [10, 11]), ([12], [12]), ([13], [13]), ([14], [14]), ([9, 15], [9, 15]), ([4, 16], [4, 16]), ([17], [17])])
def tinderref09_Formed.B10 : List Nat := [0, 1, 0, 7, 15, 0, 0, 96, 224, 480, 0, 0, 3072, 7168, 15360, 31744, 65504, 131071, 262143]
def tinderref09_Formed.T12 : Bool × List (List Nat × List Nat) := (true, [([], []), ([0], [0]), ([], []), ([1, 2], [1, 2]), ([3], [3]), ([], []), ([5], [5]), ([6], [6]), ([], []), ([8], [8]), ([4, 7, 9], [4, 7, 9]), ([10], [10])])
def tinderref09_Formed.B12 : List Nat := [0, 1, 0, 7, 15, 0, 32, 96, 0, 256, 1023, 2047]
def tinderref09_Formed.T17 : Bool × List (List Nat × List Nat) := (true, [([], []), ([0], [0]), ([], []), ([1, 2], [1, 2]), ([3], [3]), ([4], [4]), ([5], [5]), ([6], [6]), ([7, 6], [6, 7]), ([6], [6]), ([8, 9, 6], [6, 8, 9]), ([10, 6], [6, 10]), ([6], [6]), ([12, 6], [6, 12]), ([13, 6], [6, 13]), ([11, 14, 6], [6, 11, 14]), ([6, 15], [6, 15])])
def tinderref09_Formed.B17 : List Nat := [0, 1, 0, 7, 15, 31, 63, 127, 255, 127, 1023, 2047, 127, 4223, 12415, 32767, 65535]

end Go.Proofs.Ytfpkakedlapmkaa.Q
end
section
set_option linter.unusedSimpArgs false
set_option linter.unusedVariables false
namespace Go.Proofs.Ytfpkakedlapmkaa.Q
open Go.RowKit Go.Proofs.YtfpkakedlapmkaaW.PrintWords Go.Proofs.YtfpkakedlapmkaaW.PrintLast
/-! Same, of one machine twice -/
/-- Lists that a machine in memory has. -/
def GoodM (l0 l1 : List Int) (l2 : List S51) (l3 : List Int) (l5 : List S91) (l7 : List S82) : Prop :=
 l0.length < 35184372088832 ∧ l1.length < 140737488355328 ∧ (l2.length < 2199023255552 ∧ ∀ x ∈ l2, x.f4.length < 8796093022208) ∧ l3.length < 17592186044416 ∧ GoodT l5 ∧ (l7.length < 2513169434916 ∧ ∀ x ∈ l7, x.f3.length < 35184372088832)
theorem rd51_mem (t : List S51) (i : Int) (h0 : 0 ≤ i) (h1 : i < t.length) : rd_T51 t i ∈ t := by
 unfold rd_T51
 rw [List.getD_eq_getElem?_getD, List.getElem?_eq_getElem (show i.toNat < t.length by omega)]
 exact List.getElem_mem _
section
variable (l0 l1 : List Int) (l2 : List S51) (l3 : List Int) (a4 : Int) (l5 : List S91) (a6 : Int) (l7 : List S82) (a8 : Int) (a9 : ByteArray)
/-! Formed -/
theorem wform_eq (words : Int) (t : List S91) (x : S51) (hx : x.f0.size ≤ 1000000000000000) (k : Nat) (hk : 1000000000000001 ≤ k) : tinderref09_wordFormed.f k x.f0 x.f1 x.f2 x.f3 x.f4 words t = some (rightB words t x) := by
 obtain ⟨k, rfl⟩ : ∃ m, k = m + 1 := ⟨k - 1, by omega⟩
 have hj : ∀ b : Bool, 2 ≤ x.f2 → x.f2 ≤ 7 → (b = false → -1 ≤ x.f1 ∧ x.f1 < (t.length : Int)) → tinderref09_wordFormed.j0 (k + 1) words t b x.f0 x.f1 x.f2 x.f3 x.f4 = some (!b && kindB words t x) := by
  intro b q1 q2 hb
  rw [tinderref09_wordFormed.j0]
  cases b with
  | true => rfl
  | false =>
   obtain ⟨h1, h2⟩ := hb rfl
   rw [if_neg (by simp)]
   unfold kindB
   by_cases e2 : x.f2 = 2
   ·rw [if_pos e2, if_pos e2, rsound_eq _ _ _ (by omega), Option.bind_some]
    by_cases h : x.f3 = 0
    ·rw [if_pos h, beq_iff_eq.2 h]; rfl
    ·rw [if_neg h, beq_eq_false_iff_ne.2 h]; rfl
   rw [if_neg e2, if_neg e2]
   by_cases e6 : x.f2 = 6
   ·rw [if_pos e6, if_pos e6]
    by_cases h : wrap64 x.f3 < words
    ·rw [if_neg (by omega), decide_eq_true h, Bool.and_true]; rfl
    ·rw [if_pos (by omega), decide_eq_false h, Bool.and_false]; rfl
   rw [if_neg e6, if_neg e6]
   by_cases e7 : x.f2 = 7
   ·rw [if_pos e7, if_pos e7]
    by_cases h0 : x.f1 < 0
    ·rw [if_pos h0, decide_eq_false (by omega : ¬ 0 ≤ x.f1), Bool.false_and, Bool.and_false]; rfl
    ·rw [if_neg h0, if_pos (by omega), if_pos h2, decide_eq_true (by omega : 0 ≤ x.f1), Bool.true_and]
     by_cases h : wrap64 x.f3 < ((rd_T91 t x.f1).f4.length : Int)
     ·rw [if_neg (by omega), decide_eq_true h, Bool.and_true]; rfl
     ·rw [if_pos (by omega), decide_eq_false h, Bool.and_false]; rfl
   rw [if_neg e7, if_neg e7, if_pos (by omega)]
   rfl
 have main : 2 ≤ x.f2 → x.f2 ≤ 7 → (if x.f1 < -1 then tinderref09_wordFormed.j0 (k + 1) words t true x.f0 x.f1 x.f2 x.f3 x.f4 else tinderref09_wordFormed.j0 (k + 1) words t (decide (x.f1 ≥ (t.length : Int))) x.f0 x.f1 x.f2 x.f3 x.f4) = some (decide (-1 ≤ x.f1) && (decide (x.f1 < (t.length : Int)) && kindB words t x)) := by
  intro q1 q2
  by_cases h1 : x.f1 < -1
  ·rw [if_pos h1, hj true q1 q2 (fun h => by cases h), decide_eq_false (by omega : ¬ -1 ≤ x.f1)]; rfl
  ·rw [if_neg h1, decide_eq_true (by omega : -1 ≤ x.f1), hj _ q1 q2 (fun h => ⟨by omega, by have := of_decide_eq_false h; omega⟩)]
   by_cases h2 : x.f1 < (t.length : Int)
   ·rw [decide_eq_true h2, decide_eq_false (by omega)]; rfl
   ·rw [decide_eq_false h2, decide_eq_true (by omega)]; rfl
 have out : ¬ (2 ≤ x.f2 ∧ x.f2 ≤ 7) → kindB words t x = false := by
  intro h
  unfold kindB
  rw [if_neg (by omega), if_neg (by omega), if_neg (by omega), if_neg (by omega)]
 unfold tinderref09_wordFormed.f rightB
 by_cases q1 : x.f2 < 2
 ·rw [if_pos q1, tinderref09_wordFormed.j0, if_pos rfl, out (by omega), Bool.and_false, Bool.and_false, Bool.and_false]
 rw [if_neg q1]
 by_cases q2 : x.f2 > 7
 ·rw [if_pos q2, tinderref09_wordFormed.j0, if_pos rfl, out (by omega), Bool.and_false, Bool.and_false, Bool.and_false]
 rw [if_neg q2]
 by_cases h0 : x.f0.toList = ([] : List UInt8)
 ·rw [if_pos h0, main (by omega) (by omega), beq_iff_eq.2 h0]; rfl
 ·rw [if_neg h0, rnamed_eq x.f0 hx (k + 1) (by omega), Option.bind_some, beq_eq_false_iff_ne.2 h0, Bool.false_or]
  cases dNamed x.f0 with
  | true => rw [if_pos rfl, main (by omega) (by omega)]; rfl
  | false => rw [if_neg (by simp), tinderref09_wordFormed.j0, if_pos rfl]; rfl
theorem samePrim_eq (x : S51) (p : S37) (k : Nat) (hk : 2 ≤ k) : tinderref09_SameWord.f k x.f0 x.f1 x.f2 x.f3 x.f4 p.f0 (-1) 1 (p.f1 % 4294967296) [] = some (wOk x p) := by
 obtain ⟨k, rfl⟩ : ∃ m, k = m + 2 := ⟨k - 2, by omega⟩
 unfold tinderref09_SameWord.f wOk
 have ht : tinderref09_SameWord.j0 (k + 2) true x.f0 x.f1 x.f2 x.f3 x.f4 p.f0 (-1) 1 (p.f1 % 4294967296) [] = some false := by rw [tinderref09_SameWord.j0, if_pos rfl]
 by_cases h0 : x.f0.toList = p.f0.toList
 ·rw [if_pos h0, beq_iff_eq.2 h0]
  by_cases h1 : x.f1 = -1
  ·rw [if_pos h1, beq_iff_eq.2 h1]
   by_cases h2 : x.f2 = 1
   ·rw [if_pos h2, beq_iff_eq.2 h2]
    by_cases h3 : x.f3 = p.f1 % 4294967296
    ·rw [if_pos h3, beq_iff_eq.2 h3]
     by_cases h4 : x.f4.length = 0
     ·rw [show ((x.f4.length : Int) != (([] : List S69).length : Int)) = false by simp [h4], tinderref09_SameWord.j0, if_neg (by simp), tinderref09_SameWord.l0, if_neg (by omega), decide_eq_true h4]; rfl
     ·rw [show ((x.f4.length : Int) != (([] : List S69).length : Int)) = true by simp; simpa using h4, ht, decide_eq_false h4]; rfl
    ·rw [if_neg h3, ht, beq_eq_false_iff_ne.2 h3]; rfl
   ·rw [if_neg h2, ht, beq_eq_false_iff_ne.2 h2]; rfl
  ·rw [if_neg h1, ht, beq_eq_false_iff_ne.2 h1]; rfl
 ·rw [if_neg h0, ht, beq_eq_false_iff_ne.2 h0]; rfl
end
theorem ref_primsF : tinderref09_Prims.f = some primsL := rfl
section
variable (l0 l1 : List Int) (l2 : List S51) (l3 : List Int) (a4 : Int) (l5 : List S91) (a6 : Int) (l7 : List S82) (a8 : Int) (a9 : ByteArray)
def wordAt (p : List S37) (t : List S91) (l : List S51) (j : Nat) : Bool := if (j : Int) < (p.length : Int) then wOk (l.getD j z51) (p.getD j z37) else rightB l.length t (l.getD j z51)
theorem words_same (hl : ¬ l2.length < 111) : (List.range l2.length).all (wordAt primsL l5 l2) = (wordsF primsL l2 && !((l2.drop 111).any (badW l2.length l5))) := by
 rw [Bool.eq_iff_iff, Bool.and_eq_true, Bool.not_eq_true', List.all_eq_true, wordsF, List.all_eq_true, List.any_eq_false]
 constructor
 ·intro h
  refine ⟨fun j hj => ?_, fun x hx => ?_⟩
  ·have hj2 := List.mem_range.1 hj
   have h2 := h j (List.mem_range.2 (by omega))
   unfold wordAt at h2
   rw [if_pos (by rw [primsL_len]; omega)] at h2
   exact h2
  ·obtain ⟨j, hj, rfl⟩ := List.mem_iff_getElem.1 hx
   rw [List.length_drop] at hj
   have h2 := h (111 + j) (List.mem_range.2 (by omega))
   unfold wordAt at h2
   rw [if_neg (by rw [primsL_len]; omega)] at h2
   rw [List.getElem_drop]
   rw [List.getD_eq_getElem?_getD, List.getElem?_eq_getElem (show 111 + j < l2.length by omega)] at h2
   unfold badW
   simpa using h2
 ·rintro ⟨h1, h2⟩ j hj
  have hj2 := List.mem_range.1 hj
  unfold wordAt
  by_cases hlt : j < 111
  ·rw [if_pos (by rw [primsL_len]; omega)]
   exact h1 j (List.mem_range.2 hlt)
  ·rw [if_neg (by rw [primsL_len]; omega)]
   have hm : (l2.drop 111)[j - 111]'(by rw [List.length_drop]; omega) ∈ l2.drop 111 := List.getElem_mem _
   have h3 := h2 _ hm
   rw [List.getElem_drop] at h3
   rw [List.getD_eq_getElem?_getD, List.getElem?_eq_getElem hj2]
   unfold badW at h3
   simp only [show 111 + (j - 111) = j by omega] at h3
   simpa using h3
theorem codes_same : (l3.all (fun c => !wildB l2.length c)) = !(l3.any (wildB l2.length)) := by
 induction l3 with
 | nil => rfl
 | cons a l ih => rw [List.all_cons, List.any_cons, ih, Bool.not_or]
theorem self_same (h : l7.all (fun x => instOk l7 x.f0 x.f1 x.f2 x.f3 l5) = true) : livingB l7 a8 = aliveB l7 a8 := by
 unfold livingB aliveB
 by_cases h0 : 0 ≤ a8
 ·by_cases h1 : a8 < (l7.length : Int)
  ·have h3 := List.all_eq_true.1 h _ (rd82_mem l7 a8 h0 h1)
   have h4 : -1 ≤ (rd_T82 l7 a8).f0 := by
    unfold instOk at h3
    split at h3
    ·rename_i e; rw [beq_iff_eq] at e; omega
    ·simp only [Bool.and_eq_true, decide_eq_true_eq] at h3; omega
   rw [decide_eq_true h0, decide_eq_true h1, Bool.true_and, Bool.true_and, Bool.true_and, Bool.true_and, Bool.eq_iff_iff, bne_iff_ne, decide_eq_true_eq]
   omega
  ·rw [decide_eq_false h1, Bool.false_and, Bool.false_and]
 ·rw [decide_eq_false h0, Bool.false_and, Bool.false_and]
end
end Go.Proofs.Ytfpkakedlapmkaa.Q
end
section
set_option linter.unusedSimpArgs false
set_option linter.unusedVariables false
namespace Go.Proofs.Ytfpkakedlapmkaa.Q
open Go.RowKit Go.Proofs.YtfpkakedlapmkaaW.PrintWords Go.Proofs.YtfpkakedlapmkaaW.PrintLast
theorem goodT_of {z : List S91} (h1 : z.length * 96 ≤ 140737488351232) (h : ∀ a ∈ z, NodeG a) : GoodT z := by
 refine ⟨by omega, fun x hx => ?_⟩
 obtain ⟨-, h1, -, h3, h4⟩ := h x hx
 refine ⟨by have := h1.1; omega, by have := h4.1; omega, by have := h3.1; omega, fun p hp => ?_⟩
 have := (h3.2 p hp).2.1
 omega
theorem goodM_of {z : S32} (h : MachG z) : GoodM z.f0 z.f1 z.f2 z.f3 z.f5 z.f7 := by
 obtain ⟨h0, h1, h2, h3, -, h5, -, h7, -, -⟩ := h
 refine ⟨by have := h0.1; omega, by have := h1.1; omega, ⟨by have := h2.1; omega, fun x hx => ?_⟩, by have := h3.1; omega, goodT_of h5.1 h5.2, by have := h7.1; omega, fun x hx => ?_⟩
 ·have := (h2.2 x hx).2.2.2.2.1; omega
 ·have := (h7.2 x hx).2.2.2.1; omega
theorem names_of {z : S32} (h : MachG z) : ∀ x ∈ z.f2, x.f0.size ≤ 1000000000000000 := fun x hx => by
 have := (h.2.2.1.2 x hx).1
 omega
theorem shortM_of {l0 l1 : List Int} {l2 : List S51} {l3 : List Int} {l5 : List S91} {l7 : List S82} (h : GoodM l0 l1 l2 l3 l5 l7) : shortM l0 l1 l2 l3 l5 l7 = true := by
 obtain ⟨h0, h1, h2, h3, h5, h7⟩ := h
 unfold shortM
 simp only [Bool.and_eq_true, decide_eq_true_eq, List.all_eq_true]
 refine ⟨by omega, by omega, by have := h2.1; omega, by omega, short_of h5, by have := h7.1; omega, fun x hx => ?_, fun x hx => ?_⟩
 ·have := h2.2 x hx; unfold shortW; rw [decide_eq_true_eq]; omega
 ·have := h7.2 x hx; unfold shortI; rw [decide_eq_true_eq]; omega
theorem dcopy_eq {l0 l1 : List Int} {l2 : List S51} {l3 : List Int} {l5 : List S91} {l7 : List S82} (h : GoodM l0 l1 l2 l3 l5 l7) (a4 a6 a8 : Int) (a9 : ByteArray) : dict_Copy.f l0 l1 l2 l3 a4 l5 a6 l7 a8 a9 = some (l0, l1, l2, l3, a4, l5, a6, l7, a8, a9) := if_pos (shortM_of h)
end Go.Proofs.Ytfpkakedlapmkaa.Q
end
section
set_option linter.unusedSimpArgs false
set_option linter.unusedVariables false
namespace Go.Proofs.Ytfpkakedlapmkaa.Q
open Go.RowKit Go.Proofs.YtfpkakedlapmkaaW.PrintWords Go.Proofs.YtfpkakedlapmkaaW.PrintLast Go.Proofs.YtfpkakedlapmkaaW.PrintMore
attribute [local go_sem] max2_int min2_int max_two min_two max_three min_three max_four min_four
theorem len_bound : ∀ l : List S91, ∃ F, ∀ x ∈ l, x.f1.length < F
 | [] => ⟨0, fun x hx => absurd hx List.not_mem_nil⟩
 | a :: l => by
  obtain ⟨F, h⟩ := len_bound l
  refine ⟨F + a.f1.length + 1, fun x hx => ?_⟩
  rcases List.mem_cons.1 hx with rfl | hx
  ·omega
  ·have := h x hx; omega
theorem inner_max {w : World} {A : Option Addr} {l : List S91} (h : Kd.C k91 w A l.length l) : ∀ x ∈ l, x.f1.length ≤ 9223372036854775807 := fun x hx => by
 obtain ⟨j, hj, rfl⟩ := List.mem_iff_getElem.1 hx
 obtain ⟨ad, A1, c1, A3, c3, A4, c4, eA, _, _, _, _, _, hl1, hg1, _⟩ := at_T91 h (j : Int) (by omega) (by omega)
 have e : rd_T91 l (j : Int) = l[j] := by
  unfold rd_T91
  rw [List.getD_eq_getElem?_getD, show ((j : Int)).toNat = j by omega, List.getElem?_eq_getElem hj]
  rfl
 rw [e] at hg1
 exact Kd.C_max hg1
theorem pOk_at (p : List S106) (k : Int) (h : 0 ≤ k) : pOk p k.toNat = (namedF (rd_T106 p k).f0 && (decide ((rd_T106 p k).f1.length ≤ 256) && !((p.take k.toNat).any (isP (rd_T106 p k).f0)))) := rfl
set_option maxHeartbeats 2000000 in
set_option maxRecDepth 100000 in
theorem rtree_calls (A : Option Addr) (c : Nat) (l : List S91) (w : World) (hC : Kd.C k91 w A l.length l) (hc : l.length ≤ c) :
  Calls Try.prog 49 #[.slice A l.length c] w fun e w' => e = .returned (.bool (treeF l)) ∧ Below w.heap.size w w' := by
 have hu91 := Try.underlying91
 have hu106 := Try.underlying106
 have mixed : Try.prog.follows Departure.mixedOrders = true := by kernel_rfl
 obtain ⟨R, hR⟩ : ∃ R, R = treeF l := ⟨_, rfl⟩
 rw [← hR]
 by_cases z0 : (l.length : Int) < 1
 ·have d0 : decide ((l.length : Int) < 1) = true := decide_eq_true z0
  have hR2 : R = false := by rw [hR]; unfold treeF; rw [beq_iff_eq.2 (show (l.length : Int) = 0 by omega)]; rfl
  subst hR2
  clear hC hc z0 hR
  go_enter Try.func49, Try.ntmps49
  go_wp2
  go_ret
  exact ⟨rfl, Below.refl _ _⟩
 have d0 : decide ((l.length : Int) < 1) = false := decide_eq_false z0
 by_cases z1 : 32 < (l.length : Int)
 ·have d1 : decide (32 < (l.length : Int)) = true := decide_eq_true z1
  have hR2 : R = false := by rw [hR]; unfold treeF; rw [d1, Bool.not_true, Bool.false_and, Bool.and_false]
  subst hR2
  clear hC hc z0 z1 hR
  go_enter Try.func49, Try.ntmps49
  go_wp2
  go_ret
  exact ⟨rfl, Below.refl _ _⟩
 have d1 : decide (32 < (l.length : Int)) = false := decide_eq_false z1
 have hR1 : R = (rootOk (rd_T91 l 0) && (List.range l.length).all (nodeR l)) := by rw [hR]; unfold treeF; rw [beq_eq_false_iff_ne.2 (show (l.length : Int) ≠ 0 by omega), d1, node_first l (by omega)]; rfl
 clear hR
 obtain ⟨F, hF⟩ := len_bound l
 have hU := inner_max hC
 have HTW := Aside0.mk (show ∀ (W : World) (i : Int) (p : Int) (s : ByteArray) (A1 : Option Addr) (c1 : Nat) (u : List Int), Below w.heap.size w W → 0 ≤ i → i ≤ l.length → Kd.C (Kd.int .u32) W A1 u.length u → u.length ≤ c1 → Calls Try.prog 83 #[.slice A l.length c, .int .i64 i, .int .i64 p, .string s, .slice A1 u.length c1] W fun e w' => e = .returned (.bool ((l.take i.toNat).any (isN p s u))) ∧ ∃ m, w' = W.drewN m from fun W i p s A1 c1 u hb q0 q1 hu huc =>
  (tinderref08_twin.calls (l.length + F + 2) A c l i p s A1 c1 u _ W (Kd.C_below hC hb) hc hu huc (by
   have h := twin_go l p s u i.toNat (by omega) (by omega) hU F hF i.toNat (l.length + F + 2) 0 (Int.le_refl _) (by omega) (by omega)
   rw [show ((i.toNat : Nat) : Int) = i by omega] at h
   exact h)).mono fun _ _ h => ⟨h.1, h.2.out⟩)
 have HNM := Aside0.mk (show ∀ (s : ByteArray) (W : World), Calls Try.prog 82 #[.string s] W fun e w' => e = .returned (.bool (namedF s)) ∧ ∃ m, w' = W.drewN m from fun s W => (tinderref05_Named.calls 400 s (namedF s) W (refnamed_eq 400 (Nat.le_refl _) s)).mono fun _ _ h => ⟨h.1, h.2.out⟩)
 have HL := Aside0.mk (⟨by omega, by omega⟩ : 1 ≤ l.length ∧ l.length ≤ 32)
 have HC := Aside0.mk hC
 obtain ⟨ad, A1, c1, A3, c3, A4, c4, eA, hx0, hx1, hx2, hx3, hx4, hl1, hg1, hl3, hg3, hl4, hg4⟩ := at_T91 hC 0 (Int.le_refl _) (by omega)
 cases eA
 have qi : (0 < l.length) = True := eq_true (by omega)
 rw [show ((0 : Int)).toNat * 5 = 0 from rfl, Addr.add_zero'] at hx0 hx1 hx2 hx3 hx4
 have hR2 : R = (((rd_T91 l 0).f0.toList == ([] : List UInt8)) && ((((rd_T91 l 0).f1.length : Int) == 0) && ((rd_T91 l 0).f2 == -1)) && (List.range l.length).all (nodeR l)) := hR1
 clear hR1
 generalize rd_T91 l 0 = x at *
 clear hC hc z0 z1 hl1 hg1 hl3 hg3 hl4 hg4 hU hF
 cases f0 : (x.f0.toList == ([] : List UInt8)) with
 | false =>
  have d2 : (x.f0.toList != ([] : List UInt8)) = true := by rw [bne, f0]; rfl
  rw [f0] at hR2
  have hR3 : R = false := hR2
  subst hR3
  clear hR2
  go_enter Try.func49, Try.ntmps49
  go_wp2
  go_ret
  exact ⟨rfl, Below.refl _ _⟩
 | true =>
 have d2 : (x.f0.toList != ([] : List UInt8)) = false := by rw [bne, f0]; rfl
 rw [f0] at hR2
 cases f1 : ((x.f1.length : Int) == 0) with
 | false =>
  have d3 : decide (0 < (x.f1.length : Int)) = true := decide_eq_true (by have := beq_eq_false_iff_ne.1 f1; omega)
  have d3' : decide (0 < x.f1.length) = true := decide_eq_true (by have := beq_eq_false_iff_ne.1 f1; omega)
  rw [f1] at hR2
  have hR3 : R = false := hR2
  subst hR3
  clear hR2
  go_enter Try.func49, Try.ntmps49
  go_wp2
  go_ret
  exact ⟨rfl, Below.refl _ _⟩
 | true =>
 have d3 : decide (0 < (x.f1.length : Int)) = false := decide_eq_false (by have := beq_iff_eq.1 f1; omega)
 have d3' : decide (0 < x.f1.length) = false := decide_eq_false (by have := beq_iff_eq.1 f1; omega)
 rw [f1] at hR2
 cases f2 : (x.f2 == -1) with
 | false =>
  have d4 : (x.f2 != -1) = true := by rw [bne, f2]; rfl
  rw [f2] at hR2
  have hR3 : R = false := hR2
  subst hR3
  clear hR2
  go_enter Try.func49, Try.ntmps49
  go_wp2
  go_ret
  exact ⟨rfl, Below.refl _ _⟩
 | true =>
 have d4 : (x.f2 != -1) = false := by rw [bne, f2]; rfl
 rw [f2] at hR2
 have hR3 : R = (List.range l.length).all (nodeR l) := hR2
 clear hR2
 have HF := Aside0.mk (show ∀ i : Int, 0 ≤ i → i < l.length → nodeR l i.toNat = false → R = false from fun i q0 q1 hf => by
  rw [hR3, Bool.eq_false_iff]
  intro h
  have := List.all_eq_true.1 h i.toNat (List.mem_range.2 (by omega))
  rw [hf] at this
  cases this)
 have HT := Aside0.mk (show (∀ j : Nat, j < l.length → nodeR l j = true) → R = true from fun h => by
  rw [hR3]
  exact List.all_eq_true.2 fun j hj => h j (List.mem_range.1 hj))
 clear hR3
 go_enter Try.func49, Try.ntmps49
 go_wp2
 clear hx0 hx1 hx2 hx3 hx4 d2 d3 d3' d4 f0 f1 f2
 go_loopg [3] l.length (fun kq v3 w' => ∃ i : Int, v3 = .int .i64 i ∧ Aside0 (0 ≤ i ∧ i + kq = l.length) ∧ Aside0 (∀ j : Nat, j < i.toNat → nodeR l j = true) ∧ Aside0 (Below w.heap.size w w'))
 case atStart => exact ⟨0, rfl, ⟨by omega, by omega⟩, ⟨fun j hj => absurd hj (by simp)⟩, ⟨Below.refl _ _⟩⟩
 case round =>
  obtain ⟨i, rfl, HI, HZ, HB⟩ := hrel
  cases gk with
  | zero =>
   have hlt : decide (i < (l.length : Int)) = false := decide_eq_false (by have := HI.out; omega)
   go_wp2
   go_ret
   exact ⟨by rw [HT.out (fun j hj => HZ.out j (by have := HI.out; omega))]; rfl, HB.out⟩
  | succ k1 =>
   have hi := HI.out
   have hlt : decide (i < (l.length : Int)) = true := decide_eq_true (by omega)
   have p1 : (0 ≤ i) = True := eq_true (by omega)
   have p2 : (i < (l.length : Int)) = True := eq_true (by omega)
   have hwr : IntKind.i64.wrap (i + 1) = i + 1 := (i64_w _).trans (by have := HL.out; unfold wrap64; omega)
   have hwr2 : wrap64 (i + 1) = i + 1 := by have := HL.out; unfold wrap64; omega
   obtain ⟨bd, A1, c1, A3, c3, A4, c4, eA, hx0, hx1, hx2, hx3, hx4, hl1, hg1, hl3, hg3, hl4, hg4⟩ := at_T91 (Kd.C_below HC.out HB.out) i (by omega) (by omega)
   cases eA
   have HFF := Aside0.mk (HF.out i (by omega) (by omega))
   have HZ2 := Aside0.mk (show nodeR l i.toNat = true → ∀ j : Nat, j < (i + 1).toNat → nodeR l j = true from fun h j hj => by
    by_cases e : j = i.toNat
    ·subst e; exact h
    ·exact HZ.out j (by omega))
   have HPO := Aside0.mk (show nodeR l i.toNat = ((!decide (16 < ((rd_T91 l i).f4.length : Int)) && propsF (rd_T91 l i).f3) && (if i == 0 then true else kidOk (l.take i.toNat) i (rd_T91 l i))) by
    have e : ((i.toNat : Nat) : Int) = i := by omega
    unfold nodeR
    rw [e]
    rfl)
   have HTX := Aside0.mk (fun (W : World) (hb : Below wr.heap.size wr W) => HTW.out W i (rd_T91 l i).f2 (rd_T91 l i).f0 A1 c1 (rd_T91 l i).f1 (below_step HB.out hb) (by omega) (by omega) (Kd.C_below hg1 hb) hl1)
   have HG3 := Aside0.mk hg3
   have HL3 := Aside0.mk hl3
   generalize rd_T91 l i = x at *
   have HNA := Aside0.mk (HNM.out x.f0)
   have HBXN := Aside0.mk (blk_new wr (.cells #[.string x.f0, .slice A1 x.f1.length c1, .int .i64 x.f2, .slice A3 x.f3.length c3, .slice A4 x.f4.length c4] 91))
   have HBW := Aside0.mk (below_alloc (Below.refl wr.heap.size wr) (.cells #[.string x.f0, .slice A1 x.f1.length c1, .int .i64 x.f2, .slice A3 x.f3.length c3, .slice A4 x.f4.length c4] 91 (0, 0)))
   have hyz0 := (blk_cell HBXN.out 0).trans rfl
   have hyz1 := (blk_cell HBXN.out 1).trans rfl
   have hyz2 := (blk_cell HBXN.out 2).trans rfl
   have hyz3 := (blk_cell HBXN.out 3).trans rfl
   have hyz4 := (blk_cell HBXN.out 4).trans rfl
   clear hi hl1 hg1 hl3 hg3 hl4 hg4
   have HK := Aside0.mk (show kidOk (l.take i.toNat) i x = (namedF x.f0 && (!decide (4 < (x.f1.length : Int)) && (!decide (x.f2 < 0) && (!decide (i ≤ x.f2) && !(l.take i.toNat).any (isN x.f2 x.f0 x.f1))))) from rfl)
   have HBAD := Aside0.mk (show i ≠ 0 → kidOk (l.take i.toNat) i x = false → R = false from fun h1 h2 => HFF.out (by rw [HPO.out, if_neg (by simpa using h1), h2, Bool.and_false]))
   generalize (l.take i.toNat).any (isN x.f2 x.f0 x.f1) = an at HTX HK
   generalize kidOk (l.take i.toNat) i x = kk at HK HBAD HPO
   generalize namedF x.f0 = nf at HNA HK
   cases g1 : decide (0 < i) with
   | false =>
    have KO := Aside0.mk (show (if i == 0 then true else kk) = true by rw [if_pos (by simp; have := of_decide_eq_false g1; have := HI.out; omega)])
    cases e0 : decide (16 < (x.f3.length : Int)) with
    | true =>
     have HRF := Aside0.mk (HFF.out (by rw [HPO.out, show propsF x.f3 = false by unfold propsF; rw [decide_eq_false (by have := of_decide_eq_true e0; omega)]; rfl, Bool.and_false, Bool.false_and]))
     go_wp2
     go_ret
     exact ⟨by rw [HRF.out]; rfl, below_step HB.out (by first | exact HBW.out | exact pw_below_drewN HBW.out _ | exact pw_below_drewN (pw_below_drewN HBW.out _) _)⟩
    | false =>
    cases e9 : decide (16 < (x.f4.length : Int)) with
    | true =>
     have HRF := Aside0.mk (HFF.out (by rw [HPO.out, e9]; rfl))
     go_wp2
     go_ret
     exact ⟨by rw [HRF.out]; rfl, below_step HB.out (by first | exact HBW.out | exact pw_below_drewN HBW.out _ | exact pw_below_drewN (pw_below_drewN HBW.out _) _)⟩
    | false =>
    have HPF := Aside0.mk (show ∀ k : Int, 0 ≤ k → k < x.f3.length → pOk x.f3 k.toNat = false → R = false from fun k q0 q1 hf => HFF.out (by rw [HPO.out, show propsF x.f3 = false by unfold propsF; rw [Bool.and_eq_false_iff]; right; rw [Bool.eq_false_iff]; intro h; have := List.all_eq_true.1 h k.toNat (List.mem_range.2 (by omega)); rw [hf] at this; exact Bool.false_ne_true this, Bool.and_false, Bool.false_and]))
    have HPT := Aside0.mk (show (∀ k : Nat, k < x.f3.length → pOk x.f3 k = true) → ∀ j : Nat, j < (i + 1).toNat → nodeR l j = true from fun h => HZ2.out (by rw [HPO.out, e9, show propsF x.f3 = true by unfold propsF; rw [decide_eq_true (by have := of_decide_eq_false e0; omega), Bool.true_and]; exact List.all_eq_true.2 fun k hk => h k (List.mem_range.1 hk), KO.out]; rfl))
    have HLX := Aside0.mk (show x.f3.length ≤ 16 by have := of_decide_eq_false e0; omega)
    clear HFF HZ2 HPO HK HBAD KO
    go_wp2
    clear hyz0 hyz1 hyz2 hyz3 hyz4
    go_loopg [5] x.f3.length (fun kq v5 w' => ∃ k : Int, v5 = .int .i64 k ∧ Aside0 (0 ≤ k ∧ k + kq = x.f3.length) ∧ Aside0 (∀ j : Nat, j < k.toNat → pOk x.f3 j = true) ∧ Aside0 (w'.heap[wr.heap.size]? = some (.cells #[.string x.f0, .slice A1 x.f1.length c1, .int .i64 x.f2, .slice A3 x.f3.length c3, .slice A4 x.f4.length c4] 91 (0, 0))) ∧ Aside0 (Below wr.heap.size wr w'))
    case atStart => exact ⟨0, rfl, ⟨by omega, by omega⟩, ⟨fun j hj => absurd hj (by simp)⟩, ⟨HBXN.out⟩, ⟨by first | exact HBW.out | exact pw_below_drewN HBW.out _ | exact pw_below_drewN (pw_below_drewN HBW.out _) _⟩⟩
    case round =>
     clear HBXN HBW
     obtain ⟨k, rfl, HI2, HZ3, HBX, HBV⟩ := hrel
     rename World => wa
     have hyz3 := (blk_cell HBX.out 3).trans rfl
     cases gk with
     | zero =>
      have hlt : decide (k < (x.f3.length : Int)) = false := decide_eq_false (by have := HI2.out; omega)
      go_wp2
      go_roundg k1
      case measure => omega
      case rel => exact ⟨i + 1, rfl, ⟨by have := HI.out; omega, by have := HI.out; omega⟩, ⟨HPT.out (fun j hj => HZ3.out j (by have := HI2.out; omega))⟩, ⟨below_step HB.out HBV.out⟩⟩
     | succ k2 =>
      have hk := HI2.out
      have hlt : decide (k < (x.f3.length : Int)) = true := decide_eq_true (by omega)
      have r1 : (0 ≤ k) = True := eq_true (by omega)
      have r2 : (k < (x.f3.length : Int)) = True := eq_true (by omega)
      have hwk : IntKind.i64.wrap (k + 1) = k + 1 := (i64_w _).trans (by have := HLX.out; unfold wrap64; omega)
      have hwk2 : wrap64 (k + 1) = k + 1 := by have := HLX.out; unfold wrap64; omega
      have hcut := run_cut_hi (P := Try.prog) Try.underlying89 info106s A3 x.f3.length c3 k (by omega) (by have := HL3.out; omega)
      have hTL : (x.f3.take k.toNat).length = k.toNat := by rw [List.length_take]; omega
      rw [← hTL] at hcut
      have HFN := Aside0.mk (show ∀ (W : World) (s : ByteArray), Below wr.heap.size wr W → Calls Try.prog 84 #[.slice A3 (x.f3.take k.toNat).length c3, .string s] W fun e w' => e = .returned (.int .i64 (idxP (isP s) (x.f3.take k.toNat))) ∧ ∃ m, w' = W.drewN m from fun W s hb => (tinderref08_find.calls 40 A3 c3 (x.f3.take k.toNat) s _ W (Kd.C_take (Kd.C_below HG3.out hb) (by omega)) (by have := HL3.out; omega) (pfind_eq _ s (by have := HLX.out; omega) 40 (by have := HLX.out; omega))).mono fun _ _ h => ⟨h.1, h.2.out⟩)
      obtain ⟨pd, P1, q1, eP, hv0, hv1, ml1, mg1⟩ := at_T106 (Kd.C_below HG3.out HBV.out) k (by omega) (by omega)
      cases eP
      have HPK := Aside0.mk (HPF.out k (by omega) (by omega))
      have HZ4 := Aside0.mk (show pOk x.f3 k.toNat = true → ∀ j : Nat, j < (k + 1).toNat → pOk x.f3 j = true from fun h j hj => by
       by_cases e : j = k.toNat
       ·subst e; exact h
       ·exact HZ3.out j (by omega))
      rw [pOk_at _ _ (by omega)] at HPK HZ4
      have HAN := Aside0.mk (idxP_any (isP (rd_T106 x.f3 k).f0) (x.f3.take k.toNat))
      have HFX := Aside0.mk (fun (n : Nat) => HFN.out (wa.drewN n) (rd_T106 x.f3 k).f0 (pw_below_drewN HBV.out n))
      have HNX := Aside0.mk (HNM.out (rd_T106 x.f3 k).f0)
      generalize rd_T106 x.f3 k = y at *
      clear HFN hk ml1 mg1 hTL
      generalize idxP (isP y.f0) (x.f3.take k.toNat) = ix at HAN HFX
      rw [← HAN.out] at HPK HZ4
      clear HAN
      generalize x.f3.take k.toNat = LT at *
      generalize namedF y.f0 = nn at HNX HPK HZ4
      cases nn with
      | false =>
       have HRF := Aside0.mk (HPK.out (by rfl))
       go_wp2
       go_quiet ((go_at_call 82; exact Calls.quiet_of (HNX.out _)))
       go_wp2
       go_ret
       exact ⟨by rw [HRF.out]; rfl, below_step HB.out (by first | exact HBV.out | exact pw_below_drewN HBV.out _)⟩
      | true =>
      cases e2 : decide (256 < (y.f1.length : Int)) with
      | true =>
       have HRF := Aside0.mk (HPK.out (by rw [decide_eq_false (by have := of_decide_eq_true e2; omega : ¬ y.f1.length ≤ 256)]; rfl))
       go_wp2
       go_quiet ((go_at_call 82; exact Calls.quiet_of (HNX.out _)))
       go_wp2
       go_ret
       exact ⟨by rw [HRF.out]; rfl, below_step HB.out (by first | exact HBV.out | exact pw_below_drewN HBV.out _)⟩
      | false =>
      cases e3 : decide (0 ≤ ix) with
      | true =>
       have HRF := Aside0.mk (HPK.out (by rw [decide_eq_true (by have := of_decide_eq_false e2; omega : y.f1.length ≤ 256), e3]; rfl))
       go_wp2
       go_quiet (first | (go_at_call 82; exact Calls.quiet_of (HNX.out _)) | (go_at_call 84; exact Calls.quiet_of (HFX.out _)))
       go_wp2
       go_ret
       exact ⟨by rw [HRF.out]; rfl, below_step HB.out (by first | exact HBV.out | exact pw_below_drewN HBV.out _)⟩
      | false =>
       have HZ5 := Aside0.mk (HZ4.out (by rw [decide_eq_true (by have := of_decide_eq_false e2; omega : y.f1.length ≤ 256), e3]; rfl))
       go_wp2
       go_quiet (first | (go_at_call 82; exact Calls.quiet_of (HNX.out _)) | (go_at_call 84; exact Calls.quiet_of (HFX.out _)))
       go_wp2
       go_roundg k2
       case measure => omega
       case rel => exact ⟨k + 1, rfl, ⟨by have := HI2.out; omega, by have := HI2.out; omega⟩, HZ5, ⟨HBX.out⟩, ⟨by first | exact HBV.out | exact pw_below_drewN HBV.out _⟩⟩
   | true =>
    cases nf with
    | false =>
     have HRF := Aside0.mk (HBAD.out (by have := of_decide_eq_true g1; omega) (by rw [HK.out]; rfl))
     go_wp2_with (go_at_call 82; (with_reducible refine (HNA.out _).mono ?_); rintro e w4 ⟨rfl, n4, rfl⟩)
     go_ret
     exact ⟨by rw [HRF.out]; rfl, below_step HB.out (by first | exact HBW.out | exact pw_below_drewN HBW.out _ | exact pw_below_drewN (pw_below_drewN HBW.out _) _)⟩
    | true =>
    cases e4 : decide (4 < (x.f1.length : Int)) with
    | true =>
     have HRF := Aside0.mk (HBAD.out (by have := of_decide_eq_true g1; omega) (by rw [HK.out]; rw [e4]; rfl))
     go_wp2_with (go_at_call 82; (with_reducible refine (HNA.out _).mono ?_); rintro e w4 ⟨rfl, n4, rfl⟩)
     go_ret
     exact ⟨by rw [HRF.out]; rfl, below_step HB.out (by first | exact HBW.out | exact pw_below_drewN HBW.out _ | exact pw_below_drewN (pw_below_drewN HBW.out _) _)⟩
    | false =>
    cases e5 : decide (x.f2 < 0) with
    | true =>
     have HRF := Aside0.mk (HBAD.out (by have := of_decide_eq_true g1; omega) (by rw [HK.out]; rw [e4, e5]; rfl))
     go_wp2_with (go_at_call 82; (with_reducible refine (HNA.out _).mono ?_); rintro e w4 ⟨rfl, n4, rfl⟩)
     go_ret
     exact ⟨by rw [HRF.out]; rfl, below_step HB.out (by first | exact HBW.out | exact pw_below_drewN HBW.out _ | exact pw_below_drewN (pw_below_drewN HBW.out _) _)⟩
    | false =>
    cases e6 : decide (i ≤ x.f2) with
    | true =>
     have HRF := Aside0.mk (HBAD.out (by have := of_decide_eq_true g1; omega) (by rw [HK.out]; rw [e4, e5, e6]; rfl))
     go_wp2_with (go_at_call 82; (with_reducible refine (HNA.out _).mono ?_); rintro e w4 ⟨rfl, n4, rfl⟩)
     go_ret
     exact ⟨by rw [HRF.out]; rfl, below_step HB.out (by first | exact HBW.out | exact pw_below_drewN HBW.out _ | exact pw_below_drewN (pw_below_drewN HBW.out _) _)⟩
    | false =>
    cases an with
    | true =>
     have HRF := Aside0.mk (HBAD.out (by have := of_decide_eq_true g1; omega) (by rw [HK.out]; rw [e4, e5, e6]; rfl))
     go_wp2_with (first | (go_at_call 82; (with_reducible refine (HNA.out _).mono ?_); rintro e w4 ⟨rfl, n4, rfl⟩) | (go_at_call 83; (with_reducible refine (HTX.out _ (by first | exact HBW.out | exact pw_below_drewN HBW.out _ | exact pw_below_drewN (pw_below_drewN HBW.out _) _)).mono ?_); rintro e w5 ⟨rfl, n5, rfl⟩))
     go_ret
     exact ⟨by rw [HRF.out]; rfl, below_step HB.out (by first | exact HBW.out | exact pw_below_drewN HBW.out _ | exact pw_below_drewN (pw_below_drewN HBW.out _) _)⟩
    | false =>
     have KO := Aside0.mk (show (if i == 0 then true else kk) = true by rw [HK.out, e4, e5, e6]; split <;> rfl)
     cases e0 : decide (16 < (x.f3.length : Int)) with
     | true =>
      have HRF := Aside0.mk (HFF.out (by rw [HPO.out, show propsF x.f3 = false by unfold propsF; rw [decide_eq_false (by have := of_decide_eq_true e0; omega)]; rfl, Bool.and_false, Bool.false_and]))
      go_wp2_with (first | (go_at_call 82; (with_reducible refine (HNA.out _).mono ?_); rintro e w4 ⟨rfl, n4, rfl⟩) | (go_at_call 83; (with_reducible refine (HTX.out _ (by first | exact HBW.out | exact pw_below_drewN HBW.out _ | exact pw_below_drewN (pw_below_drewN HBW.out _) _)).mono ?_); rintro e w5 ⟨rfl, n5, rfl⟩))
      go_ret
      exact ⟨by rw [HRF.out]; rfl, below_step HB.out (by first | exact HBW.out | exact pw_below_drewN HBW.out _ | exact pw_below_drewN (pw_below_drewN HBW.out _) _)⟩
     | false =>
     cases e9 : decide (16 < (x.f4.length : Int)) with
     | true =>
      have HRF := Aside0.mk (HFF.out (by rw [HPO.out, e9]; rfl))
      go_wp2_with (first | (go_at_call 82; (with_reducible refine (HNA.out _).mono ?_); rintro e w4 ⟨rfl, n4, rfl⟩) | (go_at_call 83; (with_reducible refine (HTX.out _ (by first | exact HBW.out | exact pw_below_drewN HBW.out _ | exact pw_below_drewN (pw_below_drewN HBW.out _) _)).mono ?_); rintro e w5 ⟨rfl, n5, rfl⟩))
      go_ret
      exact ⟨by rw [HRF.out]; rfl, below_step HB.out (by first | exact HBW.out | exact pw_below_drewN HBW.out _ | exact pw_below_drewN (pw_below_drewN HBW.out _) _)⟩
     | false =>
     have HPF := Aside0.mk (show ∀ k : Int, 0 ≤ k → k < x.f3.length → pOk x.f3 k.toNat = false → R = false from fun k q0 q1 hf => HFF.out (by rw [HPO.out, show propsF x.f3 = false by unfold propsF; rw [Bool.and_eq_false_iff]; right; rw [Bool.eq_false_iff]; intro h; have := List.all_eq_true.1 h k.toNat (List.mem_range.2 (by omega)); rw [hf] at this; exact Bool.false_ne_true this, Bool.and_false, Bool.false_and]))
     have HPT := Aside0.mk (show (∀ k : Nat, k < x.f3.length → pOk x.f3 k = true) → ∀ j : Nat, j < (i + 1).toNat → nodeR l j = true from fun h => HZ2.out (by rw [HPO.out, e9, show propsF x.f3 = true by unfold propsF; rw [decide_eq_true (by have := of_decide_eq_false e0; omega), Bool.true_and]; exact List.all_eq_true.2 fun k hk => h k (List.mem_range.1 hk), KO.out]; rfl))
     have HLX := Aside0.mk (show x.f3.length ≤ 16 by have := of_decide_eq_false e0; omega)
     clear HFF HZ2 HPO HK HBAD KO
     go_wp2_with (first | (go_at_call 82; (with_reducible refine (HNA.out _).mono ?_); rintro e w4 ⟨rfl, n4, rfl⟩) | (go_at_call 83; (with_reducible refine (HTX.out _ (by first | exact HBW.out | exact pw_below_drewN HBW.out _ | exact pw_below_drewN (pw_below_drewN HBW.out _) _)).mono ?_); rintro e w5 ⟨rfl, n5, rfl⟩))
     clear hyz0 hyz1 hyz2 hyz3 hyz4
     go_loopg [5] x.f3.length (fun kq v5 w' => ∃ k : Int, v5 = .int .i64 k ∧ Aside0 (0 ≤ k ∧ k + kq = x.f3.length) ∧ Aside0 (∀ j : Nat, j < k.toNat → pOk x.f3 j = true) ∧ Aside0 (w'.heap[wr.heap.size]? = some (.cells #[.string x.f0, .slice A1 x.f1.length c1, .int .i64 x.f2, .slice A3 x.f3.length c3, .slice A4 x.f4.length c4] 91 (0, 0))) ∧ Aside0 (Below wr.heap.size wr w'))
     case atStart => exact ⟨0, rfl, ⟨by omega, by omega⟩, ⟨fun j hj => absurd hj (by simp)⟩, ⟨HBXN.out⟩, ⟨by first | exact HBW.out | exact pw_below_drewN HBW.out _ | exact pw_below_drewN (pw_below_drewN HBW.out _) _⟩⟩
     case round =>
      clear HBXN HBW
      obtain ⟨k, rfl, HI2, HZ3, HBX, HBV⟩ := hrel
      rename World => wa
      have hyz3 := (blk_cell HBX.out 3).trans rfl
      cases gk with
      | zero =>
       have hlt : decide (k < (x.f3.length : Int)) = false := decide_eq_false (by have := HI2.out; omega)
       go_wp2
       go_roundg k1
       case measure => omega
       case rel => exact ⟨i + 1, rfl, ⟨by have := HI.out; omega, by have := HI.out; omega⟩, ⟨HPT.out (fun j hj => HZ3.out j (by have := HI2.out; omega))⟩, ⟨below_step HB.out HBV.out⟩⟩
      | succ k2 =>
       have hk := HI2.out
       have hlt : decide (k < (x.f3.length : Int)) = true := decide_eq_true (by omega)
       have r1 : (0 ≤ k) = True := eq_true (by omega)
       have r2 : (k < (x.f3.length : Int)) = True := eq_true (by omega)
       have hwk : IntKind.i64.wrap (k + 1) = k + 1 := (i64_w _).trans (by have := HLX.out; unfold wrap64; omega)
       have hwk2 : wrap64 (k + 1) = k + 1 := by have := HLX.out; unfold wrap64; omega
       have hcut := run_cut_hi (P := Try.prog) Try.underlying89 info106s A3 x.f3.length c3 k (by omega) (by have := HL3.out; omega)
       have hTL : (x.f3.take k.toNat).length = k.toNat := by rw [List.length_take]; omega
       rw [← hTL] at hcut
       have HFN := Aside0.mk (show ∀ (W : World) (s : ByteArray), Below wr.heap.size wr W → Calls Try.prog 84 #[.slice A3 (x.f3.take k.toNat).length c3, .string s] W fun e w' => e = .returned (.int .i64 (idxP (isP s) (x.f3.take k.toNat))) ∧ ∃ m, w' = W.drewN m from fun W s hb => (tinderref08_find.calls 40 A3 c3 (x.f3.take k.toNat) s _ W (Kd.C_take (Kd.C_below HG3.out hb) (by omega)) (by have := HL3.out; omega) (pfind_eq _ s (by have := HLX.out; omega) 40 (by have := HLX.out; omega))).mono fun _ _ h => ⟨h.1, h.2.out⟩)
       obtain ⟨pd, P1, q1, eP, hv0, hv1, ml1, mg1⟩ := at_T106 (Kd.C_below HG3.out HBV.out) k (by omega) (by omega)
       cases eP
       have HPK := Aside0.mk (HPF.out k (by omega) (by omega))
       have HZ4 := Aside0.mk (show pOk x.f3 k.toNat = true → ∀ j : Nat, j < (k + 1).toNat → pOk x.f3 j = true from fun h j hj => by
        by_cases e : j = k.toNat
        ·subst e; exact h
        ·exact HZ3.out j (by omega))
       rw [pOk_at _ _ (by omega)] at HPK HZ4
       have HAN := Aside0.mk (idxP_any (isP (rd_T106 x.f3 k).f0) (x.f3.take k.toNat))
       have HFX := Aside0.mk (fun (n : Nat) => HFN.out (wa.drewN n) (rd_T106 x.f3 k).f0 (pw_below_drewN HBV.out n))
       have HNX := Aside0.mk (HNM.out (rd_T106 x.f3 k).f0)
       generalize rd_T106 x.f3 k = y at *
       clear HFN hk ml1 mg1 hTL
       generalize idxP (isP y.f0) (x.f3.take k.toNat) = ix at HAN HFX
       rw [← HAN.out] at HPK HZ4
       clear HAN
       generalize x.f3.take k.toNat = LT at *
       generalize namedF y.f0 = nn at HNX HPK HZ4
       cases nn with
       | false =>
        have HRF := Aside0.mk (HPK.out (by rfl))
        go_wp2
        go_quiet ((go_at_call 82; exact Calls.quiet_of (HNX.out _)))
        go_wp2
        go_ret
        exact ⟨by rw [HRF.out]; rfl, below_step HB.out (by first | exact HBV.out | exact pw_below_drewN HBV.out _)⟩
       | true =>
       cases e2 : decide (256 < (y.f1.length : Int)) with
       | true =>
        have HRF := Aside0.mk (HPK.out (by rw [decide_eq_false (by have := of_decide_eq_true e2; omega : ¬ y.f1.length ≤ 256)]; rfl))
        go_wp2
        go_quiet ((go_at_call 82; exact Calls.quiet_of (HNX.out _)))
        go_wp2
        go_ret
        exact ⟨by rw [HRF.out]; rfl, below_step HB.out (by first | exact HBV.out | exact pw_below_drewN HBV.out _)⟩
       | false =>
       cases e3 : decide (0 ≤ ix) with
       | true =>
        have HRF := Aside0.mk (HPK.out (by rw [decide_eq_true (by have := of_decide_eq_false e2; omega : y.f1.length ≤ 256), e3]; rfl))
        go_wp2
        go_quiet (first | (go_at_call 82; exact Calls.quiet_of (HNX.out _)) | (go_at_call 84; exact Calls.quiet_of (HFX.out _)))
        go_wp2
        go_ret
        exact ⟨by rw [HRF.out]; rfl, below_step HB.out (by first | exact HBV.out | exact pw_below_drewN HBV.out _)⟩
       | false =>
        have HZ5 := Aside0.mk (HZ4.out (by rw [decide_eq_true (by have := of_decide_eq_false e2; omega : y.f1.length ≤ 256), e3]; rfl))
        go_wp2
        go_quiet (first | (go_at_call 82; exact Calls.quiet_of (HNX.out _)) | (go_at_call 84; exact Calls.quiet_of (HFX.out _)))
        go_wp2
        go_roundg k2
        case measure => omega
        case rel => exact ⟨k + 1, rfl, ⟨by have := HI2.out; omega, by have := HI2.out; omega⟩, HZ5, ⟨HBX.out⟩, ⟨by first | exact HBV.out | exact pw_below_drewN HBV.out _⟩⟩
end Go.Proofs.Ytfpkakedlapmkaa.Q
end
section
set_option linter.unusedSimpArgs false
set_option linter.unusedVariables false
namespace Go.Proofs.Ytfpkakedlapmkaa.Q
open Go.RowKit Go.Proofs.YtfpkakedlapmkaaW.PrintWords Go.Proofs.YtfpkakedlapmkaaW.PrintLast Go.Proofs.YtfpkakedlapmkaaW.PrintMore
attribute [local go_sem] max2_int min2_int max_two min_two max_three min_three max_four min_four
def instsE (l : List S82) : Bool := (List.range l.length).all (fun (j : Nat) => endsN 18 l (rd_T82 l (j : Int)).f1)
def instsR (l : List S82) (t : List S91) : Bool := !decide (16 < (l.length : Int)) && (l.all (fun x => instOkR l x.f0 x.f1 x.f2 x.f3 t) && instsE l)
theorem instsR_eq (l : List S82) (t : List S91) : instsR l t = (!decide (16 < (l.length : Int)) && (l.all (fun x => instOk l x.f0 x.f1 x.f2 x.f3 t) && (List.range l.length).all (fun i => endsN (l.length + 1) l (i : Int)))) := by
 unfold instsR
 by_cases hl : (16 : Int) < (l.length : Int)
 ·rw [decide_eq_true hl]; rfl
 ·rw [decide_eq_false hl, ← instsR_same]
  cases h : l.all (fun x => instOk l x.f0 x.f1 x.f2 x.f3 t) with
  | false => rfl
  | true =>
   have hp := okPar_of t l h
   have e : instsE l = (List.range l.length).all (fun i => endsN (l.length + 1) l (i : Int)) := by
    unfold instsE
    rw [Bool.eq_iff_iff, List.all_eq_true, List.all_eq_true]
    have key : ∀ j, j ∈ List.range l.length → endsN 18 l (rd_T82 l (j : Int)).f1 = endsN (l.length + 1) l (j : Int) := fun j hj => by
     have hj2 := List.mem_range.1 hj
     have h19 := ends_19 l hp (j : Int) (by omega) (by omega) (by omega)
     rw [← h19, show endsN 19 l (j : Int) = (((j : Int) == -1) || endsN 18 l (rd_T82 l (j : Int)).f1) from rfl, beq_eq_false_iff_ne.2 (by omega), Bool.false_or]
    exact ⟨fun h j hj => by rw [← key j hj]; exact h j hj, fun h j hj => by rw [key j hj]; exact h j hj⟩
   rw [e]
set_option maxHeartbeats 8000000 in
set_option maxRecDepth 100000 in
theorem rinsts_calls (A : Option Addr) (c : Nat) (l : List S82) (AT : Option Addr) (ct : Nat) (t : List S91) (w : World) (hr : Kd.C k82 w A l.length l) (hc : l.length ≤ c) (ht : Kd.C k91 w AT t.length t) :
  Calls Try.prog 50 #[.slice A l.length c, .slice AT t.length ct] w fun e w' => e = .returned (.bool (instsR l t)) ∧ Below w.heap.size w w' := by
 have hu82 := Try.underlying82
 have hu91 := Try.underlying91
 have mixed : Try.prog.follows Departure.mixedOrders = true := by kernel_rfl
 obtain ⟨R, hR⟩ : ∃ R, R = instsR l t := ⟨_, rfl⟩
 rw [← hR]
 by_cases h16 : (16 : Int) < (l.length : Int)
 ·have d0 : decide ((16 : Int) < (l.length : Int)) = true := decide_eq_true h16
  have hR2 : R = false := by rw [hR]; unfold instsR; rw [d0]; rfl
  subst hR2
  clear hr ht h16 hR
  go_enter Try.func50, Try.ntmps50
  go_wp2
  go_ret
  exact ⟨rfl, Below.refl _ _⟩
 have d0 : decide ((16 : Int) < (l.length : Int)) = false := decide_eq_false h16
 have hR2 : R = (l.all (fun x => instOkR l x.f0 x.f1 x.f2 x.f3 t) && instsE l) := by rw [hR]; unfold instsR; rw [d0]; rfl
 have HF := Aside0.mk (show ∀ i : Int, 0 ≤ i → i < l.length → instOkR l (rd_T82 l i).f0 (rd_T82 l i).f1 (rd_T82 l i).f2 (rd_T82 l i).f3 t = false → R = false from fun i q0 q1 hf => by
  rw [hR2, show l.all (fun x => instOkR l x.f0 x.f1 x.f2 x.f3 t) = false from by
   rw [Bool.eq_false_iff]
   intro h
   have := List.all_eq_true.1 h _ (rd82_mem l i q0 q1)
   rw [hf] at this
   cases this]
  rfl)
 have HT := Aside0.mk (show (∀ j : Nat, j < l.length → instOkR l (l.getD j z82).f0 (l.getD j z82).f1 (l.getD j z82).f2 (l.getD j z82).f3 t = true) → okPar l ∧ R = instsE l from fun h => by
  have ha : l.all (fun x => instOkR l x.f0 x.f1 x.f2 x.f3 t) = true := List.all_eq_true.2 fun x hx => by
   obtain ⟨j, hj, rfl⟩ := List.mem_iff_getElem.1 hx
   have h2 := h j hj
   rw [List.getD_eq_getElem?_getD, List.getElem?_eq_getElem hj] at h2
   exact h2
  refine ⟨okPar_of t l (by rw [instsR_same]; exact ha), ?_⟩
  rw [hR2, ha]
  rfl)
 have H16 := Aside0.mk h16
 have HC := Aside0.mk hr
 have HCT := Aside0.mk ht
 have HLV := Aside0.mk (show ∀ (W : World) (n : Int), Below w.heap.size w W → Calls Try.prog 51 #[.slice A l.length c, .int .i64 n] W fun e w' => e = .returned (.bool (aliveB l n)) ∧ ∃ m, w' = W.drewN m from fun W n hb => (tinderref09_alive.calls A c l n (aliveB l n) W (Kd.C_below hr hb) hc (ralive_eq l n)).mono fun _ _ h => ⟨h.1, h.2.out⟩)
 clear hr hc ht hR hR2 h16
 go_enter Try.func50, Try.ntmps50
 go_wp2
 go_loopg [5] l.length (fun kq v5 w' => ∃ i : Int, v5 = .int .i64 i ∧ Aside0 (0 ≤ i ∧ i + kq = l.length) ∧ Aside0 (∀ j : Nat, j < i.toNat → instOkR l (l.getD j z82).f0 (l.getD j z82).f1 (l.getD j z82).f2 (l.getD j z82).f3 t = true) ∧ Aside0 (Below w.heap.size w w'))
 case atStart => exact ⟨0, rfl, ⟨by omega, by omega⟩, ⟨fun j hj => absurd hj (by simp)⟩, ⟨Below.refl _ _⟩⟩
 case round =>
  obtain ⟨i, rfl, HI, HZ, HB⟩ := hrel
  cases gk with
  | zero =>
   have hlt : decide (i < (l.length : Int)) = false := decide_eq_false (by have := HI.out; omega)
   have HPR := Aside0.mk (HT.out (fun j hj => HZ.out j (by have := HI.out; omega)))
   clear HT HF HZ
   have HP := Aside0.mk HPR.out.1
   have HE1 := Aside0.mk (show ∀ i : Int, 0 ≤ i → i < l.length → endsN 18 l (rd_T82 l i).f1 = false → R = false from fun i q0 q1 hf => by
    rw [HPR.out.2]
    unfold instsE
    rw [Bool.eq_false_iff]
    intro h
    have := List.all_eq_true.1 h i.toNat (List.mem_range.2 (by omega))
    rw [show ((i.toNat : Nat) : Int) = i by omega, hf] at this
    cases this)
   have HE2 := Aside0.mk (show (∀ j : Nat, j < l.length → endsN 18 l (rd_T82 l (j : Int)).f1 = true) → R = true from fun h => by
    rw [HPR.out.2]
    exact List.all_eq_true.2 fun j hj => h j (List.mem_range.1 hj))
   clear HPR
   go_wp2
   go_loopg [7] l.length (fun kq v7 w' => ∃ i : Int, v7 = .int .i64 i ∧ Aside0 (0 ≤ i ∧ i + kq = l.length) ∧ Aside0 (∀ j : Nat, j < i.toNat → endsN 18 l (rd_T82 l (j : Int)).f1 = true) ∧ Aside0 (Below w.heap.size w w'))
   case atStart => exact ⟨0, rfl, ⟨by omega, by omega⟩, ⟨fun j hj => absurd hj (by simp)⟩, HB⟩
   case round =>
    clear HB HI hlt
    obtain ⟨i, rfl, HI, HZ, HB⟩ := hrel
    rename World => wa
    cases gk with
    | zero =>
     have hlt : decide (i < (l.length : Int)) = false := decide_eq_false (by have := HI.out; omega)
     go_wp2
     go_ret
     exact ⟨by rw [HE2.out (fun j hj => HZ.out j (by have := HI.out; omega))]; rfl, HB.out⟩
    | succ k1 =>
     have hi := HI.out
     have hlt : decide (i < (l.length : Int)) = true := decide_eq_true (by omega)
     have p1 : (0 ≤ i) = True := eq_true (by omega)
     have p2 : (i < (l.length : Int)) = True := eq_true (by omega)
     have hwr : IntKind.i64.wrap (i + 1) = i + 1 := (i64_w _).trans (by have := H16.out; unfold wrap64; omega)
     have hwr2 : wrap64 (i + 1) = i + 1 := by have := H16.out; unfold wrap64; omega
     obtain ⟨ad, A3, c3, eA, hx0, hx1, hx2, hx3, hl3, hg3⟩ := at_T82 (Kd.C_below HC.out HB.out) i (by omega) (by omega)
     cases eA
     have HPI := Aside0.mk (HP.out _ (rd82_mem l i (by omega) (by omega)))
     have HE3 := Aside0.mk (HE1.out i (by omega) (by omega))
     have HZ2 := Aside0.mk (show endsN 18 l (rd_T82 l i).f1 = true → ∀ j : Nat, j < (i + 1).toNat → endsN 18 l (rd_T82 l (j : Int)).f1 = true from fun h j hj => by
      by_cases e : j = i.toNat
      ·subst e; rw [show ((i.toNat : Nat) : Int) = i by omega]; exact h
      ·exact HZ.out j (by omega))
     generalize (rd_T82 l i).f1 = pa at *
     clear hi hl3 hg3
     go_wp2
     go_loopg [8, 9] 18 (fun kq v8 v9 w' => ∃ a m : Int, v8 = .int .i64 a ∧ v9 = .int .i64 m ∧ Aside0 (-1 ≤ a ∧ a < l.length) ∧ Aside0 (0 ≤ m ∧ m ≤ 17 ∧ m + kq = 18) ∧ Aside0 (endsN 18 l pa = endsN (18 - m.toNat) l a) ∧ Aside0 (Below w.heap.size w w'))
     case atStart => exact ⟨pa, 0, rfl, rfl, HPI, ⟨by omega, by omega, by omega⟩, ⟨rfl⟩, HB⟩
     case round =>
      clear HB hx0 hx1 hx2 hx3
      obtain ⟨a, m, rfl, rfl, HA, HM, HEQ, HB⟩ := hrel
      rename World => wb
      cases gk with
      | zero => exact absurd HM.out (by omega)
      | succ k2 =>
       have hm := HM.out
       have ha := HA.out
       by_cases q : 0 ≤ a
       ·have q0 : decide (0 ≤ a) = true := decide_eq_true q
        by_cases q17 : (16 : Int) < m
        ·have q1 : decide ((16 : Int) < m) = true := decide_eq_true q17
         have HRF := Aside0.mk (HE3.out (by rw [HEQ.out, show 18 - m.toNat = 1 by omega]; show ((a == -1) || false) = false; rw [beq_eq_false_iff_ne.2 (by omega)]; rfl))
         clear q q17 hm ha
         go_wp2
         go_ret
         exact ⟨by rw [HRF.out]; rfl, HB.out⟩
        ·have q1 : decide ((16 : Int) < m) = false := decide_eq_false q17
         have r1 : (0 ≤ a) = True := eq_true q
         have r2 : (a < (l.length : Int)) = True := eq_true (by omega)
         have hwm : IntKind.i64.wrap (m + 1) = m + 1 := (i64_w _).trans (by unfold wrap64; omega)
         have hwm2 : wrap64 (m + 1) = m + 1 := by unfold wrap64; omega
         obtain ⟨bd, B3, e3, eB, hv0, hv1, hv2, hv3, ml3, mg3⟩ := at_T82 (Kd.C_below HC.out HB.out) a q (by omega)
         cases eB
         have HPJ := Aside0.mk (HP.out _ (rd82_mem l a q (by omega)))
         have HEN := Aside0.mk (show endsN 18 l pa = endsN (18 - (m + 1).toNat) l (rd_T82 l a).f1 by
          rw [HEQ.out, show 18 - m.toNat = (18 - (m + 1).toNat) + 1 by omega]
          show ((a == -1) || endsN (18 - (m + 1).toNat) l (rd_T82 l a).f1) = _
          rw [beq_eq_false_iff_ne.2 (by omega), Bool.false_or])
         generalize (rd_T82 l a).f1 = pb at *
         clear q q17 hm ha ml3 mg3
         go_wp2
         go_roundg k2
         case measure => omega
         case rel => exact ⟨pb, m + 1, rfl, rfl, HPJ, ⟨by have := HM.out; omega, by have := HM.out; have := of_decide_eq_false q1; omega, by have := HM.out; omega⟩, HEN, HB⟩
       ·have q0 : decide (0 ≤ a) = false := decide_eq_false q
        have HZ3 := Aside0.mk (HZ2.out (by rw [HEQ.out, show 18 - m.toNat = (17 - m.toNat) + 1 by omega]; show ((a == -1) || _) = true; rw [beq_iff_eq.2 (by omega)]; rfl))
        clear q hm ha
        go_wp2
        go_roundg k1
        case measure => omega
        case rel => exact ⟨i + 1, rfl, ⟨by have := HI.out; omega, by have := HI.out; omega⟩, HZ3, HB⟩
  | succ k1 =>
   have hi := HI.out
   have hlt : decide (i < (l.length : Int)) = true := decide_eq_true (by omega)
   have p1 : (0 ≤ i) = True := eq_true (by omega)
   have p2 : (i < (l.length : Int)) = True := eq_true (by omega)
   have hwr : IntKind.i64.wrap (i + 1) = i + 1 := (i64_w _).trans (by have := H16.out; unfold wrap64; omega)
   have hwr2 : wrap64 (i + 1) = i + 1 := by have := H16.out; unfold wrap64; omega
   obtain ⟨ad, A3, c3, eA, hx0, hx1, hx2, hx3, hl3, hg3⟩ := at_T82 (Kd.C_below HC.out HB.out) i (by omega) (by omega)
   cases eA
   have HFF := Aside0.mk (HF.out i (by omega) (by omega))
   have HZ2 := Aside0.mk (show instOkR l (rd_T82 l i).f0 (rd_T82 l i).f1 (rd_T82 l i).f2 (rd_T82 l i).f3 t = true → ∀ j : Nat, j < (i + 1).toNat → instOkR l (l.getD j z82).f0 (l.getD j z82).f1 (l.getD j z82).f2 (l.getD j z82).f3 t = true from fun h j hj => by
    by_cases e : j = i.toNat
    ·subst e; exact h
    ·exact HZ.out j (by omega))
   have HSI := Aside0.mk (show ∀ (W : World), Below wr.heap.size wr W → Calls Try.prog 69 #[.agg #[.int .i64 (rd_T82 l i).f0, .int .i64 (rd_T82 l i).f1, .string (rd_T82 l i).f2, .slice A3 (rd_T82 l i).f3.length c3], .agg #[.int .i64 (-1), .int .i64 (-1), .string ⟨#[]⟩, .slice none 0 0]] W fun e w' => e = .returned (.bool (((rd_T82 l i).f0 == -1) && (((rd_T82 l i).f1 == -1) && (((rd_T82 l i).f2.toList == ([] : List UInt8)) && (((rd_T82 l i).f3.length : Int) == 0))))) ∧ Below W.heap.size W w' from fun W hb => tinderref09_SameInst.calls 2 (rd_T82 l i).f0 (rd_T82 l i).f1 (rd_T82 l i).f2 A3 c3 (rd_T82 l i).f3 (-1) (-1) ⟨#[]⟩ none 0 [] _ W (Kd.C_below hg3 hb) hl3 ⟨rfl, by decide, fun h => absurd h (by decide)⟩ (Nat.zero_le _) (sameInst_none (rd_T82 l i) 2 (Nat.le_refl _)))
   generalize rd_T82 l i = x at *
   have HBXN := Aside0.mk (blk_new wr (.cells #[.int .i64 x.f0, .int .i64 x.f1, .string x.f2, .slice A3 x.f3.length c3] 82))
   have HBW := Aside0.mk (below_alloc (Below.refl wr.heap.size wr) (.cells #[.int .i64 x.f0, .int .i64 x.f1, .string x.f2, .slice A3 x.f3.length c3] 82 (0, 0)))
   have hyz0 := (blk_cell HBXN.out 0).trans rfl
   have hyz1 := (blk_cell HBXN.out 1).trans rfl
   have hyz2 := (blk_cell HBXN.out 2).trans rfl
   have hyz3 := (blk_cell HBXN.out 3).trans rfl
   have hyf0 := blk_frozen HBXN.out 0
   have hyf1 := blk_frozen HBXN.out 1
   have hyf2 := blk_frozen HBXN.out 2
   have hyf3 := blk_frozen HBXN.out 3
   clear hi hl3 hg3
   unfold instOkR at HFF HZ2
   have HO := Aside0.mk HFF.out
   have HO2 := Aside0.mk HZ2.out
   clear HFF HZ2
   cases e0 : (x.f0 == -1) with
   | true =>
    have q := HSI.out
    rw [e0, Bool.true_and] at q
    have HSJ := Aside0.mk q
    clear q HSI
    have ho := HO.out
    have ho2 := HO2.out
    clear HO HO2
    simp only [e0, if_true, if_false, Bool.true_and, Bool.false_and, Bool.not_true, Bool.not_false, Bool.true_or, Bool.false_or, Bool.false_eq_true, Bool.and_true, Bool.and_false] at ho ho2
    have HO := Aside0.mk ho
    have HO2 := Aside0.mk ho2
    clear ho ho2
    generalize ((x.f1 == -1) && ((x.f2.toList == ([] : List UInt8)) && ((x.f3.length : Int) == 0))) = sb at HO HO2 HSJ
    cases sb with
    | false =>
     go_wp2_with (go_at_call 69; (with_reducible refine (HSJ.out _ HBW.out).mono ?_); rintro e w5 ⟨rfl, hb⟩; have HB2 := Aside0.mk (below_step HBW.out hb); clear hb)
     go_ret
     exact ⟨by rw [HO.out trivial]; rfl, below_step HB.out (by first | exact HBW.out | exact pw_below_drewN HBW.out _ | exact HB2.out | exact pw_below_drewN (pw_below_drewN HBW.out _) _)⟩
    | true =>
     go_wp2_with (go_at_call 69; (with_reducible refine (HSJ.out _ HBW.out).mono ?_); rintro e w5 ⟨rfl, hb⟩; have HB2 := Aside0.mk (below_step HBW.out hb); clear hb)
     go_roundg k1
     case measure => omega
     case rel => exact ⟨i + 1, rfl, ⟨by have := HI.out; omega, by have := HI.out; omega⟩, ⟨HO2.out trivial⟩, ⟨below_step HB.out (by first | exact HBW.out | exact pw_below_drewN HBW.out _ | exact HB2.out | exact pw_below_drewN (pw_below_drewN HBW.out _) _)⟩⟩
   | false =>
    have ho := HO.out
    have ho2 := HO2.out
    clear HO HO2
    simp only [e0, if_true, if_false, Bool.true_and, Bool.false_and, Bool.not_true, Bool.not_false, Bool.true_or, Bool.false_or, Bool.false_eq_true, Bool.and_true, Bool.and_false] at ho ho2
    have HO := Aside0.mk ho
    have HO2 := Aside0.mk ho2
    clear ho ho2
    clear HSI
    cases c1 : decide (0 ≤ x.f0) with
    | false =>
     have d1 : decide (x.f0 < 0) = true := decide_eq_true (by have := of_decide_eq_false c1; omega)
     have ho := HO.out
     have ho2 := HO2.out
     clear HO HO2
     simp only [c1, if_true, if_false, Bool.true_and, Bool.false_and, Bool.not_true, Bool.not_false, Bool.true_or, Bool.false_or, Bool.false_eq_true, Bool.and_true, Bool.and_false] at ho ho2
     have HO := Aside0.mk ho
     have HO2 := Aside0.mk ho2
     clear ho ho2
     go_wp2
     go_quiet (fail)
     go_wp2
     go_ret
     exact ⟨by rw [HO.out trivial]; rfl, below_step HB.out (by first | exact HBW.out | exact pw_below_drewN HBW.out _ | exact HB2.out | exact pw_below_drewN (pw_below_drewN HBW.out _) _)⟩
    | true =>
     have d1 : decide (x.f0 < 0) = false := decide_eq_false (by have := of_decide_eq_true c1; omega)
     have ho := HO.out
     have ho2 := HO2.out
     clear HO HO2
     simp only [c1, if_true, if_false, Bool.true_and, Bool.false_and, Bool.not_true, Bool.not_false, Bool.true_or, Bool.false_or, Bool.false_eq_true, Bool.and_true, Bool.and_false] at ho ho2
     have HO := Aside0.mk ho
     have HO2 := Aside0.mk ho2
     clear ho ho2
     cases c2 : decide (x.f0 < (t.length : Int)) with
     | false =>
      have d2 : decide ((t.length : Int) ≤ x.f0) = true := decide_eq_true (by have := of_decide_eq_false c2; omega)
      have ho := HO.out
      have ho2 := HO2.out
      clear HO HO2
      simp only [c2, if_true, if_false, Bool.true_and, Bool.false_and, Bool.not_true, Bool.not_false, Bool.true_or, Bool.false_or, Bool.false_eq_true, Bool.and_true, Bool.and_false] at ho ho2
      have HO := Aside0.mk ho
      have HO2 := Aside0.mk ho2
      clear ho ho2
      go_wp2
      go_quiet (fail)
      go_wp2
      go_ret
      exact ⟨by rw [HO.out trivial]; rfl, below_step HB.out (by first | exact HBW.out | exact pw_below_drewN HBW.out _ | exact HB2.out | exact pw_below_drewN (pw_below_drewN HBW.out _) _)⟩
     | true =>
      have d2 : decide ((t.length : Int) ≤ x.f0) = false := decide_eq_false (by have := of_decide_eq_true c2; omega)
      have ho := HO.out
      have ho2 := HO2.out
      clear HO HO2
      simp only [c2, if_true, if_false, Bool.true_and, Bool.false_and, Bool.not_true, Bool.not_false, Bool.true_or, Bool.false_or, Bool.false_eq_true, Bool.and_true, Bool.and_false] at ho ho2
      have HO := Aside0.mk ho
      have HO2 := Aside0.mk ho2
      clear ho ho2
      have r1 : (0 ≤ x.f0) = True := eq_true (of_decide_eq_true c1)
      have r2 : (x.f0 < (t.length : Int)) = True := eq_true (of_decide_eq_true c2)
      obtain ⟨bd, B1, e1, B3, e3, B4, e4, eB, hv0, hv1, hv2, hv3, hv4, ml1, mg1, ml3, mg3, ml4, mg4⟩ := at_T91 (Kd.C_below (Kd.C_below HCT.out HB.out) HBW.out) x.f0 (of_decide_eq_true c1) (of_decide_eq_true c2)
      cases eB
      clear ml1 mg1 ml3 mg3 ml4 mg4
      cases c3 : ((x.f3.length : Int) == ((rd_T91 t x.f0).f4.length : Int)) with
      | false =>
       have d3 : ((x.f3.length : Int) != ((rd_T91 t x.f0).f4.length : Int)) = true := by rw [bne, c3]; rfl
       have ho := HO.out
       have ho2 := HO2.out
       clear HO HO2
       simp only [c3, if_true, if_false, Bool.true_and, Bool.false_and, Bool.not_true, Bool.not_false, Bool.true_or, Bool.false_or, Bool.false_eq_true, Bool.and_true, Bool.and_false] at ho ho2
       have HO := Aside0.mk ho
       have HO2 := Aside0.mk ho2
       clear ho ho2
       go_wp2
       go_quiet (fail)
       go_wp2
       go_ret
       exact ⟨by rw [HO.out trivial]; rfl, below_step HB.out (by first | exact HBW.out | exact pw_below_drewN HBW.out _ | exact HB2.out | exact pw_below_drewN (pw_below_drewN HBW.out _) _)⟩
      | true =>
       have d3 : ((x.f3.length : Int) != ((rd_T91 t x.f0).f4.length : Int)) = false := by rw [bne, c3]; rfl
       have ho := HO.out
       have ho2 := HO2.out
       clear HO HO2
       simp only [c3, if_true, if_false, Bool.true_and, Bool.false_and, Bool.not_true, Bool.not_false, Bool.true_or, Bool.false_or, Bool.false_eq_true, Bool.and_true, Bool.and_false] at ho ho2
       have HO := Aside0.mk ho
       have HO2 := Aside0.mk ho2
       clear ho ho2
       cases c4 : decide ((x.f2.size : Int) ≤ 256) with
       | false =>
        have d4 : decide (256 < (x.f2.size : Int)) = true := decide_eq_true (by have := of_decide_eq_false c4; omega)
        have ho := HO.out
        have ho2 := HO2.out
        clear HO HO2
        simp only [c4, if_true, if_false, Bool.true_and, Bool.false_and, Bool.not_true, Bool.not_false, Bool.true_or, Bool.false_or, Bool.false_eq_true, Bool.and_true, Bool.and_false] at ho ho2
        have HO := Aside0.mk ho
        have HO2 := Aside0.mk ho2
        clear ho ho2
        go_wp2
        go_quiet (fail)
        go_wp2
        go_ret
        exact ⟨by rw [HO.out trivial]; rfl, below_step HB.out (by first | exact HBW.out | exact pw_below_drewN HBW.out _ | exact HB2.out | exact pw_below_drewN (pw_below_drewN HBW.out _) _)⟩
       | true =>
        have d4 : decide (256 < (x.f2.size : Int)) = false := decide_eq_false (by have := of_decide_eq_true c4; omega)
        have ho := HO.out
        have ho2 := HO2.out
        clear HO HO2
        simp only [c4, if_true, if_false, Bool.true_and, Bool.false_and, Bool.not_true, Bool.not_false, Bool.true_or, Bool.false_or, Bool.false_eq_true, Bool.and_true, Bool.and_false] at ho ho2
        have HO := Aside0.mk ho
        have HO2 := Aside0.mk ho2
        clear ho ho2
        obtain ⟨p, hp, hd⟩ := place_eq x.f2 (by have := of_decide_eq_true c4; omega) (x.f2.size + 1) (Nat.lt_succ_self _)
        have HPL := Aside0.mk (show ∀ W : World, Calls Try.prog 85 #[.string x.f2, .int .i64 0, .int .u8 47] W fun e w' => e = .returned (.int .i64 p) ∧ ∃ m, w' = W.drewN m from fun W => (tinderref07_Place.calls (x.f2.size + 1) x.f2 0 47 p W hp).mono fun _ _ h => ⟨h.1, h.2.out⟩)
        clear hp
        cases c5 : hasSlash x.f2 with
        | true =>
         rw [c5] at hd
         have ho := HO.out
         have ho2 := HO2.out
         clear HO HO2
         simp only [c5, if_true, if_false, Bool.true_and, Bool.false_and, Bool.not_true, Bool.not_false, Bool.true_or, Bool.false_or, Bool.false_eq_true, Bool.and_true, Bool.and_false] at ho ho2
         have HO := Aside0.mk ho
         have HO2 := Aside0.mk ho2
         clear ho ho2
         go_wp2
         go_quiet ((go_at_call 85; exact Calls.quiet_of (HPL.out _)))
         go_wp2
         go_ret
         exact ⟨by rw [HO.out trivial]; rfl, below_step HB.out (by first | exact HBW.out | exact pw_below_drewN HBW.out _ | exact HB2.out | exact pw_below_drewN (pw_below_drewN HBW.out _) _)⟩
        | false =>
         rw [c5] at hd
         have ho := HO.out
         have ho2 := HO2.out
         clear HO HO2
         simp only [c5, if_true, if_false, Bool.true_and, Bool.false_and, Bool.not_true, Bool.not_false, Bool.true_or, Bool.false_or, Bool.false_eq_true, Bool.and_true, Bool.and_false] at ho ho2
         have HO := Aside0.mk ho
         have HO2 := Aside0.mk ho2
         clear ho ho2
         cases c6 : (x.f1 == -1) with
         | true =>
          have d6 : (x.f1 != -1) = false := by rw [bne, c6]; rfl
          have ho := HO.out
          have ho2 := HO2.out
          clear HO HO2
          simp only [c6, if_true, if_false, Bool.true_and, Bool.false_and, Bool.not_true, Bool.not_false, Bool.true_or, Bool.false_or, Bool.false_eq_true, Bool.and_true, Bool.and_false] at ho ho2
          have HO := Aside0.mk ho
          have HO2 := Aside0.mk ho2
          clear ho ho2
          go_wp2
          go_quiet ((go_at_call 85; exact Calls.quiet_of (HPL.out _)))
          go_wp2
          go_roundg k1
          case measure => omega
          case rel => exact ⟨i + 1, rfl, ⟨by have := HI.out; omega, by have := HI.out; omega⟩, ⟨HO2.out trivial⟩, ⟨below_step HB.out (by first | exact HBW.out | exact pw_below_drewN HBW.out _ | exact HB2.out | exact pw_below_drewN (pw_below_drewN HBW.out _) _)⟩⟩
         | false =>
          have d6 : (x.f1 != -1) = true := by rw [bne, c6]; rfl
          have ho := HO.out
          have ho2 := HO2.out
          clear HO HO2
          simp only [c6, if_true, if_false, Bool.true_and, Bool.false_and, Bool.not_true, Bool.not_false, Bool.true_or, Bool.false_or, Bool.false_eq_true, Bool.and_true, Bool.and_false] at ho ho2
          have HO := Aside0.mk ho
          have HO2 := Aside0.mk ho2
          clear ho ho2
          have HLW := Aside0.mk (fun (W : World) (hb : Below wr.heap.size wr W) => HLV.out W x.f1 (below_step HB.out hb))
          generalize aliveB l x.f1 = ab at HO HO2 HLW
          cases ab with
          | false =>
           go_wp2
           go_quiet ((go_at_call 85; exact Calls.quiet_of (HPL.out _)))
           go_wp2_with (go_at_call 51; (with_reducible refine (HLW.out _ (by first | exact HBW.out | exact pw_below_drewN HBW.out _)).mono ?_); rintro e w5 ⟨rfl, n5, rfl⟩)
           go_ret
           exact ⟨by rw [HO.out trivial]; rfl, below_step HB.out (by first | exact HBW.out | exact pw_below_drewN HBW.out _ | exact HB2.out | exact pw_below_drewN (pw_below_drewN HBW.out _) _)⟩
          | true =>
           go_wp2
           go_quiet ((go_at_call 85; exact Calls.quiet_of (HPL.out _)))
           go_wp2_with (go_at_call 51; (with_reducible refine (HLW.out _ (by first | exact HBW.out | exact pw_below_drewN HBW.out _)).mono ?_); rintro e w5 ⟨rfl, n5, rfl⟩)
           go_roundg k1
           case measure => omega
           case rel => exact ⟨i + 1, rfl, ⟨by have := HI.out; omega, by have := HI.out; omega⟩, ⟨HO2.out trivial⟩, ⟨below_step HB.out (by first | exact HBW.out | exact pw_below_drewN HBW.out _ | exact HB2.out | exact pw_below_drewN (pw_below_drewN HBW.out _) _)⟩⟩
end Go.Proofs.Ytfpkakedlapmkaa.Q
end
section
set_option linter.unusedSimpArgs false
set_option linter.unusedVariables false
namespace Go.Proofs.Ytfpkakedlapmkaa.Q
open Go.RowKit Go.Proofs.YtfpkakedlapmkaaW.PrintWords Go.Proofs.YtfpkakedlapmkaaW.PrintLast Go.Proofs.YtfpkakedlapmkaaW.PrintMore
attribute [local go_sem] max2_int min2_int max_two min_two max_three min_three max_four min_four
theorem rprims_calls (w : World) : Calls Try.prog 15 #[] w fun e w' => ∃ A c, e = .returned (.slice A 111 c) ∧ Kd.C k37 w' A 111 primsL ∧ Below w.heap.size w w' := by
 refine (tinderref09_Prims.calls primsL w ref_primsF).mono ?_
 rintro e w' ⟨v, rfl, h, hb⟩
 obtain ⟨A, c, rfl, _, g⟩ := Kd.R_reads h
 rw [primsL_len] at g ⊢
 exact ⟨A, c, rfl, g, hb⟩
theorem instsF_eq (l : List S82) (t : List S91) (self : Int) : instsF l t self = (instsR l t && ((self == -1) || aliveB l self)) := by
 rw [instsR_eq]
 unfold instsF
 cases h : l.all (fun x => instOk l x.f0 x.f1 x.f2 x.f3 t) with
 | false => simp
 | true =>
  rw [self_same t l self h]
  cases (decide ((16 : Int) < (l.length : Int))) <;> cases ((self == -1) || aliveB l self) <;> simp
def codesT (l2 : List S51) (l3 : List Int) : Bool := l3.all (fun c => !wildB l2.length c)
def wordsU (l5 : List S91) (l2 : List S51) : Bool := (List.range l2.length).all (wordAt primsL l5 l2)
theorem formedF_eq (l0 l1 : List Int) (l2 : List S51) (l3 : List Int) (a4 : Int) (l5 : List S91) (a6 : Int) (l7 : List S82) (a8 : Int) (a9 : ByteArray) : formedF l0 l1 l2 l3 a4 l5 a6 l7 a8 a9 =
  (!decide (64 < (l0.length : Int)) && (!decide (4096 < (l1.length : Int)) && (!decide (640 < (l2.length : Int)) && (!decide ((l2.length : Int) < 111) && (!decide (2048 < (l3.length : Int)) && (!decide (a4 < 2) && (!decide (36 < a4) && (!decide (1024 < (a9.size : Int)) && (treeF l5 && (!decide (a6 < -1) && (!decide ((l5.length : Int) ≤ a6) && (instsR l7 l5 && (((a8 == -1) || aliveB l7 a8) && (wordsU l5 l2 && codesT l2 l3)))))))))))))) := by
 unfold formedF wordsT
 rw [instsF_eq]
 by_cases h1 : 640 < l2.length
 ·rw [decide_eq_true h1, decide_eq_true (by omega : (640 : Int) < (l2.length : Int))]; simp
 by_cases h2 : l2.length < 111
 ·rw [decide_eq_true h2, decide_eq_true (by omega : (l2.length : Int) < 111)]; simp
 rw [decide_eq_false h1, decide_eq_false h2, decide_eq_false (by omega : ¬ (640 : Int) < (l2.length : Int)), decide_eq_false (by omega : ¬ (l2.length : Int) < 111), ← words_same l2 l5 h2, ← codes_same l2 l3]
 unfold wordsU codesT
 generalize (List.range l2.length).all (wordAt primsL l5 l2) = x1
 generalize (l3.all (fun c => !wildB l2.length c)) = x2
 generalize instsR l7 l5 = x3
 generalize ((a8 == -1) || aliveB l7 a8) = x4
 generalize treeF l5 = x5
 cases decide (64 < (l0.length : Int)) <;> cases decide (4096 < (l1.length : Int)) <;> cases decide (1024 < (a9.size : Int)) <;> cases decide (2048 < (l3.length : Int)) <;> cases decide (a4 < 2) <;> cases decide (36 < a4) <;> cases x5 <;> cases decide (a6 < -1) <;> cases decide ((l5.length : Int) ≤ a6) <;> cases x3 <;> cases x4 <;> cases x1 <;> cases x2 <;> rfl
set_option maxHeartbeats 4000000 in
set_option maxRecDepth 100000 in
theorem rformed_calls (A0 : Option Addr) (c0 : Nat) (l0 : List Int) (A1 : Option Addr) (c1 : Nat) (l1 : List Int) (A2 : Option Addr) (c2 : Nat) (l2 : List S51) (A3 : Option Addr) (c3 : Nat) (l3 : List Int) (a4 : Int) (A5 : Option Addr) (c5 : Nat) (l5 : List S91) (a6 : Int) (A7 : Option Addr) (c7 : Nat) (l7 : List S82) (a8 : Int) (a9 : ByteArray) (w : World) (hr2 : Kd.C k51 w A2 l2.length l2) (hr3 : Kd.C (Kd.int .i64) w A3 l3.length l3) (hr5 : Kd.C k91 w A5 l5.length l5) (hc5 : l5.length ≤ c5) (hr7 : Kd.C k82 w A7 l7.length l7) (hc7 : l7.length ≤ c7) (hn : ∀ x ∈ l2, x.f0.size ≤ 1000000000000000) :
  Calls Try.prog 27 #[.agg #[.slice A0 l0.length c0, .slice A1 l1.length c1, .slice A2 l2.length c2, .slice A3 l3.length c3, .int .u32 a4, .slice A5 l5.length c5, .int .i64 a6, .slice A7 l7.length c7, .int .i64 a8, .string a9]] w fun e w' => e = .returned (.bool (formedF l0 l1 l2 l3 a4 l5 a6 l7 a8 a9)) ∧ Below w.heap.size w w' := by
 have hu32 := Try.underlying32
 have hu51 := Try.underlying51
 have hu37 := Try.underlying37
 have mixed : Try.prog.follows Departure.mixedOrders = true := by kernel_rfl
 have HM3 := Aside0.mk (Kd.C_max hr3)
 have HP := Aside0.mk rprims_calls
 have HTF := Aside0.mk (fun (X : World) (hX : Below w.heap.size w X) => rtree_calls A5 c5 l5 X (Kd.C_below hr5 hX) hc5)
 have HIN := Aside0.mk (fun (X : World) (hX : Below w.heap.size w X) => rinsts_calls A7 c7 l7 A5 c5 l5 X (Kd.C_below hr7 hX) hc7 (Kd.C_below hr5 hX))
 have HAL := Aside0.mk (show ∀ (X : World), Below w.heap.size w X → Calls Try.prog 51 #[.slice A7 l7.length c7, .int .i64 a8] X fun e w' => e = .returned (.bool (aliveB l7 a8)) ∧ ∃ m, w' = X.drewN m from fun X hX => (tinderref09_alive.calls A7 c7 l7 a8 _ X (Kd.C_below hr7 hX) hc7 (ralive_eq l7 a8)).mono fun _ _ h => ⟨h.1, h.2.out⟩)
 have HC2 := Aside0.mk hr2
 have HC3 := Aside0.mk hr3
 have HWF := Aside0.mk (show ∀ (X : World) (i : Int) (A4 : Option Addr) (c4 : Nat), Below w.heap.size w X → 0 ≤ i → i < l2.length → Kd.C k69 X A4 (rd_T51 l2 i).f4.length (rd_T51 l2 i).f4 → (rd_T51 l2 i).f4.length ≤ c4 → Calls Try.prog 53 #[.agg #[.string (rd_T51 l2 i).f0, .int .i64 (rd_T51 l2 i).f1, .int .i64 (rd_T51 l2 i).f2, .int .u32 (rd_T51 l2 i).f3, .slice A4 (rd_T51 l2 i).f4.length c4], .int .i64 l2.length, .slice A5 l5.length c5] X fun e w' => e = .returned (.bool (rightB l2.length l5 (rd_T51 l2 i))) ∧ Below X.heap.size X w' from fun X i A4 c4 hX q0 q1 h4 hc4 => tinderref09_wordFormed.calls 1000000000000001 _ _ _ _ A4 c4 _ l2.length A5 c5 l5 _ X h4 hc4 (Kd.C_below hr5 hX) hc5 (wform_eq _ _ _ (hn _ (rd51_mem l2 i q0 q1)) _ (Nat.le_refl _)))
 have HSW := Aside0.mk (show ∀ (X : World) (x : S51) (p : S37) (A4 : Option Addr) (c4 : Nat), Kd.C k69 X A4 x.f4.length x.f4 → x.f4.length ≤ c4 → Calls Try.prog 52 #[.agg #[.string x.f0, .int .i64 x.f1, .int .i64 x.f2, .int .u32 x.f3, .slice A4 x.f4.length c4], .agg #[.string p.f0, .int .i64 (-1), .int .i64 1, .int .u32 (p.f1 % 4294967296), .slice none 0 0]] X fun e w' => e = .returned (.bool (wOk x p)) ∧ Below X.heap.size X w' from fun X x p A4 c4 h4 hc4 => tinderref09_SameWord.calls 2 _ _ _ _ A4 c4 _ p.f0 (-1) 1 (p.f1 % 4294967296) none 0 [] _ X h4 hc4 ⟨rfl, by decide, fun h => absurd h (by decide)⟩ (Nat.zero_le _) (samePrim_eq x p 2 (Nat.le_refl _)))
 have HB := Aside0.mk (Below.refl w.heap.size w)
 have BK := Aside0.mk (show (w.alloc (.cells #[.slice A0 l0.length c0, .slice A1 l1.length c1, .slice A2 l2.length c2, .slice A3 l3.length c3, .int .u32 a4, .slice A5 l5.length c5, .int .i64 a6, .slice A7 l7.length c7, .int .i64 a8, .string a9] 32)).heap[w.heap.size]? = some (.cells #[.slice A0 l0.length c0, .slice A1 l1.length c1, .slice A2 l2.length c2, .slice A3 l3.length c3, .int .u32 a4, .slice A5 l5.length c5, .int .i64 a6, .slice A7 l7.length c7, .int .i64 a8, .string a9] 32 (0, 0)) from blk_new w _)
 have HB := Aside0.mk (show Below w.heap.size w (w.alloc (.cells #[.slice A0 l0.length c0, .slice A1 l1.length c1, .slice A2 l2.length c2, .slice A3 l3.length c3, .int .u32 a4, .slice A5 l5.length c5, .int .i64 a6, .slice A7 l7.length c7, .int .i64 a8, .string a9] 32)) from below_alloc (Below.refl _ _) _)
 clear hr2 hr3 hr5 hc5 hr7 hc7 hn
 obtain ⟨W, hW⟩ : ∃ W, W = wordsU l5 l2 := ⟨_, rfl⟩
 obtain ⟨C, hC⟩ : ∃ C, C = codesT l2 l3 := ⟨_, rfl⟩
 obtain ⟨R, hR⟩ : ∃ R, R = formedF l0 l1 l2 l3 a4 l5 a6 l7 a8 a9 := ⟨_, rfl⟩
 rw [← hR]
 rw [formedF_eq, ← hW, ← hC] at hR
 have HWD := Aside0.mk hW
 have HCD := Aside0.mk hC
 clear hW hC
 generalize treeF l5 = tf at HTF hR
 generalize instsR l7 l5 = ti at HIN hR
 generalize aliveB l7 a8 = al at HAL hR
 obtain ⟨R2, hR2⟩ : ∃ R2, R2 = (tf && (!decide (a6 < -1) && (!decide ((l5.length : Int) ≤ a6) && (ti && (((a8 == -1) || al) && (W && C)))))) := ⟨_, rfl⟩
 rw [← hR2] at hR
 have HR := Aside0.mk hR
 have HR2 := Aside0.mk hR2
 clear hR hR2
 go_enter Try.func27, Try.ntmps27
 go_upto_region 2 with (go_at_call 15; refine (HP.out _).mono ?_; rintro e w1 ⟨PA, pc, rfl, hp, hb⟩; have HPA := Aside0.mk hp; replace BK := Aside0.mk (blk_below BK.out hb); replace HB := Aside0.mk (below_step HB.out hb); clear hp hb; have z0 := (blk_cell BK.out 0).trans rfl; have z1 := (blk_cell BK.out 1).trans rfl; have z2 := (blk_cell BK.out 2).trans rfl; have z3 := (blk_cell BK.out 3).trans rfl; have z4 := (blk_cell BK.out 4).trans rfl; have z5 := (blk_cell BK.out 5).trans rfl; have z6 := (blk_cell BK.out 6).trans rfl; have z7 := (blk_cell BK.out 7).trans rfl; have z8 := (blk_cell BK.out 8).trans rfl; have z9 := (blk_cell BK.out 9).trans rfl; have zf0 := blk_frozen BK.out 0; have zf1 := blk_frozen BK.out 1; have zf2 := blk_frozen BK.out 2; have zf3 := blk_frozen BK.out 3; have zf4 := blk_frozen BK.out 4; have zf5 := blk_frozen BK.out 5; have zf6 := blk_frozen BK.out 6; have zf7 := blk_frozen BK.out 7; have zf8 := blk_frozen BK.out 8; have zf9 := blk_frozen BK.out 9)
 clear HP
 go_cut [52] (fun v52 wc => ∃ b : Bool, v52 = .bool b ∧ Aside0 (b = true → R = false) ∧ Aside0 (b = false → R = R2 ∧ l2.length ≤ 640) ∧ Aside0 (wc.heap[w.heap.size]? = some (.cells #[.slice A0 l0.length c0, .slice A1 l1.length c1, .slice A2 l2.length c2, .slice A3 l3.length c3, .int .u32 a4, .slice A5 l5.length c5, .int .i64 a6, .slice A7 l7.length c7, .int .i64 a8, .string a9] 32 (0, 0))) ∧ Aside0 (Kd.C k37 wc PA 111 primsL) ∧ Aside0 (Below w.heap.size w wc))
 case first =>
  cases d1 : decide (64 < (l0.length : Int)) with
  | true =>
   go_wp2
   go_meet
   case rel => exact ⟨true, rfl, ⟨fun h => by rw [HR.out, d1]; rfl⟩, ⟨fun h => (Bool.noConfusion h)⟩, ⟨BK.out⟩, ⟨by first | exact HPA.out | exact Kd.C_drewN HPA.out _⟩, ⟨by first | exact HB.out | exact pw_below_drewN HB.out _⟩⟩
  | false =>
   cases d2 : decide (4096 < (l1.length : Int)) with
   | true =>
    go_wp2
    go_meet
    case rel => exact ⟨true, rfl, ⟨fun h => by rw [HR.out, d1, d2]; rfl⟩, ⟨fun h => (Bool.noConfusion h)⟩, ⟨BK.out⟩, ⟨by first | exact HPA.out | exact Kd.C_drewN HPA.out _⟩, ⟨by first | exact HB.out | exact pw_below_drewN HB.out _⟩⟩
   | false =>
    cases d3 : decide (640 < (l2.length : Int)) with
    | true =>
     go_wp2
     go_meet
     case rel => exact ⟨true, rfl, ⟨fun h => by rw [HR.out, d1, d2, d3]; rfl⟩, ⟨fun h => (Bool.noConfusion h)⟩, ⟨BK.out⟩, ⟨by first | exact HPA.out | exact Kd.C_drewN HPA.out _⟩, ⟨by first | exact HB.out | exact pw_below_drewN HB.out _⟩⟩
    | false =>
     cases d4 : decide ((l2.length : Int) < 111) with
     | true =>
      go_wp2
      go_meet
      case rel => exact ⟨true, rfl, ⟨fun h => by rw [HR.out, d1, d2, d3, d4]; rfl⟩, ⟨fun h => (Bool.noConfusion h)⟩, ⟨BK.out⟩, ⟨by first | exact HPA.out | exact Kd.C_drewN HPA.out _⟩, ⟨by first | exact HB.out | exact pw_below_drewN HB.out _⟩⟩
     | false =>
      cases d5 : decide (2048 < (l3.length : Int)) with
      | true =>
       go_wp2
       go_meet
       case rel => exact ⟨true, rfl, ⟨fun h => by rw [HR.out, d1, d2, d3, d4, d5]; rfl⟩, ⟨fun h => (Bool.noConfusion h)⟩, ⟨BK.out⟩, ⟨by first | exact HPA.out | exact Kd.C_drewN HPA.out _⟩, ⟨by first | exact HB.out | exact pw_below_drewN HB.out _⟩⟩
      | false =>
       cases d6 : decide (a4 < 2) with
       | true =>
        go_wp2
        go_meet
        case rel => exact ⟨true, rfl, ⟨fun h => by rw [HR.out, d1, d2, d3, d4, d5, d6]; rfl⟩, ⟨fun h => (Bool.noConfusion h)⟩, ⟨BK.out⟩, ⟨by first | exact HPA.out | exact Kd.C_drewN HPA.out _⟩, ⟨by first | exact HB.out | exact pw_below_drewN HB.out _⟩⟩
       | false =>
        cases d7 : decide (36 < a4) with
        | true =>
         go_wp2
         go_meet
         case rel => exact ⟨true, rfl, ⟨fun h => by rw [HR.out, d1, d2, d3, d4, d5, d6, d7]; rfl⟩, ⟨fun h => (Bool.noConfusion h)⟩, ⟨BK.out⟩, ⟨by first | exact HPA.out | exact Kd.C_drewN HPA.out _⟩, ⟨by first | exact HB.out | exact pw_below_drewN HB.out _⟩⟩
        | false =>
         cases d8 : decide (1024 < (a9.size : Int)) with
         | true =>
          go_wp2
          go_meet
          case rel => exact ⟨true, rfl, ⟨fun h => by rw [HR.out, d1, d2, d3, d4, d5, d6, d7, d8]; rfl⟩, ⟨fun h => (Bool.noConfusion h)⟩, ⟨BK.out⟩, ⟨by first | exact HPA.out | exact Kd.C_drewN HPA.out _⟩, ⟨by first | exact HB.out | exact pw_below_drewN HB.out _⟩⟩
         | false =>
          go_wp2
          go_meet
          case rel => exact ⟨false, rfl, ⟨fun h => (Bool.noConfusion h)⟩, ⟨fun h => ⟨by rw [HR.out, d1, d2, d3, d4, d5, d6, d7, d8]; rfl, by have := of_decide_eq_false d3; omega⟩⟩, ⟨BK.out⟩, ⟨by first | exact HPA.out | exact Kd.C_drewN HPA.out _⟩, ⟨by first | exact HB.out | exact pw_below_drewN HB.out _⟩⟩
 case rest =>
 clear HPA BK HB z0 z1 z2 z3 z4 z5 z6 z7 z8 z9 zf0 zf1 zf2 zf3 zf4 zf5 zf6 zf7 zf8 zf9
 obtain ⟨b, rfl, HB1, HB2, BK, HPA, HB⟩ := hcut
 cases b with
 | true =>
  have HRF := Aside0.mk (HB1.out rfl)
  go_wp2
  go_ret
  exact ⟨by rw [HRF.out]; rfl, HB.out⟩
 | false =>
 have HRR := Aside0.mk (HB2.out rfl).1
 have HLN := Aside0.mk (HB2.out rfl).2
 clear HB1 HB2 HR
 have z0 := (blk_cell BK.out 0).trans rfl
 have z1 := (blk_cell BK.out 1).trans rfl
 have z2 := (blk_cell BK.out 2).trans rfl
 have z3 := (blk_cell BK.out 3).trans rfl
 have z4 := (blk_cell BK.out 4).trans rfl
 have z5 := (blk_cell BK.out 5).trans rfl
 have z6 := (blk_cell BK.out 6).trans rfl
 have z7 := (blk_cell BK.out 7).trans rfl
 have z8 := (blk_cell BK.out 8).trans rfl
 have z9 := (blk_cell BK.out 9).trans rfl
 have zf0 := blk_frozen BK.out 0
 have zf1 := blk_frozen BK.out 1
 have zf2 := blk_frozen BK.out 2
 have zf3 := blk_frozen BK.out 3
 have zf4 := blk_frozen BK.out 4
 have zf5 := blk_frozen BK.out 5
 have zf6 := blk_frozen BK.out 6
 have zf7 := blk_frozen BK.out 7
 have zf8 := blk_frozen BK.out 8
 have zf9 := blk_frozen BK.out 9
 go_upto_region 4 with (fail)
 go_cut [90] (fun v90 wc => ∃ b : Bool, v90 = .bool b ∧ Aside0 (b = true → R2 = false) ∧ Aside0 (b = false → R2 = (W && C)) ∧ Aside0 (wc.heap[w.heap.size]? = some (.cells #[.slice A0 l0.length c0, .slice A1 l1.length c1, .slice A2 l2.length c2, .slice A3 l3.length c3, .int .u32 a4, .slice A5 l5.length c5, .int .i64 a6, .slice A7 l7.length c7, .int .i64 a8, .string a9] 32 (0, 0))) ∧ Aside0 (Kd.C k37 wc PA 111 primsL) ∧ Aside0 (Below w.heap.size w wc))
 case first =>
  cases tf with
  | false =>
   go_wp2_with (first | (go_at_call 49; (with_reducible refine (HTF.out _ HB.out).mono ?_); rintro e w2 ⟨rfl, hb⟩; replace HPA := Aside0.mk (Kd.C_below HPA.out hb); replace BK := Aside0.mk (blk_below BK.out hb); replace HB := Aside0.mk (below_step HB.out hb); clear hb z0 z1 z2 z3 z4 z5 z6 z7 z8 z9 zf0 zf1 zf2 zf3 zf4 zf5 zf6 zf7 zf8 zf9; have z0 := (blk_cell BK.out 0).trans rfl; have z1 := (blk_cell BK.out 1).trans rfl; have z2 := (blk_cell BK.out 2).trans rfl; have z3 := (blk_cell BK.out 3).trans rfl; have z4 := (blk_cell BK.out 4).trans rfl; have z5 := (blk_cell BK.out 5).trans rfl; have z6 := (blk_cell BK.out 6).trans rfl; have z7 := (blk_cell BK.out 7).trans rfl; have z8 := (blk_cell BK.out 8).trans rfl; have z9 := (blk_cell BK.out 9).trans rfl; have zf0 := blk_frozen BK.out 0; have zf1 := blk_frozen BK.out 1; have zf2 := blk_frozen BK.out 2; have zf3 := blk_frozen BK.out 3; have zf4 := blk_frozen BK.out 4; have zf5 := blk_frozen BK.out 5; have zf6 := blk_frozen BK.out 6; have zf7 := blk_frozen BK.out 7; have zf8 := blk_frozen BK.out 8; have zf9 := blk_frozen BK.out 9))
   go_meet
   case rel => exact ⟨true, rfl, ⟨fun h => HR2.out⟩, ⟨fun h => (Bool.noConfusion h)⟩, ⟨BK.out⟩, ⟨by first | exact HPA.out | exact Kd.C_drewN HPA.out _⟩, ⟨by first | exact HB.out | exact pw_below_drewN HB.out _⟩⟩
  | true =>
   cases e1 : decide (a6 < -1) with
   | true =>
    go_wp2_with (first | (go_at_call 49; (with_reducible refine (HTF.out _ HB.out).mono ?_); rintro e w2 ⟨rfl, hb⟩; replace HPA := Aside0.mk (Kd.C_below HPA.out hb); replace BK := Aside0.mk (blk_below BK.out hb); replace HB := Aside0.mk (below_step HB.out hb); clear hb z0 z1 z2 z3 z4 z5 z6 z7 z8 z9 zf0 zf1 zf2 zf3 zf4 zf5 zf6 zf7 zf8 zf9; have z0 := (blk_cell BK.out 0).trans rfl; have z1 := (blk_cell BK.out 1).trans rfl; have z2 := (blk_cell BK.out 2).trans rfl; have z3 := (blk_cell BK.out 3).trans rfl; have z4 := (blk_cell BK.out 4).trans rfl; have z5 := (blk_cell BK.out 5).trans rfl; have z6 := (blk_cell BK.out 6).trans rfl; have z7 := (blk_cell BK.out 7).trans rfl; have z8 := (blk_cell BK.out 8).trans rfl; have z9 := (blk_cell BK.out 9).trans rfl; have zf0 := blk_frozen BK.out 0; have zf1 := blk_frozen BK.out 1; have zf2 := blk_frozen BK.out 2; have zf3 := blk_frozen BK.out 3; have zf4 := blk_frozen BK.out 4; have zf5 := blk_frozen BK.out 5; have zf6 := blk_frozen BK.out 6; have zf7 := blk_frozen BK.out 7; have zf8 := blk_frozen BK.out 8; have zf9 := blk_frozen BK.out 9))
    go_meet
    case rel => exact ⟨true, rfl, ⟨fun h => by rw [HR2.out, e1]; rfl⟩, ⟨fun h => (Bool.noConfusion h)⟩, ⟨BK.out⟩, ⟨by first | exact HPA.out | exact Kd.C_drewN HPA.out _⟩, ⟨by first | exact HB.out | exact pw_below_drewN HB.out _⟩⟩
   | false =>
    cases e2 : decide ((l5.length : Int) ≤ a6) with
    | true =>
     go_wp2_with (first | (go_at_call 49; (with_reducible refine (HTF.out _ HB.out).mono ?_); rintro e w2 ⟨rfl, hb⟩; replace HPA := Aside0.mk (Kd.C_below HPA.out hb); replace BK := Aside0.mk (blk_below BK.out hb); replace HB := Aside0.mk (below_step HB.out hb); clear hb z0 z1 z2 z3 z4 z5 z6 z7 z8 z9 zf0 zf1 zf2 zf3 zf4 zf5 zf6 zf7 zf8 zf9; have z0 := (blk_cell BK.out 0).trans rfl; have z1 := (blk_cell BK.out 1).trans rfl; have z2 := (blk_cell BK.out 2).trans rfl; have z3 := (blk_cell BK.out 3).trans rfl; have z4 := (blk_cell BK.out 4).trans rfl; have z5 := (blk_cell BK.out 5).trans rfl; have z6 := (blk_cell BK.out 6).trans rfl; have z7 := (blk_cell BK.out 7).trans rfl; have z8 := (blk_cell BK.out 8).trans rfl; have z9 := (blk_cell BK.out 9).trans rfl; have zf0 := blk_frozen BK.out 0; have zf1 := blk_frozen BK.out 1; have zf2 := blk_frozen BK.out 2; have zf3 := blk_frozen BK.out 3; have zf4 := blk_frozen BK.out 4; have zf5 := blk_frozen BK.out 5; have zf6 := blk_frozen BK.out 6; have zf7 := blk_frozen BK.out 7; have zf8 := blk_frozen BK.out 8; have zf9 := blk_frozen BK.out 9))
     go_meet
     case rel => exact ⟨true, rfl, ⟨fun h => by rw [HR2.out, e1, e2]; rfl⟩, ⟨fun h => (Bool.noConfusion h)⟩, ⟨BK.out⟩, ⟨by first | exact HPA.out | exact Kd.C_drewN HPA.out _⟩, ⟨by first | exact HB.out | exact pw_below_drewN HB.out _⟩⟩
    | false =>
     cases ti with
     | false =>
      go_wp2_with (first | (go_at_call 49; (with_reducible refine (HTF.out _ HB.out).mono ?_); rintro e w2 ⟨rfl, hb⟩; replace HPA := Aside0.mk (Kd.C_below HPA.out hb); replace BK := Aside0.mk (blk_below BK.out hb); replace HB := Aside0.mk (below_step HB.out hb); clear hb z0 z1 z2 z3 z4 z5 z6 z7 z8 z9 zf0 zf1 zf2 zf3 zf4 zf5 zf6 zf7 zf8 zf9; have z0 := (blk_cell BK.out 0).trans rfl; have z1 := (blk_cell BK.out 1).trans rfl; have z2 := (blk_cell BK.out 2).trans rfl; have z3 := (blk_cell BK.out 3).trans rfl; have z4 := (blk_cell BK.out 4).trans rfl; have z5 := (blk_cell BK.out 5).trans rfl; have z6 := (blk_cell BK.out 6).trans rfl; have z7 := (blk_cell BK.out 7).trans rfl; have z8 := (blk_cell BK.out 8).trans rfl; have z9 := (blk_cell BK.out 9).trans rfl; have zf0 := blk_frozen BK.out 0; have zf1 := blk_frozen BK.out 1; have zf2 := blk_frozen BK.out 2; have zf3 := blk_frozen BK.out 3; have zf4 := blk_frozen BK.out 4; have zf5 := blk_frozen BK.out 5; have zf6 := blk_frozen BK.out 6; have zf7 := blk_frozen BK.out 7; have zf8 := blk_frozen BK.out 8; have zf9 := blk_frozen BK.out 9) | (go_at_call 50; (with_reducible refine (HIN.out _ HB.out).mono ?_); rintro e w3 ⟨rfl, hb⟩; replace HPA := Aside0.mk (Kd.C_below HPA.out hb); replace BK := Aside0.mk (blk_below BK.out hb); replace HB := Aside0.mk (below_step HB.out hb); clear hb z0 z1 z2 z3 z4 z5 z6 z7 z8 z9 zf0 zf1 zf2 zf3 zf4 zf5 zf6 zf7 zf8 zf9; have z0 := (blk_cell BK.out 0).trans rfl; have z1 := (blk_cell BK.out 1).trans rfl; have z2 := (blk_cell BK.out 2).trans rfl; have z3 := (blk_cell BK.out 3).trans rfl; have z4 := (blk_cell BK.out 4).trans rfl; have z5 := (blk_cell BK.out 5).trans rfl; have z6 := (blk_cell BK.out 6).trans rfl; have z7 := (blk_cell BK.out 7).trans rfl; have z8 := (blk_cell BK.out 8).trans rfl; have z9 := (blk_cell BK.out 9).trans rfl; have zf0 := blk_frozen BK.out 0; have zf1 := blk_frozen BK.out 1; have zf2 := blk_frozen BK.out 2; have zf3 := blk_frozen BK.out 3; have zf4 := blk_frozen BK.out 4; have zf5 := blk_frozen BK.out 5; have zf6 := blk_frozen BK.out 6; have zf7 := blk_frozen BK.out 7; have zf8 := blk_frozen BK.out 8; have zf9 := blk_frozen BK.out 9))
      go_meet
      case rel => exact ⟨true, rfl, ⟨fun h => by rw [HR2.out, e1, e2]; rfl⟩, ⟨fun h => (Bool.noConfusion h)⟩, ⟨BK.out⟩, ⟨by first | exact HPA.out | exact Kd.C_drewN HPA.out _⟩, ⟨by first | exact HB.out | exact pw_below_drewN HB.out _⟩⟩
     | true =>
      cases s8 : (a8 == -1) with
      | true =>
       have s8n : (a8 != -1) = false := by rw [bne, s8]; rfl
       go_wp2_with (first | (go_at_call 49; (with_reducible refine (HTF.out _ HB.out).mono ?_); rintro e w2 ⟨rfl, hb⟩; replace HPA := Aside0.mk (Kd.C_below HPA.out hb); replace BK := Aside0.mk (blk_below BK.out hb); replace HB := Aside0.mk (below_step HB.out hb); clear hb z0 z1 z2 z3 z4 z5 z6 z7 z8 z9 zf0 zf1 zf2 zf3 zf4 zf5 zf6 zf7 zf8 zf9; have z0 := (blk_cell BK.out 0).trans rfl; have z1 := (blk_cell BK.out 1).trans rfl; have z2 := (blk_cell BK.out 2).trans rfl; have z3 := (blk_cell BK.out 3).trans rfl; have z4 := (blk_cell BK.out 4).trans rfl; have z5 := (blk_cell BK.out 5).trans rfl; have z6 := (blk_cell BK.out 6).trans rfl; have z7 := (blk_cell BK.out 7).trans rfl; have z8 := (blk_cell BK.out 8).trans rfl; have z9 := (blk_cell BK.out 9).trans rfl; have zf0 := blk_frozen BK.out 0; have zf1 := blk_frozen BK.out 1; have zf2 := blk_frozen BK.out 2; have zf3 := blk_frozen BK.out 3; have zf4 := blk_frozen BK.out 4; have zf5 := blk_frozen BK.out 5; have zf6 := blk_frozen BK.out 6; have zf7 := blk_frozen BK.out 7; have zf8 := blk_frozen BK.out 8; have zf9 := blk_frozen BK.out 9) | (go_at_call 50; (with_reducible refine (HIN.out _ HB.out).mono ?_); rintro e w3 ⟨rfl, hb⟩; replace HPA := Aside0.mk (Kd.C_below HPA.out hb); replace BK := Aside0.mk (blk_below BK.out hb); replace HB := Aside0.mk (below_step HB.out hb); clear hb z0 z1 z2 z3 z4 z5 z6 z7 z8 z9 zf0 zf1 zf2 zf3 zf4 zf5 zf6 zf7 zf8 zf9; have z0 := (blk_cell BK.out 0).trans rfl; have z1 := (blk_cell BK.out 1).trans rfl; have z2 := (blk_cell BK.out 2).trans rfl; have z3 := (blk_cell BK.out 3).trans rfl; have z4 := (blk_cell BK.out 4).trans rfl; have z5 := (blk_cell BK.out 5).trans rfl; have z6 := (blk_cell BK.out 6).trans rfl; have z7 := (blk_cell BK.out 7).trans rfl; have z8 := (blk_cell BK.out 8).trans rfl; have z9 := (blk_cell BK.out 9).trans rfl; have zf0 := blk_frozen BK.out 0; have zf1 := blk_frozen BK.out 1; have zf2 := blk_frozen BK.out 2; have zf3 := blk_frozen BK.out 3; have zf4 := blk_frozen BK.out 4; have zf5 := blk_frozen BK.out 5; have zf6 := blk_frozen BK.out 6; have zf7 := blk_frozen BK.out 7; have zf8 := blk_frozen BK.out 8; have zf9 := blk_frozen BK.out 9))
       go_meet
       case rel => exact ⟨false, rfl, ⟨fun h => (Bool.noConfusion h)⟩, ⟨fun h => by rw [HR2.out, e1, e2, s8]; rfl⟩, ⟨BK.out⟩, ⟨by first | exact HPA.out | exact Kd.C_drewN HPA.out _⟩, ⟨by first | exact HB.out | exact pw_below_drewN HB.out _⟩⟩
      | false =>
       have s8n : (a8 != -1) = true := by rw [bne, s8]; rfl
       cases al with
       | true =>
        go_wp2_with (first | (go_at_call 49; (with_reducible refine (HTF.out _ HB.out).mono ?_); rintro e w2 ⟨rfl, hb⟩; replace HPA := Aside0.mk (Kd.C_below HPA.out hb); replace BK := Aside0.mk (blk_below BK.out hb); replace HB := Aside0.mk (below_step HB.out hb); clear hb z0 z1 z2 z3 z4 z5 z6 z7 z8 z9 zf0 zf1 zf2 zf3 zf4 zf5 zf6 zf7 zf8 zf9; have z0 := (blk_cell BK.out 0).trans rfl; have z1 := (blk_cell BK.out 1).trans rfl; have z2 := (blk_cell BK.out 2).trans rfl; have z3 := (blk_cell BK.out 3).trans rfl; have z4 := (blk_cell BK.out 4).trans rfl; have z5 := (blk_cell BK.out 5).trans rfl; have z6 := (blk_cell BK.out 6).trans rfl; have z7 := (blk_cell BK.out 7).trans rfl; have z8 := (blk_cell BK.out 8).trans rfl; have z9 := (blk_cell BK.out 9).trans rfl; have zf0 := blk_frozen BK.out 0; have zf1 := blk_frozen BK.out 1; have zf2 := blk_frozen BK.out 2; have zf3 := blk_frozen BK.out 3; have zf4 := blk_frozen BK.out 4; have zf5 := blk_frozen BK.out 5; have zf6 := blk_frozen BK.out 6; have zf7 := blk_frozen BK.out 7; have zf8 := blk_frozen BK.out 8; have zf9 := blk_frozen BK.out 9) | (go_at_call 50; (with_reducible refine (HIN.out _ HB.out).mono ?_); rintro e w3 ⟨rfl, hb⟩; replace HPA := Aside0.mk (Kd.C_below HPA.out hb); replace BK := Aside0.mk (blk_below BK.out hb); replace HB := Aside0.mk (below_step HB.out hb); clear hb z0 z1 z2 z3 z4 z5 z6 z7 z8 z9 zf0 zf1 zf2 zf3 zf4 zf5 zf6 zf7 zf8 zf9; have z0 := (blk_cell BK.out 0).trans rfl; have z1 := (blk_cell BK.out 1).trans rfl; have z2 := (blk_cell BK.out 2).trans rfl; have z3 := (blk_cell BK.out 3).trans rfl; have z4 := (blk_cell BK.out 4).trans rfl; have z5 := (blk_cell BK.out 5).trans rfl; have z6 := (blk_cell BK.out 6).trans rfl; have z7 := (blk_cell BK.out 7).trans rfl; have z8 := (blk_cell BK.out 8).trans rfl; have z9 := (blk_cell BK.out 9).trans rfl; have zf0 := blk_frozen BK.out 0; have zf1 := blk_frozen BK.out 1; have zf2 := blk_frozen BK.out 2; have zf3 := blk_frozen BK.out 3; have zf4 := blk_frozen BK.out 4; have zf5 := blk_frozen BK.out 5; have zf6 := blk_frozen BK.out 6; have zf7 := blk_frozen BK.out 7; have zf8 := blk_frozen BK.out 8; have zf9 := blk_frozen BK.out 9) | (go_at_call 51; (with_reducible refine (HAL.out _ HB.out).mono ?_); rintro e w4 ⟨rfl, n4, rfl⟩))
        go_meet
        case rel => exact ⟨false, rfl, ⟨fun h => (Bool.noConfusion h)⟩, ⟨fun h => by rw [HR2.out, e1, e2, s8]; rfl⟩, ⟨BK.out⟩, ⟨by first | exact HPA.out | exact Kd.C_drewN HPA.out _⟩, ⟨by first | exact HB.out | exact pw_below_drewN HB.out _⟩⟩
       | false =>
        go_wp2_with (first | (go_at_call 49; (with_reducible refine (HTF.out _ HB.out).mono ?_); rintro e w2 ⟨rfl, hb⟩; replace HPA := Aside0.mk (Kd.C_below HPA.out hb); replace BK := Aside0.mk (blk_below BK.out hb); replace HB := Aside0.mk (below_step HB.out hb); clear hb z0 z1 z2 z3 z4 z5 z6 z7 z8 z9 zf0 zf1 zf2 zf3 zf4 zf5 zf6 zf7 zf8 zf9; have z0 := (blk_cell BK.out 0).trans rfl; have z1 := (blk_cell BK.out 1).trans rfl; have z2 := (blk_cell BK.out 2).trans rfl; have z3 := (blk_cell BK.out 3).trans rfl; have z4 := (blk_cell BK.out 4).trans rfl; have z5 := (blk_cell BK.out 5).trans rfl; have z6 := (blk_cell BK.out 6).trans rfl; have z7 := (blk_cell BK.out 7).trans rfl; have z8 := (blk_cell BK.out 8).trans rfl; have z9 := (blk_cell BK.out 9).trans rfl; have zf0 := blk_frozen BK.out 0; have zf1 := blk_frozen BK.out 1; have zf2 := blk_frozen BK.out 2; have zf3 := blk_frozen BK.out 3; have zf4 := blk_frozen BK.out 4; have zf5 := blk_frozen BK.out 5; have zf6 := blk_frozen BK.out 6; have zf7 := blk_frozen BK.out 7; have zf8 := blk_frozen BK.out 8; have zf9 := blk_frozen BK.out 9) | (go_at_call 50; (with_reducible refine (HIN.out _ HB.out).mono ?_); rintro e w3 ⟨rfl, hb⟩; replace HPA := Aside0.mk (Kd.C_below HPA.out hb); replace BK := Aside0.mk (blk_below BK.out hb); replace HB := Aside0.mk (below_step HB.out hb); clear hb z0 z1 z2 z3 z4 z5 z6 z7 z8 z9 zf0 zf1 zf2 zf3 zf4 zf5 zf6 zf7 zf8 zf9; have z0 := (blk_cell BK.out 0).trans rfl; have z1 := (blk_cell BK.out 1).trans rfl; have z2 := (blk_cell BK.out 2).trans rfl; have z3 := (blk_cell BK.out 3).trans rfl; have z4 := (blk_cell BK.out 4).trans rfl; have z5 := (blk_cell BK.out 5).trans rfl; have z6 := (blk_cell BK.out 6).trans rfl; have z7 := (blk_cell BK.out 7).trans rfl; have z8 := (blk_cell BK.out 8).trans rfl; have z9 := (blk_cell BK.out 9).trans rfl; have zf0 := blk_frozen BK.out 0; have zf1 := blk_frozen BK.out 1; have zf2 := blk_frozen BK.out 2; have zf3 := blk_frozen BK.out 3; have zf4 := blk_frozen BK.out 4; have zf5 := blk_frozen BK.out 5; have zf6 := blk_frozen BK.out 6; have zf7 := blk_frozen BK.out 7; have zf8 := blk_frozen BK.out 8; have zf9 := blk_frozen BK.out 9) | (go_at_call 51; (with_reducible refine (HAL.out _ HB.out).mono ?_); rintro e w4 ⟨rfl, n4, rfl⟩))
        go_meet
        case rel => exact ⟨true, rfl, ⟨fun h => by rw [HR2.out, e1, e2, s8]; rfl⟩, ⟨fun h => (Bool.noConfusion h)⟩, ⟨BK.out⟩, ⟨by first | exact HPA.out | exact Kd.C_drewN HPA.out _⟩, ⟨by first | exact HB.out | exact pw_below_drewN HB.out _⟩⟩
 case rest =>
 clear HPA BK HB HTF HIN HAL z0 z1 z2 z3 z4 z5 z6 z7 z8 z9 zf0 zf1 zf2 zf3 zf4 zf5 zf6 zf7 zf8 zf9
 obtain ⟨b, rfl, HB1, HB2, BK, HPA, HB⟩ := hcut
 cases b with
 | true =>
  have HRF := Aside0.mk (HB1.out rfl)
  go_wp2
  go_ret
  exact ⟨by rw [HRR.out, HRF.out]; rfl, HB.out⟩
 | false =>
 have HI := HRR.out.trans (HB2.out rfl)
 clear HB1 HB2 HRR HR2
 have HCW := Aside0.mk (show ∀ i : Int, 0 ≤ i → i < l2.length → wordAt primsL l5 l2 i.toNat = false → R = false from fun i q0 q1 hf => by
   rw [HI, HWD.out, show wordsU l5 l2 = false from by
    unfold wordsU; rw [Bool.eq_false_iff]; intro h; have := List.all_eq_true.1 h i.toNat (List.mem_range.2 (by omega)); rw [hf] at this; exact Bool.false_ne_true this]; rfl)
 have HCT := Aside0.mk (show (∀ j : Nat, j < l2.length → wordAt primsL l5 l2 j = true) → R = C from fun h => by
   rw [HI, HWD.out, show wordsU l5 l2 = true from List.all_eq_true.2 fun j hj => h j (List.mem_range.1 hj)]; rfl)
 have HCE := Aside0.mk (show ∀ i : Int, 0 ≤ i → i < l3.length → wildB l2.length (rd l3 i) = true → C = false from fun i q0 q1 hf => by
   rw [HCD.out]; unfold codesT; rw [Bool.eq_false_iff]; intro h; have := List.all_eq_true.1 h (rd l3 i) (by unfold rd; rw [List.getD_eq_getElem?_getD, List.getElem?_eq_getElem (show i.toNat < l3.length by omega)]; exact List.getElem_mem _); rw [hf] at this; exact Bool.false_ne_true this)
 have HCO := Aside0.mk (show (∀ j : Nat, j < l3.length → wildB l2.length (l3.getD j 0) = false) → C = true from fun h => by
   rw [HCD.out]; exact List.all_eq_true.2 fun c hc => by obtain ⟨j, hj, rfl⟩ := List.mem_iff_getElem.1 hc; have := h j hj; rw [List.getD_eq_getElem?_getD, List.getElem?_eq_getElem hj] at this; show (!wildB l2.length (l3[j])) = true; rw [show wildB l2.length (l3[j]) = false from this]; rfl)
 clear HI HWD HCD
 have z2 := (blk_cell BK.out 2).trans rfl
 have zf2 := blk_frozen BK.out 2
 go_wp2
 go_loopg [4] l2.length (fun kq v4 w' => ∃ i : Int, v4 = .int .i64 i ∧ Aside0 (0 ≤ i ∧ i + kq = l2.length) ∧ Aside0 (∀ j : Nat, j < i.toNat → wordAt primsL l5 l2 j = true) ∧ Aside0 (w'.heap[w.heap.size]? = some (.cells #[.slice A0 l0.length c0, .slice A1 l1.length c1, .slice A2 l2.length c2, .slice A3 l3.length c3, .int .u32 a4, .slice A5 l5.length c5, .int .i64 a6, .slice A7 l7.length c7, .int .i64 a8, .string a9] 32 (0, 0))) ∧ Aside0 (Kd.C k37 w' PA 111 primsL) ∧ Aside0 (Below w.heap.size w w'))
 case atStart => exact ⟨0, rfl, ⟨by omega, by omega⟩, ⟨fun j hj => absurd hj (by simp)⟩, ⟨BK.out⟩, ⟨by first | exact HPA.out | exact Kd.C_drewN HPA.out _⟩, ⟨by first | exact HB.out | exact pw_below_drewN HB.out _⟩⟩
 case round =>
  clear HB BK HPA z2 zf2
  obtain ⟨i, rfl, HX, HZ, BK, HPA, HB⟩ := hrel
  have z2 := (blk_cell BK.out 2).trans rfl
  have zf2 := blk_frozen BK.out 2
  cases gk with
  | zero =>
   have hlt : decide (i < (l2.length : Int)) = false := decide_eq_false (by have := HX.out; omega)
   have HRC := Aside0.mk (HCT.out (fun j hj => HZ.out j (by have := HX.out; omega)))
   have z3 := (blk_cell BK.out 3).trans rfl
   have zf3 := blk_frozen BK.out 3
   go_wp2
   go_loopg [5] l3.length (fun kq v5 w' => ∃ i : Int, v5 = .int .i64 i ∧ Aside0 (0 ≤ i ∧ i + kq = l3.length) ∧ Aside0 (∀ j : Nat, j < i.toNat → wildB l2.length (l3.getD j 0) = false) ∧ Aside0 (w'.heap[w.heap.size]? = some (.cells #[.slice A0 l0.length c0, .slice A1 l1.length c1, .slice A2 l2.length c2, .slice A3 l3.length c3, .int .u32 a4, .slice A5 l5.length c5, .int .i64 a6, .slice A7 l7.length c7, .int .i64 a8, .string a9] 32 (0, 0))) ∧ Aside0 (Below w.heap.size w w'))
   case atStart => exact ⟨0, rfl, ⟨by omega, by omega⟩, ⟨fun j hj => absurd hj (by simp)⟩, ⟨BK.out⟩, HB⟩
   case round =>
    clear HB BK HPA HX hlt z2 zf2 z3 zf3
    obtain ⟨i, rfl, HX, HZ, BK, HB⟩ := hrel
    rename World => wa
    have z2 := (blk_cell BK.out 2).trans rfl
    have z3 := (blk_cell BK.out 3).trans rfl
    have zf2 := blk_frozen BK.out 2
    have zf3 := blk_frozen BK.out 3
    cases gk with
    | zero =>
     have hlt : decide (i < (l3.length : Int)) = false := decide_eq_false (by have := HX.out; omega)
     go_wp2
     go_ret
     exact ⟨by rw [HRC.out, HCO.out (fun j hj => HZ.out j (by have := HX.out; omega))]; rfl, HB.out⟩
    | succ k1 =>
     have hi := HX.out
     have hlt : decide (i < (l3.length : Int)) = true := decide_eq_true (by omega)
     have p1 : (0 ≤ i) = True := eq_true (by omega)
     have p2 : (i < (l3.length : Int)) = True := eq_true (by omega)
     have hwr : IntKind.i64.wrap (i + 1) = i + 1 := (i64_w _).trans (by have := HM3.out; unfold wrap64; omega)
     have hwr2 : wrap64 (i + 1) = i + 1 := by have := HM3.out; unfold wrap64; omega
     obtain ⟨ad, eA, hx0⟩ := Kd.at_int (Kd.C_below HC3.out HB.out) i (by omega) (by omega)
     cases eA
     have HCF := Aside0.mk (HCE.out i (by omega) (by omega))
     have HZ2 := Aside0.mk (show wildB l2.length (rd l3 i) = false → ∀ j : Nat, j < (i + 1).toNat → wildB l2.length (l3.getD j 0) = false from fun h j hj => by
      by_cases e : j = i.toNat
      ·subst e; exact h
      ·exact HZ.out j (by omega))
     generalize rd l3 i = c at *
     clear hi
     cases q1 : decide (c < -1) with
     | true =>
      have HRF := Aside0.mk (HCF.out (by unfold wildB; rw [q1]; rfl))
      go_wp2
      go_quiet (fail)
      go_wp2
      go_ret
      exact ⟨by rw [HRC.out, HRF.out]; rfl, (by first | exact HB.out | exact pw_below_drewN HB.out _)⟩
     | false =>
      cases q2 : decide ((l2.length : Int) ≤ c) with
      | true =>
       have HRF := Aside0.mk (HCF.out (by unfold wildB; rw [q1, q2]; rfl))
       go_wp2
       go_quiet (fail)
       go_wp2
       go_ret
       exact ⟨by rw [HRC.out, HRF.out]; rfl, (by first | exact HB.out | exact pw_below_drewN HB.out _)⟩
      | false =>
       have HZ3 := Aside0.mk (HZ2.out (by unfold wildB; rw [q1, q2]; rfl))
       go_wp2
       go_quiet (fail)
       go_wp2
       go_roundg k1
       case measure => omega
       case rel => exact ⟨i + 1, rfl, ⟨by have := HX.out; omega, by have := HX.out; omega⟩, HZ3, ⟨BK.out⟩, ⟨by first | exact HB.out | exact pw_below_drewN HB.out _⟩⟩
  | succ k1 =>
   have hi := HX.out
   have hlt : decide (i < (l2.length : Int)) = true := decide_eq_true (by omega)
   have p1 : (0 ≤ i) = True := eq_true (by omega)
   have p2 : (i < (l2.length : Int)) = True := eq_true (by omega)
   have hwr : IntKind.i64.wrap (i + 1) = i + 1 := (i64_w _).trans (by have := HLN.out; unfold wrap64; omega)
   have hwr2 : wrap64 (i + 1) = i + 1 := by have := HLN.out; unfold wrap64; omega
   obtain ⟨ad, A4, c4, eA, hx0, hx1, hx2, hx3, hx4, hl4, hg4⟩ := at_T51 (Kd.C_below HC2.out HB.out) i (by omega) (by omega)
   cases eA
   have HCF := Aside0.mk (HCW.out i (by omega) (by omega))
   have HZ2 := Aside0.mk (show wordAt primsL l5 l2 i.toNat = true → ∀ j : Nat, j < (i + 1).toNat → wordAt primsL l5 l2 j = true from fun h j hj => by
    by_cases e : j = i.toNat
    ·subst e; exact h
    ·exact HZ.out j (by omega))
   have HWA := Aside0.mk (show wordAt primsL l5 l2 i.toNat = if i < 111 then wOk (rd_T51 l2 i) (rd_T37 primsL i) else rightB l2.length l5 (rd_T51 l2 i) by unfold wordAt; rw [primsL_len, show ((i.toNat : Nat) : Int) = i by omega]; rfl)
   have HWX := Aside0.mk (fun (X : World) (hX : Below wr.heap.size wr X) => HWF.out X i A4 c4 (below_step HB.out hX) (by omega) (by omega) (Kd.C_below hg4 hX) hl4)
   have hm : wr.cell? ⟨w.heap.size, 2, none⟩ = some (.slice (some ad) l2.length c2) := z2
   have ht : wr.cell? ⟨w.heap.size, 5, none⟩ = some (.slice A5 l5.length c5) := (blk_cell BK.out 5).trans rfl
   by_cases h111 : i < 111
   ·have q0 : decide (i < 111) = true := decide_eq_true h111
    have r2 : (i < 111) = True := eq_true h111
    rw [if_pos h111] at HWA
    obtain ⟨pd, eP, hv0, hv1⟩ := at_T37 HPA.out i (by omega) (by omega)
    cases eP
    have HSX := Aside0.mk (fun (X : World) (hX : Below wr.heap.size wr X) => HSW.out X (rd_T51 l2 i) (rd_T37 primsL i) A4 c4 (Kd.C_below hg4 hX) hl4)
    generalize rd_T51 l2 i = x at *
    generalize rd_T37 primsL i = y at *
    clear HWX hi hl4 hg4 h111 ht
    generalize wOk x y = ok at HWA HSX
    generalize wordAt primsL l5 l2 i.toNat = wt at HWA HCF HZ2
    go_wp2
    refine start_ (n := 19) (S := fun w' => w'.cell? ⟨w.heap.size, 2, none⟩ = some (.slice (some ad) l2.length c2) ∧ w'.cell? (ad.add (i.toNat * 5)) = some (.string x.f0) ∧ w'.cell? ⟨(ad.add (i.toNat * 5)).block, (ad.add (i.toNat * 5)).off + 1, none⟩ = some (.int .i64 x.f1) ∧ w'.cell? ⟨(ad.add (i.toNat * 5)).block, (ad.add (i.toNat * 5)).off + 2, none⟩ = some (.int .i64 x.f2) ∧ w'.cell? ⟨(ad.add (i.toNat * 5)).block, (ad.add (i.toNat * 5)).off + 3, none⟩ = some (.int .u32 x.f3) ∧ w'.cell? ⟨(ad.add (i.toNat * 5)).block, (ad.add (i.toNat * 5)).off + 4, none⟩ = some (.slice A4 x.f4.length c4) ∧ w'.cell? (pd.add (i.toNat * 2)) = some (.string y.f0) ∧ w'.cell? ⟨(pd.add (i.toNat * 2)).block, (pd.add (i.toNat * 2)).off + 1, none⟩ = some (.int .i64 y.f1) ∧ Below wr.heap.size wr w') (ds := []) #[false, false, false, false, false, false, false, false, false, false, false, false, false, false, false, false, false, false, false] (by kernel_rfl) rfl rfl ⟨hm, hx0, hx1, hx2, hx3, hx4, hv0, hv1, below_drew1 (Below.refl wr.heap.size wr)⟩ (fun hHeld => ?_)
    refine pure_ (i := 0) (N := some 102) (v := ?_) (a' := ?_) #[true, false, false, false, false, false, false, false, false, false, false, false, false, false, false, false, false, false, false] rfl rfl (by kernel_rfl) (fun _ _ _ h => h) (Or.inl ⟨by rfl, ?_⟩) ?_ ?_
    rotate_left
    ·intro w'
     go_simp
     with_reducible rfl
    rotate_left
    ·simp only [Act.put, List.setIfInBounds_toArray, List.set_cons_zero, List.set_cons_succ]
     rfl
    refine pure_ (i := 2) (N := some 104) (v := ?_) (a' := ?_) #[true, false, true, false, false, false, false, false, false, false, false, false, false, false, false, false, false, false, false] rfl rfl (by kernel_rfl) (fun _ _ _ h => h) (Or.inl ⟨by rfl, ?_⟩) ?_ ?_
    rotate_left
    ·intro w'
     go_simp
     with_reducible rfl
    rotate_left
    ·simp only [Act.put, List.setIfInBounds_toArray, List.set_cons_zero, List.set_cons_succ]
     rfl
    refine pure_ (i := 5) (N := some 107) (v := ?_) (a' := ?_) #[true, false, true, false, false, true, false, false, false, false, false, false, false, false, false, false, false, false, false] rfl rfl (by kernel_rfl) (fun _ _ _ h => h) (Or.inl ⟨by rfl, ?_⟩) ?_ ?_
    rotate_left
    ·intro w'
     go_simp
     with_reducible rfl
    rotate_left
    ·simp only [Act.put, List.setIfInBounds_toArray, List.set_cons_zero, List.set_cons_succ]
     rfl
    refine pure_ (i := 6) (N := some 108) (v := ?_) (a' := ?_) #[true, false, true, false, false, true, true, false, false, false, false, false, false, false, false, false, false, false, false] rfl rfl (by kernel_rfl) (fun _ _ _ h => h) (Or.inl ⟨by rfl, ?_⟩) ?_ ?_
    rotate_left
    ·intro w'
     go_simp
     with_reducible rfl
    rotate_left
    ·simp only [Act.put, List.setIfInBounds_toArray, List.set_cons_zero, List.set_cons_succ]
     rfl
    refine pure_ (i := 10) (N := some 112) (v := ?_) (a' := ?_) #[true, false, true, false, false, true, true, false, false, false, true, false, false, false, false, false, false, false, false] rfl rfl (by kernel_rfl) (fun _ _ _ h => h) (Or.inl ⟨by rfl, ?_⟩) ?_ ?_
    rotate_left
    ·intro w'
     go_simp
     with_reducible rfl
    rotate_left
    ·simp only [Act.put, List.setIfInBounds_toArray, List.set_cons_zero, List.set_cons_succ]
     rfl
    refine pure_ (i := 11) (N := some 113) (v := ?_) (a' := ?_) #[true, false, true, false, false, true, true, false, false, false, true, true, false, false, false, false, false, false, false] rfl rfl (by kernel_rfl) (fun _ _ _ h => h) (Or.inl ⟨by rfl, ?_⟩) ?_ ?_
    rotate_left
    ·intro w'
     go_simp
     with_reducible rfl
    rotate_left
    ·simp only [Act.put, List.setIfInBounds_toArray, List.set_cons_zero, List.set_cons_succ]
     rfl
    refine take_ (i := 1) (N := some 103) (v := (.slice (some ad) l2.length c2)) (a' := ?_) #[true, true, true, false, false, true, true, false, false, false, true, true, false, false, false, false, false, false, false] rfl rfl (by kernel_rfl) (fun _ _ _ h => h) (Or.inl ⟨by rfl, ?_⟩) hHeld ?_ ?_
    rotate_left
    rotate_left
    ·simp only [Act.put, List.setIfInBounds_toArray, List.set_cons_zero, List.set_cons_succ]
     rfl
    rotate_left
    ·rintro w' ⟨s0, s1, s2, s3, s4, s5, s6, s7, s8⟩
     go_simp
    refine pure_ (i := 3) (N := some 105) (v := ?_) (a' := ?_) #[true, true, true, true, false, true, true, false, false, false, true, true, false, false, false, false, false, false, false] rfl rfl (by kernel_rfl) (fun _ _ _ h => h) (Or.inl ⟨by rfl, ?_⟩) ?_ ?_
    rotate_left
    ·intro w'
     go_simp
     with_reducible rfl
    rotate_left
    ·simp only [Act.put, List.setIfInBounds_toArray, List.set_cons_zero, List.set_cons_succ]
     rfl
    refine pure_ (i := 7) (N := some 109) (v := ?_) (a' := ?_) #[true, true, true, true, false, true, true, true, false, false, true, true, false, false, false, false, false, false, false] rfl rfl (by kernel_rfl) (fun _ _ _ h => h) (Or.inl ⟨by rfl, ?_⟩) ?_ ?_
    rotate_left
    ·intro w'
     go_simp
     with_reducible rfl
    rotate_left
    ·simp only [Act.put, List.setIfInBounds_toArray, List.set_cons_zero, List.set_cons_succ]
     rfl
    refine pure_ (i := 8) (N := some 110) (v := ?_) (a' := ?_) #[true, true, true, true, false, true, true, true, true, false, true, true, false, false, false, false, false, false, false] rfl rfl (by kernel_rfl) (fun _ _ _ h => h) (Or.inl ⟨by rfl, ?_⟩) ?_ ?_
    rotate_left
    ·intro w'
     go_simp
     with_reducible rfl
    rotate_left
    ·simp only [Act.put, List.setIfInBounds_toArray, List.set_cons_zero, List.set_cons_succ]
     rfl
    refine pure_ (i := 12) (N := some 114) (v := ?_) (a' := ?_) #[true, true, true, true, false, true, true, true, true, false, true, true, true, false, false, false, false, false, false] rfl rfl (by kernel_rfl) (fun _ _ _ h => h) (Or.inl ⟨by rfl, ?_⟩) ?_ ?_
    rotate_left
    ·intro w'
     go_simp
     with_reducible rfl
    rotate_left
    ·simp only [Act.put, List.setIfInBounds_toArray, List.set_cons_zero, List.set_cons_succ]
     rfl
    refine pure_ (i := 13) (N := some 115) (v := ?_) (a' := ?_) #[true, true, true, true, false, true, true, true, true, false, true, true, true, true, false, false, false, false, false] rfl rfl (by kernel_rfl) (fun _ _ _ h => h) (Or.inl ⟨by rfl, ?_⟩) ?_ ?_
    rotate_left
    ·intro w'
     go_simp
     with_reducible rfl
    rotate_left
    ·simp only [Act.put, List.setIfInBounds_toArray, List.set_cons_zero, List.set_cons_succ]
     rfl
    refine take_ (i := 4) (N := some 106) (v := (.agg #[.string x.f0, .int .i64 x.f1, .int .i64 x.f2, .int .u32 x.f3, .slice A4 x.f4.length c4])) (a' := ?_) #[true, true, true, true, true, true, true, true, true, false, true, true, true, true, false, false, false, false, false] rfl rfl (by kernel_rfl) (fun _ _ _ h => h) (Or.inl ⟨by rfl, ?_⟩) hHeld ?_ ?_
    rotate_left
    rotate_left
    ·simp only [Act.put, List.setIfInBounds_toArray, List.set_cons_zero, List.set_cons_succ]
     rfl
    rotate_left
    ·rintro w' ⟨s0, s1, s2, s3, s4, s5, s6, s7, s8⟩
     go_simp
    refine take_ (i := 9) (N := some 111) (v := (.string y.f0)) (a' := ?_) #[true, true, true, true, true, true, true, true, true, true, true, true, true, true, false, false, false, false, false] rfl rfl (by kernel_rfl) (fun _ _ _ h => h) (Or.inl ⟨by rfl, ?_⟩) hHeld ?_ ?_
    rotate_left
    rotate_left
    ·simp only [Act.put, List.setIfInBounds_toArray, List.set_cons_zero, List.set_cons_succ]
     rfl
    rotate_left
    ·rintro w' ⟨s0, s1, s2, s3, s4, s5, s6, s7, s8⟩
     go_simp
    refine take_ (i := 14) (N := some 116) (v := (.int .i64 y.f1)) (a' := ?_) #[true, true, true, true, true, true, true, true, true, true, true, true, true, true, true, false, false, false, false] rfl rfl (by kernel_rfl) (fun _ _ _ h => h) (Or.inl ⟨by rfl, ?_⟩) hHeld ?_ ?_
    rotate_left
    rotate_left
    ·simp only [Act.put, List.setIfInBounds_toArray, List.set_cons_zero, List.set_cons_succ]
     rfl
    rotate_left
    ·rintro w' ⟨s0, s1, s2, s3, s4, s5, s6, s7, s8⟩
     go_simp
    refine pure_ (i := 15) (N := some 117) (v := ?_) (a' := ?_) #[true, true, true, true, true, true, true, true, true, true, true, true, true, true, true, true, false, false, false] rfl rfl (by kernel_rfl) (fun _ _ _ h => h) (Or.inl ⟨by rfl, ?_⟩) ?_ ?_
    rotate_left
    ·intro w'
     go_simp
     with_reducible rfl
    rotate_left
    ·simp only [Act.put, List.setIfInBounds_toArray, List.set_cons_zero, List.set_cons_succ]
     rfl
    refine pure_ (i := 16) (N := some 118) (v := ?_) (a' := ?_) #[true, true, true, true, true, true, true, true, true, true, true, true, true, true, true, true, true, false, false] rfl rfl (by kernel_rfl) (fun _ _ _ h => h) (Or.inl ⟨by rfl, ?_⟩) ?_ ?_
    rotate_left
    ·intro w'
     go_simp
     with_reducible rfl
    rotate_left
    ·simp only [Act.put, List.setIfInBounds_toArray, List.set_cons_zero, List.set_cons_succ]
     rfl
    refine one_ (i := 17) (N := some 119) #[true, true, true, true, true, true, true, true, true, true, true, true, true, true, true, true, true, true, false] rfl rfl (by kernel_rfl) (by decide) (fun K hK => ?_)
    refine goes_ Try.func52 (by kernel_rfl) rfl #[.agg #[.string x.f0, .int .i64 x.f1, .int .i64 x.f2, .int .u32 x.f3, .slice A4 x.f4.length c4], .agg #[.string y.f0, .int .i64 (-1), .int .i64 1, .int .u32 (y.f1 % 4294967296), .slice none 0 0]] (by rfl) rfl rfl (by first | rfl | (simp only [List.map_toArray, List.map_cons, List.map_nil]; rfl)) ?_
    refine (HSX.out _ hHeld.2.2.2.2.2.2.2.2).mono ?_
    rintro e w5 ⟨rfl, hb⟩
    refine ⟨_, rfl, hK.out _ _ ⟨cell_step hHeld.1 hb, cell_step hHeld.2.1 hb, cell_step hHeld.2.2.1 hb, cell_step hHeld.2.2.2.1 hb, cell_step hHeld.2.2.2.2.1 hb, cell_step hHeld.2.2.2.2.2.1 hb, cell_step hHeld.2.2.2.2.2.2.1 hb, cell_step hHeld.2.2.2.2.2.2.2.1 hb, below_step hHeld.2.2.2.2.2.2.2.2 hb⟩ (fun hHeld => ?_)⟩
    clear hb
    clear hK K
    simp only [Act.put, List.setIfInBounds_toArray, List.set_cons_zero, List.set_cons_succ]
    refine pure_ (i := 18) (N := some 120) (v := ?_) (a' := ?_) #[true, true, true, true, true, true, true, true, true, true, true, true, true, true, true, true, true, true, true] rfl rfl (by kernel_rfl) (fun _ _ _ h => h) (Or.inl ⟨by rfl, ?_⟩) ?_ ?_
    rotate_left
    ·intro w'
     go_simp
     with_reducible rfl
    rotate_left
    ·simp only [Act.put, List.setIfInBounds_toArray, List.set_cons_zero, List.set_cons_succ]
     rfl
    have HW5 := Aside0.mk hHeld.2.2.2.2.2.2.2.2
    clear hHeld hm hx0 hx1 hx2 hx3 hx4 hv0 hv1 z2 zf2
    refine done_ (n := 0) (by kernel_rfl) ?_
    cases ok with
    | false =>
     have HRF := Aside0.mk (HCF.out HWA.out)
     go_wp2
     go_ret
     exact ⟨by rw [HRF.out]; rfl, below_step HB.out HW5.out⟩
    | true =>
     have HZ3 := Aside0.mk (HZ2.out HWA.out)
     go_wp2
     go_roundg k1
     case measure => omega
     case rel => exact ⟨i + 1, rfl, ⟨by have := HX.out; omega, by have := HX.out; omega⟩, HZ3, ⟨(HW5.out.block w.heap.size (blk_lt BK.out)).trans BK.out⟩, ⟨Kd.C_below HPA.out HW5.out⟩, ⟨below_step HB.out HW5.out⟩⟩
   ·have q0 : decide (i < 111) = false := decide_eq_false h111
    rw [if_neg h111] at HWA
    generalize rd_T51 l2 i = x at *
    clear hi hl4 hg4 h111
    generalize rightB l2.length l5 x = ok at HWA HWX
    generalize wordAt primsL l5 l2 i.toNat = wt at HWA HCF HZ2
    go_wp2
    refine start_ (n := 12) (S := fun w' => w'.cell? ⟨w.heap.size, 2, none⟩ = some (.slice (some ad) l2.length c2) ∧ w'.cell? ⟨w.heap.size, 5, none⟩ = some (.slice A5 l5.length c5) ∧ w'.cell? (ad.add (i.toNat * 5)) = some (.string x.f0) ∧ w'.cell? ⟨(ad.add (i.toNat * 5)).block, (ad.add (i.toNat * 5)).off + 1, none⟩ = some (.int .i64 x.f1) ∧ w'.cell? ⟨(ad.add (i.toNat * 5)).block, (ad.add (i.toNat * 5)).off + 2, none⟩ = some (.int .i64 x.f2) ∧ w'.cell? ⟨(ad.add (i.toNat * 5)).block, (ad.add (i.toNat * 5)).off + 3, none⟩ = some (.int .u32 x.f3) ∧ w'.cell? ⟨(ad.add (i.toNat * 5)).block, (ad.add (i.toNat * 5)).off + 4, none⟩ = some (.slice A4 x.f4.length c4) ∧ Below wr.heap.size wr w') (ds := []) #[false, false, false, false, false, false, false, false, false, false, false, false] (by kernel_rfl) rfl rfl ⟨hm, ht, hx0, hx1, hx2, hx3, hx4, below_drew1 (Below.refl wr.heap.size wr)⟩ (fun hHeld => ?_)
    refine pure_ (i := 0) (N := some 121) (v := ?_) (a' := ?_) #[true, false, false, false, false, false, false, false, false, false, false, false] rfl rfl (by kernel_rfl) (fun _ _ _ h => h) (Or.inl ⟨by rfl, ?_⟩) ?_ ?_
    rotate_left
    ·intro w'
     go_simp
     with_reducible rfl
    rotate_left
    ·simp only [Act.put, List.setIfInBounds_toArray, List.set_cons_zero, List.set_cons_succ]
     rfl
    refine pure_ (i := 2) (N := some 123) (v := ?_) (a' := ?_) #[true, false, true, false, false, false, false, false, false, false, false, false] rfl rfl (by kernel_rfl) (fun _ _ _ h => h) (Or.inl ⟨by rfl, ?_⟩) ?_ ?_
    rotate_left
    ·intro w'
     go_simp
     with_reducible rfl
    rotate_left
    ·simp only [Act.put, List.setIfInBounds_toArray, List.set_cons_zero, List.set_cons_succ]
     rfl
    refine pure_ (i := 5) (N := some 126) (v := ?_) (a' := ?_) #[true, false, true, false, false, true, false, false, false, false, false, false] rfl rfl (by kernel_rfl) (fun _ _ _ h => h) (Or.inl ⟨by rfl, ?_⟩) ?_ ?_
    rotate_left
    ·intro w'
     go_simp
     with_reducible rfl
    rotate_left
    ·simp only [Act.put, List.setIfInBounds_toArray, List.set_cons_zero, List.set_cons_succ]
     rfl
    refine pure_ (i := 8) (N := some 129) (v := ?_) (a' := ?_) #[true, false, true, false, false, true, false, false, true, false, false, false] rfl rfl (by kernel_rfl) (fun _ _ _ h => h) (Or.inl ⟨by rfl, ?_⟩) ?_ ?_
    rotate_left
    ·intro w'
     go_simp
     with_reducible rfl
    rotate_left
    ·simp only [Act.put, List.setIfInBounds_toArray, List.set_cons_zero, List.set_cons_succ]
     rfl
    refine take_ (i := 1) (N := some 122) (v := (.slice (some ad) l2.length c2)) (a' := ?_) #[true, true, true, false, false, true, false, false, true, false, false, false] rfl rfl (by kernel_rfl) (fun _ _ _ h => h) (Or.inl ⟨by rfl, ?_⟩) hHeld ?_ ?_
    rotate_left
    rotate_left
    ·simp only [Act.put, List.setIfInBounds_toArray, List.set_cons_zero, List.set_cons_succ]
     rfl
    rotate_left
    ·rintro w' ⟨s0, s1, s2, s3, s4, s5, s6, s7⟩
     go_simp
    refine take_ (i := 6) (N := some 127) (v := (.slice (some ad) l2.length c2)) (a' := ?_) #[true, true, true, false, false, true, true, false, true, false, false, false] rfl rfl (by kernel_rfl) (fun _ _ _ h => h) (Or.inl ⟨by rfl, ?_⟩) hHeld ?_ ?_
    rotate_left
    rotate_left
    ·simp only [Act.put, List.setIfInBounds_toArray, List.set_cons_zero, List.set_cons_succ]
     rfl
    rotate_left
    ·rintro w' ⟨s0, s1, s2, s3, s4, s5, s6, s7⟩
     go_simp
    refine take_ (i := 9) (N := some 130) (v := (.slice A5 l5.length c5)) (a' := ?_) #[true, true, true, false, false, true, true, false, true, true, false, false] rfl rfl (by kernel_rfl) (fun _ _ _ h => h) (Or.inl ⟨by rfl, ?_⟩) hHeld ?_ ?_
    rotate_left
    rotate_left
    ·simp only [Act.put, List.setIfInBounds_toArray, List.set_cons_zero, List.set_cons_succ]
     rfl
    rotate_left
    ·rintro w' ⟨s0, s1, s2, s3, s4, s5, s6, s7⟩
     go_simp
    refine pure_ (i := 3) (N := some 124) (v := ?_) (a' := ?_) #[true, true, true, true, false, true, true, false, true, true, false, false] rfl rfl (by kernel_rfl) (fun _ _ _ h => h) (Or.inl ⟨by rfl, ?_⟩) ?_ ?_
    rotate_left
    ·intro w'
     go_simp
     with_reducible rfl
    rotate_left
    ·simp only [Act.put, List.setIfInBounds_toArray, List.set_cons_zero, List.set_cons_succ]
     rfl
    refine take_ (i := 4) (N := some 125) (v := (.agg #[.string x.f0, .int .i64 x.f1, .int .i64 x.f2, .int .u32 x.f3, .slice A4 x.f4.length c4])) (a' := ?_) #[true, true, true, true, true, true, true, false, true, true, false, false] rfl rfl (by kernel_rfl) (fun _ _ _ h => h) (Or.inl ⟨by rfl, ?_⟩) hHeld ?_ ?_
    rotate_left
    rotate_left
    ·simp only [Act.put, List.setIfInBounds_toArray, List.set_cons_zero, List.set_cons_succ]
     rfl
    rotate_left
    ·rintro w' ⟨s0, s1, s2, s3, s4, s5, s6, s7⟩
     go_simp
    refine pure_ (i := 7) (N := some 128) (v := ?_) (a' := ?_) #[true, true, true, true, true, true, true, true, true, true, false, false] rfl rfl (by kernel_rfl) (fun _ _ _ h => h) (Or.inl ⟨by rfl, ?_⟩) ?_ ?_
    rotate_left
    ·intro w'
     go_simp
     with_reducible rfl
    rotate_left
    ·simp only [Act.put, List.setIfInBounds_toArray, List.set_cons_zero, List.set_cons_succ]
     rfl
    refine one_ (i := 10) (N := some 131) #[true, true, true, true, true, true, true, true, true, true, true, false] rfl rfl (by kernel_rfl) (by decide) (fun K hK => ?_)
    refine goes_ Try.func53 (by kernel_rfl) rfl #[.agg #[.string x.f0, .int .i64 x.f1, .int .i64 x.f2, .int .u32 x.f3, .slice A4 x.f4.length c4], .int .i64 l2.length, .slice A5 l5.length c5] (by rfl) rfl rfl (by first | rfl | (simp only [List.map_toArray, List.map_cons, List.map_nil]; rfl)) ?_
    refine (HWX.out _ hHeld.2.2.2.2.2.2.2).mono ?_
    rintro e w5 ⟨rfl, hb⟩
    refine ⟨_, rfl, hK.out _ _ ⟨cell_step hHeld.1 hb, cell_step hHeld.2.1 hb, cell_step hHeld.2.2.1 hb, cell_step hHeld.2.2.2.1 hb, cell_step hHeld.2.2.2.2.1 hb, cell_step hHeld.2.2.2.2.2.1 hb, cell_step hHeld.2.2.2.2.2.2.1 hb, below_step hHeld.2.2.2.2.2.2.2 hb⟩ (fun hHeld => ?_)⟩
    clear hb
    clear hK K
    simp only [Act.put, List.setIfInBounds_toArray, List.set_cons_zero, List.set_cons_succ]
    refine pure_ (i := 11) (N := some 132) (v := ?_) (a' := ?_) #[true, true, true, true, true, true, true, true, true, true, true, true] rfl rfl (by kernel_rfl) (fun _ _ _ h => h) (Or.inl ⟨by rfl, ?_⟩) ?_ ?_
    rotate_left
    ·intro w'
     go_simp
     with_reducible rfl
    rotate_left
    ·simp only [Act.put, List.setIfInBounds_toArray, List.set_cons_zero, List.set_cons_succ]
     rfl
    have HW5 := Aside0.mk hHeld.2.2.2.2.2.2.2
    clear hHeld hm ht hx0 hx1 hx2 hx3 hx4 z2 zf2
    refine done_ (n := 0) (by kernel_rfl) ?_
    cases ok with
    | false =>
     have HRF := Aside0.mk (HCF.out HWA.out)
     go_wp2
     go_ret
     exact ⟨by rw [HRF.out]; rfl, below_step HB.out HW5.out⟩
    | true =>
     have HZ3 := Aside0.mk (HZ2.out HWA.out)
     go_wp2
     go_roundg k1
     case measure => omega
     case rel => exact ⟨i + 1, rfl, ⟨by have := HX.out; omega, by have := HX.out; omega⟩, HZ3, ⟨(HW5.out.block w.heap.size (blk_lt BK.out)).trans BK.out⟩, ⟨Kd.C_below HPA.out HW5.out⟩, ⟨below_step HB.out HW5.out⟩⟩
end Go.Proofs.Ytfpkakedlapmkaa.Q
end
