/- Contracts of Go functions and plain facts, of several texts, one behind the other; no condition. -/
import Derived.Test.YtfpkakedlapmkaaMDictForms2
import Derived.Laws.RangeString
import Derived.Laws.RangeAny
section
namespace Go.Proofs.Ytfpkakedlapmkaa.Q
open Go.RowKit Go.Proofs.YtfpkakedlapmkaaW.PrintWords Go.Proofs.YtfpkakedlapmkaaW.PrintLast Go.Proofs.YtfpkakedlapmkaaW.PrintMore
set_option linter.unusedVariables false
set_option linter.unusedSimpArgs false

attribute [local go_sem] max2_int min2_int max_two min_two max_three min_three max_four min_four
/-! ### dict_Sound: function 19 -/
mutual
def dict_Sound.l0 : Nat → List (S69) → Int → List (S69) → Int → Int → Option (Bool)
 | 0, _, _, _, _, _ => none
 | k + 1, x0, x1, x12, x13, x14 => if x14 < x13 then (if 0 ≤ x14 then (if x14 < (x12.length : Int) then (if ((rd_T69 x12 x14).f0) = 1 then (dict_Sound.l0 k x0 x1 x12 x13 (wrap64 (x14 + 1))) else (if ((rd_T69 x12 x14).f0) = 2 then (dict_Sound.j1 k x0 x1 false (wrap64 ((rd_T69 x12 x14).f1)) x12 x13 x14 ((rd_T69 x12 x14).f0) (((rd_T69 x12 x14).f0) == 2)) else (dict_Sound.j1 k x0 x1 false (wrap64 ((rd_T69 x12 x14).f1)) x12 x13 x14 ((rd_T69 x12 x14).f0) (((rd_T69 x12 x14).f0) == 13)))) else (none)) else (none)) else (some true)
def dict_Sound.j1 : Nat → List (S69) → Int → Bool → Int → List (S69) → Int → Int → Int → Bool → Option (Bool)
 | 0, _, _, _, _, _, _, _, _, _ => none
 | k + 1, x0, x1, x7, x8, x12, x13, x14, x22, x25 => if x25 = true then (if x8 < x1 then (dict_Sound.l0 k x0 x1 x12 x13 (wrap64 (x14 + 1))) else (some false)) else (if x22 = 11 then (dict_Sound.j2 k x0 x1 x7 x8 x12 x13 x14 x22 (x22 == 11)) else (dict_Sound.j2 k x0 x1 x7 x8 x12 x13 x14 x22 (x22 == 12)))
def dict_Sound.j2 : Nat → List (S69) → Int → Bool → Int → List (S69) → Int → Int → Int → Bool → Option (Bool)
 | 0, _, _, _, _, _, _, _, _, _ => none
 | k + 1, x0, x1, x7, x8, x12, x13, x14, x22, x31 => if x31 = true then (if x8 = 0 then (dict_Sound.l0 k x0 x1 x12 x13 (wrap64 (x14 + 1))) else (some false)) else (if x22 = 3 then (dict_Sound.j3 k x0 x1 x7 x8 x12 x13 x14 (x22 == 3)) else (if x22 = 4 then (dict_Sound.j3 k x0 x1 x7 x8 x12 x13 x14 (x22 == 4)) else (if x22 = 5 then (dict_Sound.j3 k x0 x1 x7 x8 x12 x13 x14 (x22 == 5)) else (if x22 = 6 then (dict_Sound.j3 k x0 x1 x7 x8 x12 x13 x14 (x22 == 6)) else (if x22 = 7 then (dict_Sound.j3 k x0 x1 x7 x8 x12 x13 x14 (x22 == 7)) else (if x22 = 8 then (dict_Sound.j3 k x0 x1 x7 x8 x12 x13 x14 (x22 == 8)) else (if x22 = 9 then (dict_Sound.j3 k x0 x1 x7 x8 x12 x13 x14 (x22 == 9)) else (dict_Sound.j3 k x0 x1 x7 x8 x12 x13 x14 (x22 == 10)))))))))
def dict_Sound.j3 : Nat → List (S69) → Int → Bool → Int → List (S69) → Int → Int → Bool → Option (Bool)
 | 0, _, _, _, _, _, _, _, _ => none
 | k + 1, x0, x1, x7, x8, x12, x13, x14, x36 => if x36 = true then (if (x8 ≤ (x0.length : Int)) then (dict_Sound.l0 k x0 x1 x12 x13 (wrap64 (x14 + 1))) else (some false)) else (if x7 = true then (dict_Sound.l0 k x0 x1 x12 x13 (wrap64 (x14 + 1))) else (some false))
end
def dict_Sound.f (k : Nat) (l0 : List (S69)) (a1 : Int) : Option (Bool) := if (l0.length : Int) > 256 then (some false) else (dict_Sound.l0 k l0 a1 l0 (l0.length : Int) 0)
set_option maxHeartbeats 8000000 in
set_option maxRecDepth 100000 in
theorem dict_Sound.calls (k : Nat) (A0 : Option Addr) (c0 : Nat) (l0 : List (S69)) (a1 : Int) (r : Bool) (w : World) (hr0 : Kd.C k69 w A0 l0.length l0) (hc0 : l0.length ≤ c0) (h : dict_Sound.f k l0 a1 = some r) :
  Calls Try.prog 19 #[.slice A0 l0.length c0, .int .i64 a1] w fun e w' => e = .returned (.bool r) ∧ Below w.heap.size w w' := by
 have hu69 := Try.underlying69
 have HR0 := Aside0.mk hr0
 have HC0 := Aside0.mk hc0
 clear hr0 hc0
 have HB := Aside0.mk (Below.refl w.heap.size w)
 have H : (if (l0.length : Int) > 256 then (some false) else (dict_Sound.l0 k l0 a1 l0 (l0.length : Int) 0)) = some r := h
 clear h
 by_cases c3 : (l0.length : Int) > 256
 ·rw [if_pos c3] at H
  have c3b0 : decide (256 < (l0.length : Int)) = true := decide_eq_true c3
  have c3b1 : decide (256 < l0.length) = true := decide_eq_true (by omega)
  clear c3
  obtain rfl := Option.some.inj H
  go_enter Try.func19, Try.ntmps19
  go_wp2
  go_ret
  exact ⟨by first | rfl | (simp [errW_none, errW_some] <;> rfl) | (simp [*, errW_none, errW_some] <;> rfl), by repeat (first | (with_reducible first | exact HB.out | apply below_alloc | apply pw_below_drewN | apply below_drew1) | exact HB.out)⟩
 ·rw [if_neg c3] at H
  have c3b0 : decide (256 < (l0.length : Int)) = false := decide_eq_false c3
  have c3b1 : decide (256 < l0.length) = false := decide_eq_false (by omega)
  clear c3
  have H' := Aside0.mk H
  clear H
  go_enter Try.func19, Try.ntmps19
  go_wp2
  go_loopg [14] k (fun kq v14 w' => ∃ (x14_1 : Int), v14 = .int .i64 x14_1 ∧ Aside0 (dict_Sound.l0 kq l0 a1 l0 (l0.length : Int) x14_1 = some r) ∧ Aside0 (kq ≤ k) ∧ Aside0 (Below w.heap.size w w'))
  case atStart => exact ⟨(0), (by first | rfl | (simp; done) | (simp [*]; done)), H', ⟨Nat.le_refl _⟩, ⟨by repeat (first | (with_reducible first | exact HB.out | apply below_alloc | apply pw_below_drewN | apply below_drew1) | exact HB.out)⟩⟩
  case round =>
   clear H'
   try clear c1
   try clear p2
   try clear c3
   try clear c3b0
   try clear c3b1
   obtain ⟨x14_1, rfl, HA, HK1, HB⟩ := hrel
   cases gk with
   | zero => exact absurd HA.out (by simp [dict_Sound.l0])
   | succ k1 =>
    have H := HA.out
    clear HA
    simp only [dict_Sound.l0] at H
    by_cases c4 : x14_1 < (l0.length : Int)
    ·rw [if_pos c4] at H
     have c4b0 : decide (x14_1 < (l0.length : Int)) = true := decide_eq_true c4
     clear c4
     by_cases c5 : 0 ≤ x14_1
     ·rw [if_pos c5] at H
      have c5b0 : decide (0 ≤ x14_1) = true := decide_eq_true c5
      clear c5
      by_cases c6 : x14_1 < (l0.length : Int)
      ·rw [if_pos c6] at H
       have c6b0 : decide (x14_1 < (l0.length : Int)) = true := decide_eq_true c6
       clear c6
       by_cases c7 : ((rd_T69 l0 x14_1).f0) = 1
       ·rw [if_pos c7] at H
        have c7b0 : (((rd_T69 l0 x14_1).f0) == 1) = true := beq_iff_eq.mpr c7
        have c7b1 : (((rd_T69 l0 x14_1).f0) != 1) = false := bne_eq_false_iff_eq.mpr c7
        clear c7
        have H' := Aside0.mk H
        clear H
        have p20001 : 0 ≤ (x14_1 : Int) := of_decide_eq_true (by first | (with_reducible assumption) | assumption)
        have q20001 : x14_1 < (l0.length : Int) := of_decide_eq_true (by first | (with_reducible assumption) | assumption)
        obtain ⟨ad20001, e20001, hx20001_0, hx20001_1⟩ := at_T69 HR0.out x14_1 p20001 q20001
        cases e20001
        replace hx20001_0 := (HB.out.cell (World.block_lt_of_cell? w _ hx20001_0)).trans hx20001_0
        replace hx20001_1 := (HB.out.cell (World.block_lt_of_cell? w _ hx20001_1)).trans hx20001_1
        replace p20001 := eq_true p20001
        replace q20001 := eq_true q20001
        go_wp2_with (first | ((with_reducible refine gate_dst (N := 6) rfl ?_); refine box_event ?hg (N := 6) ?hd (cs := #[.int .i64 0, .int .u32 0]) (t := 69) ?hr ?_; (case hd => rfl); (case hg => rfl); (case hr => first | (go_simp; done) | (go_simp; rfl)); intro gb20002 hg w8 hbox hb; have n0_ := Aside0.mk (below_step (by repeat (first | (with_reducible first | exact HB.out | apply below_alloc | apply pw_below_drewN | apply below_drew1) | exact HB.out)) hb); have n1_ := Aside0.mk (hbox); have n2_ := Aside0.mk ((by rw [hg]; exact (below_size (by repeat (first | (with_reducible first | exact HB.out | apply below_alloc | apply pw_below_drewN | apply below_drew1) | exact HB.out))) : w.heap.size ≤ gb20002)); have n3_ := Aside0.mk ((by rw [hg]; exact (below_size (by repeat (first | (with_reducible first | exact HB.out | apply below_alloc | apply pw_below_drewN | apply below_drew1) | exact HB.out))) : w.heap.size ≤ gb20002)); clear HB; have HB := n0_; have BK20002 := n1_; have GW20002 := n2_; have GE20002 := n3_; clear n0_ n1_ n2_ n3_; clear hb hbox hg; have hcz9_0 : w8.cell? ⟨gb20002, 0, none⟩ = some (.int .i64 0) := (blk_cell BK20002.out 0).trans rfl; have hcz9_1 : w8.cell? ⟨gb20002, 1, none⟩ = some (.int .u32 0) := (blk_cell BK20002.out 1).trans rfl; have hfz9_0 := blk_frozen BK20002.out 0; have hfz9_1 := blk_frozen BK20002.out 1))
        go_roundg k1
        case measure => have := HK1.out; omega
        case rel => exact ⟨(wrap64 (x14_1 + 1)), (by first | rfl | (simp; done) | (simp [*]; done)), H', ⟨by have := HK1.out; omega⟩, ⟨by repeat (first | (with_reducible first | exact HB.out | apply below_alloc | apply pw_below_drewN | apply below_drew1 | refine below_set ?_ GE20002.out) | exact HB.out)⟩⟩
       ·rw [if_neg c7] at H
        have c7b0 : (((rd_T69 l0 x14_1).f0) == 1) = false := beq_eq_false_iff_ne.mpr c7
        have c7b1 : (((rd_T69 l0 x14_1).f0) != 1) = true := bne_iff_ne.mpr c7
        have HC10 := Aside0.mk H
        clear H
        have p20001 : 0 ≤ (x14_1 : Int) := of_decide_eq_true (by first | (with_reducible assumption) | assumption)
        have q20001 : x14_1 < (l0.length : Int) := of_decide_eq_true (by first | (with_reducible assumption) | assumption)
        obtain ⟨ad20001, e20001, hx20001_0, hx20001_1⟩ := at_T69 HR0.out x14_1 p20001 q20001
        cases e20001
        replace hx20001_0 := (HB.out.cell (World.block_lt_of_cell? w _ hx20001_0)).trans hx20001_0
        replace hx20001_1 := (HB.out.cell (World.block_lt_of_cell? w _ hx20001_1)).trans hx20001_1
        replace p20001 := eq_true p20001
        replace q20001 := eq_true q20001
        go_upto_if 25 with (first | ((with_reducible refine gate_dst (N := 6) rfl ?_); refine box_event ?hg (N := 6) ?hd (cs := #[.int .i64 0, .int .u32 0]) (t := 69) ?hr ?_; (case hd => rfl); (case hg => rfl); (case hr => first | (go_simp; done) | (go_simp; rfl)); intro gb20002 hg w11 hbox hb; have n0_ := Aside0.mk (below_step (by repeat (first | (with_reducible first | exact HB.out | apply below_alloc | apply pw_below_drewN | apply below_drew1) | exact HB.out)) hb); have n1_ := Aside0.mk (hbox); have n2_ := Aside0.mk ((by rw [hg]; exact (below_size (by repeat (first | (with_reducible first | exact HB.out | apply below_alloc | apply pw_below_drewN | apply below_drew1) | exact HB.out))) : w.heap.size ≤ gb20002)); have n3_ := Aside0.mk ((by rw [hg]; exact (below_size (by repeat (first | (with_reducible first | exact HB.out | apply below_alloc | apply pw_below_drewN | apply below_drew1) | exact HB.out))) : w.heap.size ≤ gb20002)); clear HB; have HB := n0_; have BK20002 := n1_; have GW20002 := n2_; have GE20002 := n3_; clear n0_ n1_ n2_ n3_; clear hb hbox hg; have hcz12_0 : w11.cell? ⟨gb20002, 0, none⟩ = some (.int .i64 0) := (blk_cell BK20002.out 0).trans rfl; have hcz12_1 : w11.cell? ⟨gb20002, 1, none⟩ = some (.int .u32 0) := (blk_cell BK20002.out 1).trans rfl; have hfz12_0 := blk_frozen BK20002.out 0; have hfz12_1 := blk_frozen BK20002.out 1))
        (try simp only [Act.put, List.setIfInBounds_toArray, List.set_cons_zero, List.set_cons_succ])
        go_cut [25] (fun v25 wc => ∃ (kq : Nat) (x25_9 : Bool), v25 = .bool x25_9 ∧ Aside0 (dict_Sound.j1 kq l0 a1 false (wrap64 ((rd_T69 l0 x14_1).f1)) l0 (l0.length : Int) x14_1 ((rd_T69 l0 x14_1).f0) x25_9 = some r) ∧ Aside0 (kq ≤ k1) ∧ Aside0 (wc.heap[gb20002]? = some (.cells #[.int .i64 ((rd_T69 l0 x14_1).f0), .int .u32 ((rd_T69 l0 x14_1).f1)] 69 (0, 0))) ∧ Aside0 (Below w.heap.size w wc))
        case first =>
         have H := HC10.out
         clear HC10
         by_cases c13 : ((rd_T69 l0 x14_1).f0) = 2
         ·rw [if_pos c13] at H
          have c13b0 : (((rd_T69 l0 x14_1).f0) == 2) = true := beq_iff_eq.mpr c13
          have c13b1 : (((rd_T69 l0 x14_1).f0) != 2) = false := bne_eq_false_iff_eq.mpr c13
          clear c13
          (first | rw [c13b0] | (simp only [i64_w, i32_w]; rw [c13b0]) | skip)
          have H' := Aside0.mk H
          clear H
          go_wp2
          go_meet
          case rel => exact ⟨_, ((((rd_T69 l0 x14_1).f0) == 2)), (by first | rfl | (simp; done) | (simp [*]; done)), H', ⟨by have := HK1.out; first | omega | exact Nat.le_refl _⟩, ⟨by (with_reducible repeat (first | refine blk_drewN ?_ _ | refine blk_drew ?_ | refine blk_alloc ?_ _)); refine blk_put (cs := #[.int .i64 ((rd_T69 l0 x14_1).f0), .int .u32 0]) ?_ 1 _ rfl; (with_reducible repeat (first | refine blk_drewN ?_ _ | refine blk_drew ?_ | refine blk_alloc ?_ _)); refine blk_put (cs := #[.int .i64 0, .int .u32 0]) ?_ 0 _ rfl; (with_reducible repeat (first | refine blk_drewN ?_ _ | refine blk_drew ?_ | refine blk_alloc ?_ _)); exact BK20002.out⟩, ⟨by repeat (first | (with_reducible first | exact HB.out | apply below_alloc | apply pw_below_drewN | apply below_drew1 | refine below_set ?_ GE20002.out) | exact HB.out)⟩⟩
         ·rw [if_neg c13] at H
          have c13b0 : (((rd_T69 l0 x14_1).f0) == 2) = false := beq_eq_false_iff_ne.mpr c13
          have c13b1 : (((rd_T69 l0 x14_1).f0) != 2) = true := bne_iff_ne.mpr c13
          (first | rw [c13b0] | (simp only [i64_w, i32_w]; rw [c13b0]) | skip)
          have H' := Aside0.mk H
          clear H
          go_wp2
          go_meet
          case rel => exact ⟨_, ((((rd_T69 l0 x14_1).f0) == 13)), (by first | rfl | (simp; done) | (simp [*]; done)), H', ⟨by have := HK1.out; first | omega | exact Nat.le_refl _⟩, ⟨by (with_reducible repeat (first | refine blk_drewN ?_ _ | refine blk_drew ?_ | refine blk_alloc ?_ _)); refine blk_put (cs := #[.int .i64 ((rd_T69 l0 x14_1).f0), .int .u32 0]) ?_ 1 _ rfl; (with_reducible repeat (first | refine blk_drewN ?_ _ | refine blk_drew ?_ | refine blk_alloc ?_ _)); refine blk_put (cs := #[.int .i64 0, .int .u32 0]) ?_ 0 _ rfl; (with_reducible repeat (first | refine blk_drewN ?_ _ | refine blk_drew ?_ | refine blk_alloc ?_ _)); exact BK20002.out⟩, ⟨by repeat (first | (with_reducible first | exact HB.out | apply below_alloc | apply pw_below_drewN | apply below_drew1 | refine below_set ?_ GE20002.out) | exact HB.out)⟩⟩
        case rest =>
         clear HC10
         try clear c1
         try clear p2
         try clear q2
         try clear hx2
         try clear c3
         try clear c3b0
         try clear c3b1
         try clear c4
         try clear c4b0
         try clear c5
         try clear c5b0
         try clear c6
         try clear c6b0
         try clear p6
         try clear c7
         try clear c7b0
         try clear c7b1
         try clear c13
         try clear c13b0
         try clear c13b1
         try clear hcz12_0
         try clear hcz12_1
         try clear hcz9_0
         try clear hcz9_1
         try clear hfz12_0
         try clear hfz12_1
         try clear hfz9_0
         try clear hfz9_1
         try clear hx20001_0
         try clear hx20001_1
         try clear p2
         try clear p20001
         try clear q20001
         obtain ⟨kq, x25_9, rfl, HA, HJ9, BK20002, HB⟩ := hcut
         cases kq with
         | zero => exact absurd HA.out (by simp [dict_Sound.j1])
         | succ kj9 =>
          have H := HA.out
          clear HA
          simp only [dict_Sound.j1] at H
          by_cases c14 : x25_9 = true
          ·subst c14
           have H1 : (if (wrap64 ((rd_T69 l0 x14_1).f1)) < a1 then (dict_Sound.l0 kj9 l0 a1 l0 (l0.length : Int) (wrap64 (x14_1 + 1))) else (some false)) = some r := by rw [if_pos rfl] at H; exact H
           clear H
           have H := H1
           clear H1
           by_cases c15 : (wrap64 ((rd_T69 l0 x14_1).f1)) < a1
           ·rw [if_pos c15] at H
            have c15b0 : decide ((wrap64 ((rd_T69 l0 x14_1).f1)) < a1) = true := decide_eq_true c15
            clear c15
            have H' := Aside0.mk H
            clear H
            go_wp2
            go_roundg kj9
            case measure => have := HK1.out; have := HJ9.out; omega
            case rel => exact ⟨(wrap64 (x14_1 + 1)), (by first | rfl | (simp; done) | (simp [*]; done)), H', ⟨by have := HK1.out; have := HJ9.out; omega⟩, ⟨by repeat (first | (with_reducible first | exact HB.out | apply below_alloc | apply pw_below_drewN | apply below_drew1 | refine below_set ?_ GE20002.out) | exact HB.out)⟩⟩
           ·rw [if_neg c15] at H
            have c15b0 : decide ((wrap64 ((rd_T69 l0 x14_1).f1)) < a1) = false := decide_eq_false c15
            clear c15
            obtain rfl := Option.some.inj H
            go_wp2
            go_ret
            exact ⟨by first | rfl | (simp [errW_none, errW_some] <;> rfl) | (simp [*, errW_none, errW_some] <;> rfl), by repeat (first | (with_reducible first | exact HB.out | apply below_alloc | apply pw_below_drewN | apply below_drew1 | refine below_set ?_ GE20002.out) | exact HB.out)⟩
          ·replace c14 := Bool.eq_false_iff.mpr c14
           subst c14
           have H1 : (if ((rd_T69 l0 x14_1).f0) = 11 then (dict_Sound.j2 kj9 l0 a1 false (wrap64 ((rd_T69 l0 x14_1).f1)) l0 (l0.length : Int) x14_1 ((rd_T69 l0 x14_1).f0) (((rd_T69 l0 x14_1).f0) == 11)) else (dict_Sound.j2 kj9 l0 a1 false (wrap64 ((rd_T69 l0 x14_1).f1)) l0 (l0.length : Int) x14_1 ((rd_T69 l0 x14_1).f0) (((rd_T69 l0 x14_1).f0) == 12))) = some r := by rw [if_neg (show ¬ (false = true) by decide)] at H; exact H
           clear H
           have H := H1
           clear H1
           have HC16 := Aside0.mk H
           clear H
           go_upto_if 31 with (fail)
           go_cut [31] (fun v31 wc => ∃ (kq : Nat) (x31_15 : Bool), v31 = .bool x31_15 ∧ Aside0 (dict_Sound.j2 kq l0 a1 false (wrap64 ((rd_T69 l0 x14_1).f1)) l0 (l0.length : Int) x14_1 ((rd_T69 l0 x14_1).f0) x31_15 = some r) ∧ Aside0 (kq ≤ kj9) ∧ Aside0 (wc.heap[gb20002]? = some (.cells #[.int .i64 ((rd_T69 l0 x14_1).f0), .int .u32 ((rd_T69 l0 x14_1).f1)] 69 (0, 0))) ∧ Aside0 (Below w.heap.size w wc))
           case first =>
            have H := HC16.out
            clear HC16
            by_cases c17 : ((rd_T69 l0 x14_1).f0) = 11
            ·rw [if_pos c17] at H
             have c17b0 : (((rd_T69 l0 x14_1).f0) == 11) = true := beq_iff_eq.mpr c17
             have c17b1 : (((rd_T69 l0 x14_1).f0) != 11) = false := bne_eq_false_iff_eq.mpr c17
             clear c17
             (first | rw [c17b0] | (simp only [i64_w, i32_w]; rw [c17b0]) | skip)
             have H' := Aside0.mk H
             clear H
             go_wp2
             go_meet
             case rel => exact ⟨_, ((((rd_T69 l0 x14_1).f0) == 11)), (by first | rfl | (simp; done) | (simp [*]; done)), H', ⟨by have := HK1.out; have := HJ9.out; first | omega | exact Nat.le_refl _⟩, ⟨by (with_reducible repeat (first | refine blk_drewN ?_ _ | refine blk_drew ?_ | refine blk_alloc ?_ _)); exact BK20002.out⟩, ⟨by repeat (first | (with_reducible first | exact HB.out | apply below_alloc | apply pw_below_drewN | apply below_drew1 | refine below_set ?_ GE20002.out) | exact HB.out)⟩⟩
            ·rw [if_neg c17] at H
             have c17b0 : (((rd_T69 l0 x14_1).f0) == 11) = false := beq_eq_false_iff_ne.mpr c17
             have c17b1 : (((rd_T69 l0 x14_1).f0) != 11) = true := bne_iff_ne.mpr c17
             (first | rw [c17b0] | (simp only [i64_w, i32_w]; rw [c17b0]) | skip)
             have H' := Aside0.mk H
             clear H
             go_wp2
             go_meet
             case rel => exact ⟨_, ((((rd_T69 l0 x14_1).f0) == 12)), (by first | rfl | (simp; done) | (simp [*]; done)), H', ⟨by have := HK1.out; have := HJ9.out; first | omega | exact Nat.le_refl _⟩, ⟨by (with_reducible repeat (first | refine blk_drewN ?_ _ | refine blk_drew ?_ | refine blk_alloc ?_ _)); exact BK20002.out⟩, ⟨by repeat (first | (with_reducible first | exact HB.out | apply below_alloc | apply pw_below_drewN | apply below_drew1 | refine below_set ?_ GE20002.out) | exact HB.out)⟩⟩
           case rest =>
            clear HC16
            try clear c1
            try clear p2
            try clear q2
            try clear hx2
            try clear c3
            try clear c3b0
            try clear c3b1
            try clear c4
            try clear c4b0
            try clear c5
            try clear c5b0
            try clear c6
            try clear c6b0
            try clear p6
            try clear c7
            try clear c7b0
            try clear c7b1
            try clear c13
            try clear c13b0
            try clear c13b1
            try clear c14
            try clear c15
            try clear c15b0
            try clear c17
            try clear c17b0
            try clear c17b1
            try clear hcz12_0
            try clear hcz12_1
            try clear hcz9_0
            try clear hcz9_1
            try clear hfz12_0
            try clear hfz12_1
            try clear hfz9_0
            try clear hfz9_1
            try clear hx20001_0
            try clear hx20001_1
            try clear p2
            try clear p20001
            try clear p6
            try clear q2
            try clear q20001
            obtain ⟨kq, x31_15, rfl, HA, HJ15, BK20002, HB⟩ := hcut
            cases kq with
            | zero => exact absurd HA.out (by simp [dict_Sound.j2])
            | succ kj15 =>
             have H := HA.out
             clear HA
             simp only [dict_Sound.j2] at H
             by_cases c18 : x31_15 = true
             ·subst c18
              have H1 : (if (wrap64 ((rd_T69 l0 x14_1).f1)) = 0 then (dict_Sound.l0 kj15 l0 a1 l0 (l0.length : Int) (wrap64 (x14_1 + 1))) else (some false)) = some r := by rw [if_pos rfl] at H; exact H
              clear H
              have H := H1
              clear H1
              by_cases c19 : (wrap64 ((rd_T69 l0 x14_1).f1)) = 0
              ·rw [if_pos c19] at H
               have c19b0 : ((wrap64 ((rd_T69 l0 x14_1).f1)) == 0) = true := beq_iff_eq.mpr c19
               have c19b1 : ((wrap64 ((rd_T69 l0 x14_1).f1)) != 0) = false := bne_eq_false_iff_eq.mpr c19
               clear c19
               have H' := Aside0.mk H
               clear H
               go_wp2
               go_roundg kj15
               case measure => have := HK1.out; have := HJ9.out; have := HJ15.out; omega
               case rel => exact ⟨(wrap64 (x14_1 + 1)), (by first | rfl | (simp; done) | (simp [*]; done)), H', ⟨by have := HK1.out; have := HJ9.out; have := HJ15.out; omega⟩, ⟨by repeat (first | (with_reducible first | exact HB.out | apply below_alloc | apply pw_below_drewN | apply below_drew1 | refine below_set ?_ GE20002.out) | exact HB.out)⟩⟩
              ·rw [if_neg c19] at H
               have c19b0 : ((wrap64 ((rd_T69 l0 x14_1).f1)) == 0) = false := beq_eq_false_iff_ne.mpr c19
               have c19b1 : ((wrap64 ((rd_T69 l0 x14_1).f1)) != 0) = true := bne_iff_ne.mpr c19
               obtain rfl := Option.some.inj H
               go_wp2
               go_ret
               exact ⟨by first | rfl | (simp [errW_none, errW_some] <;> rfl) | (simp [*, errW_none, errW_some] <;> rfl), by repeat (first | (with_reducible first | exact HB.out | apply below_alloc | apply pw_below_drewN | apply below_drew1 | refine below_set ?_ GE20002.out) | exact HB.out)⟩
             ·replace c18 := Bool.eq_false_iff.mpr c18
              subst c18
              have H1 : (if ((rd_T69 l0 x14_1).f0) = 3 then (dict_Sound.j3 kj15 l0 a1 false (wrap64 ((rd_T69 l0 x14_1).f1)) l0 (l0.length : Int) x14_1 (((rd_T69 l0 x14_1).f0) == 3)) else (if ((rd_T69 l0 x14_1).f0) = 4 then (dict_Sound.j3 kj15 l0 a1 false (wrap64 ((rd_T69 l0 x14_1).f1)) l0 (l0.length : Int) x14_1 (((rd_T69 l0 x14_1).f0) == 4)) else (if ((rd_T69 l0 x14_1).f0) = 5 then (dict_Sound.j3 kj15 l0 a1 false (wrap64 ((rd_T69 l0 x14_1).f1)) l0 (l0.length : Int) x14_1 (((rd_T69 l0 x14_1).f0) == 5)) else (if ((rd_T69 l0 x14_1).f0) = 6 then (dict_Sound.j3 kj15 l0 a1 false (wrap64 ((rd_T69 l0 x14_1).f1)) l0 (l0.length : Int) x14_1 (((rd_T69 l0 x14_1).f0) == 6)) else (if ((rd_T69 l0 x14_1).f0) = 7 then (dict_Sound.j3 kj15 l0 a1 false (wrap64 ((rd_T69 l0 x14_1).f1)) l0 (l0.length : Int) x14_1 (((rd_T69 l0 x14_1).f0) == 7)) else (if ((rd_T69 l0 x14_1).f0) = 8 then (dict_Sound.j3 kj15 l0 a1 false (wrap64 ((rd_T69 l0 x14_1).f1)) l0 (l0.length : Int) x14_1 (((rd_T69 l0 x14_1).f0) == 8)) else (if ((rd_T69 l0 x14_1).f0) = 9 then (dict_Sound.j3 kj15 l0 a1 false (wrap64 ((rd_T69 l0 x14_1).f1)) l0 (l0.length : Int) x14_1 (((rd_T69 l0 x14_1).f0) == 9)) else (dict_Sound.j3 kj15 l0 a1 false (wrap64 ((rd_T69 l0 x14_1).f1)) l0 (l0.length : Int) x14_1 (((rd_T69 l0 x14_1).f0) == 10))))))))) = some r := by rw [if_neg (show ¬ (false = true) by decide)] at H; exact H
              clear H
              have H := H1
              clear H1
              have HC20 := Aside0.mk H
              clear H
              go_upto_if 36 with (fail)
              go_cut [36] (fun v36 wc => ∃ (kq : Nat) (x36_19 : Bool), v36 = .bool x36_19 ∧ Aside0 (dict_Sound.j3 kq l0 a1 false (wrap64 ((rd_T69 l0 x14_1).f1)) l0 (l0.length : Int) x14_1 x36_19 = some r) ∧ Aside0 (kq ≤ kj15) ∧ Aside0 (wc.heap[gb20002]? = some (.cells #[.int .i64 ((rd_T69 l0 x14_1).f0), .int .u32 ((rd_T69 l0 x14_1).f1)] 69 (0, 0))) ∧ Aside0 (Below w.heap.size w wc))
              case first =>
               have H := HC20.out
               clear HC20
               by_cases c21 : ((rd_T69 l0 x14_1).f0) = 3
               ·rw [if_pos c21] at H
                have c21b0 : (((rd_T69 l0 x14_1).f0) == 3) = true := beq_iff_eq.mpr c21
                have c21b1 : (((rd_T69 l0 x14_1).f0) != 3) = false := bne_eq_false_iff_eq.mpr c21
                clear c21
                (first | rw [c21b0] | (simp only [i64_w, i32_w]; rw [c21b0]) | skip)
                have H' := Aside0.mk H
                clear H
                go_wp2
                go_meet
                case rel => exact ⟨_, ((((rd_T69 l0 x14_1).f0) == 3)), (by first | rfl | (simp; done) | (simp [*]; done)), H', ⟨by have := HK1.out; have := HJ9.out; have := HJ15.out; first | omega | exact Nat.le_refl _⟩, ⟨by (with_reducible repeat (first | refine blk_drewN ?_ _ | refine blk_drew ?_ | refine blk_alloc ?_ _)); exact BK20002.out⟩, ⟨by repeat (first | (with_reducible first | exact HB.out | apply below_alloc | apply pw_below_drewN | apply below_drew1 | refine below_set ?_ GE20002.out) | exact HB.out)⟩⟩
               ·rw [if_neg c21] at H
                have c21b0 : (((rd_T69 l0 x14_1).f0) == 3) = false := beq_eq_false_iff_ne.mpr c21
                have c21b1 : (((rd_T69 l0 x14_1).f0) != 3) = true := bne_iff_ne.mpr c21
                (first | rw [c21b0] | (simp only [i64_w, i32_w]; rw [c21b0]) | skip)
                by_cases c22 : ((rd_T69 l0 x14_1).f0) = 4
                ·rw [if_pos c22] at H
                 have c22b0 : (((rd_T69 l0 x14_1).f0) == 4) = true := beq_iff_eq.mpr c22
                 have c22b1 : (((rd_T69 l0 x14_1).f0) != 4) = false := bne_eq_false_iff_eq.mpr c22
                 clear c22
                 have H' := Aside0.mk H
                 clear H
                 go_wp2
                 go_meet
                 case rel => exact ⟨_, ((((rd_T69 l0 x14_1).f0) == 4)), (by first | rfl | (simp; done) | (simp [*]; done)), H', ⟨by have := HK1.out; have := HJ9.out; have := HJ15.out; first | omega | exact Nat.le_refl _⟩, ⟨by (with_reducible repeat (first | refine blk_drewN ?_ _ | refine blk_drew ?_ | refine blk_alloc ?_ _)); exact BK20002.out⟩, ⟨by repeat (first | (with_reducible first | exact HB.out | apply below_alloc | apply pw_below_drewN | apply below_drew1 | refine below_set ?_ GE20002.out) | exact HB.out)⟩⟩
                ·rw [if_neg c22] at H
                 have c22b0 : (((rd_T69 l0 x14_1).f0) == 4) = false := beq_eq_false_iff_ne.mpr c22
                 have c22b1 : (((rd_T69 l0 x14_1).f0) != 4) = true := bne_iff_ne.mpr c22
                 by_cases c23 : ((rd_T69 l0 x14_1).f0) = 5
                 ·rw [if_pos c23] at H
                  have c23b0 : (((rd_T69 l0 x14_1).f0) == 5) = true := beq_iff_eq.mpr c23
                  have c23b1 : (((rd_T69 l0 x14_1).f0) != 5) = false := bne_eq_false_iff_eq.mpr c23
                  clear c23
                  have H' := Aside0.mk H
                  clear H
                  go_wp2
                  go_meet
                  case rel => exact ⟨_, ((((rd_T69 l0 x14_1).f0) == 5)), (by first | rfl | (simp; done) | (simp [*]; done)), H', ⟨by have := HK1.out; have := HJ9.out; have := HJ15.out; first | omega | exact Nat.le_refl _⟩, ⟨by (with_reducible repeat (first | refine blk_drewN ?_ _ | refine blk_drew ?_ | refine blk_alloc ?_ _)); exact BK20002.out⟩, ⟨by repeat (first | (with_reducible first | exact HB.out | apply below_alloc | apply pw_below_drewN | apply below_drew1 | refine below_set ?_ GE20002.out) | exact HB.out)⟩⟩
                 ·rw [if_neg c23] at H
                  have c23b0 : (((rd_T69 l0 x14_1).f0) == 5) = false := beq_eq_false_iff_ne.mpr c23
                  have c23b1 : (((rd_T69 l0 x14_1).f0) != 5) = true := bne_iff_ne.mpr c23
                  by_cases c24 : ((rd_T69 l0 x14_1).f0) = 6
                  ·rw [if_pos c24] at H
                   have c24b0 : (((rd_T69 l0 x14_1).f0) == 6) = true := beq_iff_eq.mpr c24
                   have c24b1 : (((rd_T69 l0 x14_1).f0) != 6) = false := bne_eq_false_iff_eq.mpr c24
                   clear c24
                   have H' := Aside0.mk H
                   clear H
                   go_wp2
                   go_meet
                   case rel => exact ⟨_, ((((rd_T69 l0 x14_1).f0) == 6)), (by first | rfl | (simp; done) | (simp [*]; done)), H', ⟨by have := HK1.out; have := HJ9.out; have := HJ15.out; first | omega | exact Nat.le_refl _⟩, ⟨by (with_reducible repeat (first | refine blk_drewN ?_ _ | refine blk_drew ?_ | refine blk_alloc ?_ _)); exact BK20002.out⟩, ⟨by repeat (first | (with_reducible first | exact HB.out | apply below_alloc | apply pw_below_drewN | apply below_drew1 | refine below_set ?_ GE20002.out) | exact HB.out)⟩⟩
                  ·rw [if_neg c24] at H
                   have c24b0 : (((rd_T69 l0 x14_1).f0) == 6) = false := beq_eq_false_iff_ne.mpr c24
                   have c24b1 : (((rd_T69 l0 x14_1).f0) != 6) = true := bne_iff_ne.mpr c24
                   by_cases c25 : ((rd_T69 l0 x14_1).f0) = 7
                   ·rw [if_pos c25] at H
                    have c25b0 : (((rd_T69 l0 x14_1).f0) == 7) = true := beq_iff_eq.mpr c25
                    have c25b1 : (((rd_T69 l0 x14_1).f0) != 7) = false := bne_eq_false_iff_eq.mpr c25
                    clear c25
                    have H' := Aside0.mk H
                    clear H
                    go_wp2
                    go_meet
                    case rel => exact ⟨_, ((((rd_T69 l0 x14_1).f0) == 7)), (by first | rfl | (simp; done) | (simp [*]; done)), H', ⟨by have := HK1.out; have := HJ9.out; have := HJ15.out; first | omega | exact Nat.le_refl _⟩, ⟨by (with_reducible repeat (first | refine blk_drewN ?_ _ | refine blk_drew ?_ | refine blk_alloc ?_ _)); exact BK20002.out⟩, ⟨by repeat (first | (with_reducible first | exact HB.out | apply below_alloc | apply pw_below_drewN | apply below_drew1 | refine below_set ?_ GE20002.out) | exact HB.out)⟩⟩
                   ·rw [if_neg c25] at H
                    have c25b0 : (((rd_T69 l0 x14_1).f0) == 7) = false := beq_eq_false_iff_ne.mpr c25
                    have c25b1 : (((rd_T69 l0 x14_1).f0) != 7) = true := bne_iff_ne.mpr c25
                    by_cases c26 : ((rd_T69 l0 x14_1).f0) = 8
                    ·rw [if_pos c26] at H
                     have c26b0 : (((rd_T69 l0 x14_1).f0) == 8) = true := beq_iff_eq.mpr c26
                     have c26b1 : (((rd_T69 l0 x14_1).f0) != 8) = false := bne_eq_false_iff_eq.mpr c26
                     clear c26
                     have H' := Aside0.mk H
                     clear H
                     go_wp2
                     go_meet
                     case rel => exact ⟨_, ((((rd_T69 l0 x14_1).f0) == 8)), (by first | rfl | (simp; done) | (simp [*]; done)), H', ⟨by have := HK1.out; have := HJ9.out; have := HJ15.out; first | omega | exact Nat.le_refl _⟩, ⟨by (with_reducible repeat (first | refine blk_drewN ?_ _ | refine blk_drew ?_ | refine blk_alloc ?_ _)); exact BK20002.out⟩, ⟨by repeat (first | (with_reducible first | exact HB.out | apply below_alloc | apply pw_below_drewN | apply below_drew1 | refine below_set ?_ GE20002.out) | exact HB.out)⟩⟩
                    ·rw [if_neg c26] at H
                     have c26b0 : (((rd_T69 l0 x14_1).f0) == 8) = false := beq_eq_false_iff_ne.mpr c26
                     have c26b1 : (((rd_T69 l0 x14_1).f0) != 8) = true := bne_iff_ne.mpr c26
                     by_cases c27 : ((rd_T69 l0 x14_1).f0) = 9
                     ·rw [if_pos c27] at H
                      have c27b0 : (((rd_T69 l0 x14_1).f0) == 9) = true := beq_iff_eq.mpr c27
                      have c27b1 : (((rd_T69 l0 x14_1).f0) != 9) = false := bne_eq_false_iff_eq.mpr c27
                      clear c27
                      have H' := Aside0.mk H
                      clear H
                      go_wp2
                      go_meet
                      case rel => exact ⟨_, ((((rd_T69 l0 x14_1).f0) == 9)), (by first | rfl | (simp; done) | (simp [*]; done)), H', ⟨by have := HK1.out; have := HJ9.out; have := HJ15.out; first | omega | exact Nat.le_refl _⟩, ⟨by (with_reducible repeat (first | refine blk_drewN ?_ _ | refine blk_drew ?_ | refine blk_alloc ?_ _)); exact BK20002.out⟩, ⟨by repeat (first | (with_reducible first | exact HB.out | apply below_alloc | apply pw_below_drewN | apply below_drew1 | refine below_set ?_ GE20002.out) | exact HB.out)⟩⟩
                     ·rw [if_neg c27] at H
                      have c27b0 : (((rd_T69 l0 x14_1).f0) == 9) = false := beq_eq_false_iff_ne.mpr c27
                      have c27b1 : (((rd_T69 l0 x14_1).f0) != 9) = true := bne_iff_ne.mpr c27
                      have H' := Aside0.mk H
                      clear H
                      go_wp2
                      go_meet
                      case rel => exact ⟨_, ((((rd_T69 l0 x14_1).f0) == 10)), (by first | rfl | (simp; done) | (simp [*]; done)), H', ⟨by have := HK1.out; have := HJ9.out; have := HJ15.out; first | omega | exact Nat.le_refl _⟩, ⟨by (with_reducible repeat (first | refine blk_drewN ?_ _ | refine blk_drew ?_ | refine blk_alloc ?_ _)); exact BK20002.out⟩, ⟨by repeat (first | (with_reducible first | exact HB.out | apply below_alloc | apply pw_below_drewN | apply below_drew1 | refine below_set ?_ GE20002.out) | exact HB.out)⟩⟩
              case rest =>
               clear HC20
               try clear c1
               try clear c2
               try clear p2
               try clear q2
               try clear hx2
               try clear c3
               try clear c3b0
               try clear c3b1
               try clear c4
               try clear c4b0
               try clear c5
               try clear c5b0
               try clear c6
               try clear c6b0
               try clear p6
               try clear c7
               try clear c7b0
               try clear c7b1
               try clear c13
               try clear c13b0
               try clear c13b1
               try clear c14
               try clear c15
               try clear c15b0
               try clear c17
               try clear c17b0
               try clear c17b1
               try clear c18
               try clear c19
               try clear c19b0
               try clear c19b1
               try clear p20
               try clear q20
               try clear hx20
               try clear c21
               try clear c21b0
               try clear c21b1
               try clear c22
               try clear c22b0
               try clear c22b1
               try clear c23
               try clear c23b0
               try clear c23b1
               try clear c24
               try clear c24b0
               try clear c24b1
               try clear c25
               try clear c25b0
               try clear c25b1
               try clear c26
               try clear c26b0
               try clear c26b1
               try clear c27
               try clear c27b0
               try clear c27b1
               try clear hcz12_0
               try clear hcz12_1
               try clear hcz9_0
               try clear hcz9_1
               try clear hfz12_0
               try clear hfz12_1
               try clear hfz9_0
               try clear hfz9_1
               try clear hx20001_0
               try clear hx20001_1
               try clear p2
               try clear p20001
               try clear p6
               try clear q2
               try clear q20001
               obtain ⟨kq, x36_19, rfl, HA, HJ19, BK20002, HB⟩ := hcut
               cases kq with
               | zero => exact absurd HA.out (by simp [dict_Sound.j3])
               | succ kj19 =>
                have H := HA.out
                clear HA
                simp only [dict_Sound.j3] at H
                by_cases c28 : x36_19 = true
                ·subst c28
                 have H1 : (if ((wrap64 ((rd_T69 l0 x14_1).f1)) ≤ (l0.length : Int)) then (dict_Sound.l0 kj19 l0 a1 l0 (l0.length : Int) (wrap64 (x14_1 + 1))) else (some false)) = some r := by rw [if_pos rfl] at H; exact H
                 clear H
                 have H := H1
                 clear H1
                 by_cases c29 : ((wrap64 ((rd_T69 l0 x14_1).f1)) ≤ (l0.length : Int))
                 ·rw [if_pos c29] at H
                  have c29b0 : decide ((wrap64 ((rd_T69 l0 x14_1).f1)) ≤ (l0.length : Int)) = true := decide_eq_true c29
                  clear c29
                  have H' := Aside0.mk H
                  clear H
                  go_wp2
                  go_roundg kj19
                  case measure => have := HK1.out; have := HJ9.out; have := HJ15.out; have := HJ19.out; omega
                  case rel => exact ⟨(wrap64 (x14_1 + 1)), (by first | rfl | (simp; done) | (simp [*]; done)), H', ⟨by have := HK1.out; have := HJ9.out; have := HJ15.out; have := HJ19.out; omega⟩, ⟨by repeat (first | (with_reducible first | exact HB.out | apply below_alloc | apply pw_below_drewN | apply below_drew1 | refine below_set ?_ GE20002.out) | exact HB.out)⟩⟩
                 ·rw [if_neg c29] at H
                  have c29b0 : decide ((wrap64 ((rd_T69 l0 x14_1).f1)) ≤ (l0.length : Int)) = false := decide_eq_false c29
                  clear c29
                  obtain rfl := Option.some.inj H
                  go_wp2
                  go_ret
                  exact ⟨by first | rfl | (simp [errW_none, errW_some] <;> rfl) | (simp [*, errW_none, errW_some] <;> rfl), by repeat (first | (with_reducible first | exact HB.out | apply below_alloc | apply pw_below_drewN | apply below_drew1 | refine below_set ?_ GE20002.out) | exact HB.out)⟩
                ·replace c28 := Bool.eq_false_iff.mpr c28
                 subst c28
                 have H1 : (if false = true then (dict_Sound.l0 kj19 l0 a1 l0 (l0.length : Int) (wrap64 (x14_1 + 1))) else (some false)) = some r := by rw [if_neg (show ¬ (false = true) by decide)] at H; exact H
                 clear H
                 have H := H1
                 clear H1
                 by_cases c30 : false = true
                 ·exact absurd c30 (by decide)
                 ·skip
                  have H1 : (some false) = some r := by rw [if_neg (show ¬ (false = true) by decide)] at H; exact H
                  clear H
                  have H := H1
                  clear H1
                  obtain rfl := Option.some.inj H
                  go_wp2
                  go_ret
                  exact ⟨by first | rfl | (simp [errW_none, errW_some] <;> rfl) | (simp [*, errW_none, errW_some] <;> rfl), by repeat (first | (with_reducible first | exact HB.out | apply below_alloc | apply pw_below_drewN | apply below_drew1 | refine below_set ?_ GE20002.out) | exact HB.out)⟩
      ·rw [if_neg c6] at H
       exact absurd H (by simp)
     ·rw [if_neg c5] at H
      exact absurd H (by simp)
    ·rw [if_neg c4] at H
     have c4b0 : decide (x14_1 < (l0.length : Int)) = false := decide_eq_false c4
     clear c4
     obtain rfl := Option.some.inj H
     go_wp2
     go_ret
     exact ⟨by first | rfl | (simp [errW_none, errW_some] <;> rfl) | (simp [*, errW_none, errW_some] <;> rfl), by repeat (first | (with_reducible first | exact HB.out | apply below_alloc | apply pw_below_drewN | apply below_drew1) | exact HB.out)⟩

end Go.Proofs.Ytfpkakedlapmkaa.Q
end
section
namespace Go.Proofs.Ytfpkakedlapmkaa.Q
open Go.RowKit Go.Proofs.YtfpkakedlapmkaaW.PrintWords Go.Proofs.YtfpkakedlapmkaaW.PrintLast Go.Proofs.YtfpkakedlapmkaaW.PrintMore
set_option linter.unusedVariables false
set_option linter.unusedSimpArgs false

attribute [local go_sem] max2_int min2_int max_two min_two max_three min_three max_four min_four
/-! ### tinderref09_Sound: function 20 -/
mutual
def tinderref09_Sound.l0 : Nat → List (S69) → Int → Int → Option (Bool)
 | 0, _, _, _ => none
 | k + 1, x0, x1, x5 => if x5 < (x0.length : Int) then (if 0 ≤ x5 then (if ((rd_T69 x0 x5).f0) = 1 then (tinderref09_Sound.l0 k x0 x1 (wrap64 (x5 + 1))) else (if ((rd_T69 x0 x5).f0) = 2 then (tinderref09_Sound.j1 k x0 x1 x5 (wrap64 ((rd_T69 x0 x5).f1)) ((rd_T69 x0 x5).f0) (((rd_T69 x0 x5).f0) == 2)) else (tinderref09_Sound.j1 k x0 x1 x5 (wrap64 ((rd_T69 x0 x5).f1)) ((rd_T69 x0 x5).f0) (((rd_T69 x0 x5).f0) == 13)))) else (none)) else (some true)
def tinderref09_Sound.j1 : Nat → List (S69) → Int → Int → Int → Int → Bool → Option (Bool)
 | 0, _, _, _, _, _, _ => none
 | k + 1, x0, x1, x5, x6, x26, x29 => if x29 = true then (if x6 ≥ x1 then (some false) else (tinderref09_Sound.l0 k x0 x1 (wrap64 (x5 + 1)))) else (if x26 = 11 then (tinderref09_Sound.j2 k x0 x1 x5 x6 x26 (x26 == 11)) else (tinderref09_Sound.j2 k x0 x1 x5 x6 x26 (x26 == 12)))
def tinderref09_Sound.j2 : Nat → List (S69) → Int → Int → Int → Int → Bool → Option (Bool)
 | 0, _, _, _, _, _, _ => none
 | k + 1, x0, x1, x5, x6, x26, x35 => if x35 = true then (if x6 = 0 then (tinderref09_Sound.l0 k x0 x1 (wrap64 (x5 + 1))) else (some false)) else (if x26 = 3 then (tinderref09_Sound.j3 k x0 x1 x5 x6 (x26 == 3)) else (if x26 = 4 then (tinderref09_Sound.j3 k x0 x1 x5 x6 (x26 == 4)) else (if x26 = 5 then (tinderref09_Sound.j3 k x0 x1 x5 x6 (x26 == 5)) else (if x26 = 6 then (tinderref09_Sound.j3 k x0 x1 x5 x6 (x26 == 6)) else (if x26 = 7 then (tinderref09_Sound.j3 k x0 x1 x5 x6 (x26 == 7)) else (if x26 = 8 then (tinderref09_Sound.j3 k x0 x1 x5 x6 (x26 == 8)) else (if x26 = 9 then (tinderref09_Sound.j3 k x0 x1 x5 x6 (x26 == 9)) else (tinderref09_Sound.j3 k x0 x1 x5 x6 (x26 == 10)))))))))
def tinderref09_Sound.j3 : Nat → List (S69) → Int → Int → Int → Bool → Option (Bool)
 | 0, _, _, _, _, _ => none
 | k + 1, x0, x1, x5, x6, x40 => if x40 = true then (if x6 > (x0.length : Int) then (some false) else (tinderref09_Sound.l0 k x0 x1 (wrap64 (x5 + 1)))) else (some false)
end
def tinderref09_Sound.f (k : Nat) (l0 : List (S69)) (a1 : Int) : Option (Bool) := if (l0.length : Int) > 256 then (some false) else (tinderref09_Sound.l0 k l0 a1 0)
set_option maxHeartbeats 8000000 in
set_option maxRecDepth 100000 in
theorem tinderref09_Sound.calls (k : Nat) (A0 : Option Addr) (c0 : Nat) (l0 : List (S69)) (a1 : Int) (r : Bool) (w : World) (hr0 : Kd.C k69 w A0 l0.length l0) (hc0 : l0.length ≤ c0) (h : tinderref09_Sound.f k l0 a1 = some r) :
  Calls Try.prog 20 #[.slice A0 l0.length c0, .int .i64 a1] w fun e w' => e = .returned (.bool r) ∧ Drawn0 w w' := by
 have HR0 := Aside0.mk hr0
 have HC0 := Aside0.mk hc0
 clear hr0 hc0
 have H : (if (l0.length : Int) > 256 then (some false) else (tinderref09_Sound.l0 k l0 a1 0)) = some r := h
 clear h
 by_cases c3 : (l0.length : Int) > 256
 ·rw [if_pos c3] at H
  have c3b0 : decide (256 < (l0.length : Int)) = true := decide_eq_true c3
  have c3b1 : decide (256 < l0.length) = true := decide_eq_true (by omega)
  clear c3
  obtain rfl := Option.some.inj H
  go_enter Try.func20, Try.ntmps20
  go_wp2
  go_ret
  exact ⟨by first | rfl | (simp; done) | (simp [*]; done), by repeat (first | exact Drawn0.refl _ | apply Drawn0.step)⟩
 ·rw [if_neg c3] at H
  have c3b0 : decide (256 < (l0.length : Int)) = false := decide_eq_false c3
  have c3b1 : decide (256 < l0.length) = false := decide_eq_false (by omega)
  clear c3
  have H' := Aside0.mk H
  clear H
  go_enter Try.func20, Try.ntmps20
  go_wp2
  go_loopg [5] k (fun kq v5 w' => ∃ (x5_1 : Int), v5 = .int .i64 x5_1 ∧ Aside0 (tinderref09_Sound.l0 kq l0 a1 x5_1 = some r) ∧ Aside0 (kq ≤ k) ∧ Drawn0 w w')
  case atStart => exact ⟨(0), (by first | rfl | (simp; done) | (simp [*]; done)), H', ⟨Nat.le_refl _⟩, by repeat (first | exact Drawn0.refl _ | apply Drawn0.step)⟩
  case round =>
   clear H'
   try clear c2
   try clear p2
   try clear c3
   try clear c3b0
   try clear c3b1
   obtain ⟨x5_1, rfl, HA, HK1, ⟨m1, rfl⟩⟩ := hrel
   cases gk with
   | zero => exact absurd HA.out (by simp [tinderref09_Sound.l0])
   | succ k1 =>
    have H := HA.out
    clear HA
    simp only [tinderref09_Sound.l0] at H
    by_cases c4 : x5_1 < (l0.length : Int)
    ·rw [if_pos c4] at H
     have c4b0 : decide (x5_1 < (l0.length : Int)) = true := decide_eq_true c4
     clear c4
     by_cases c5 : 0 ≤ x5_1
     ·rw [if_pos c5] at H
      have c5b0 : decide (0 ≤ x5_1) = true := decide_eq_true c5
      clear c5
      by_cases c6 : ((rd_T69 l0 x5_1).f0) = 1
      ·rw [if_pos c6] at H
       have c6b0 : (((rd_T69 l0 x5_1).f0) == 1) = true := beq_iff_eq.mpr c6
       have c6b1 : (((rd_T69 l0 x5_1).f0) != 1) = false := bne_eq_false_iff_eq.mpr c6
       clear c6
       have H' := Aside0.mk H
       clear H
       have p21001 : 0 ≤ (x5_1 : Int) := of_decide_eq_true (by first | (with_reducible assumption) | assumption)
       have q21001 : x5_1 < (l0.length : Int) := of_decide_eq_true (by first | (with_reducible assumption) | assumption)
       obtain ⟨ad21001, e21001, hx21001_0, hx21001_1⟩ := at_T69 HR0.out x5_1 p21001 q21001
       cases e21001
       replace p21001 := eq_true p21001
       replace q21001 := eq_true q21001
       have p21002 : 0 ≤ (x5_1 : Int) := of_decide_eq_true (by first | (with_reducible assumption) | assumption)
       have q21002 : x5_1 < (l0.length : Int) := of_decide_eq_true (by first | (with_reducible assumption) | assumption)
       obtain ⟨ad21002, e21002, hx21002_0, hx21002_1⟩ := at_T69 HR0.out x5_1 p21002 q21002
       obtain rfl : ad21001 = ad21002 := (by injection e21002)
       replace p21002 := eq_true p21002
       replace q21002 := eq_true q21002
       go_wp2
       go_roundg k1
       case measure => have := HK1.out; omega
       case rel => exact ⟨(wrap64 (x5_1 + 1)), (by first | rfl | (simp; done) | (simp [*]; done)), H', ⟨by have := HK1.out; omega⟩, by repeat (first | exact Drawn0.refl _ | apply Drawn0.step)⟩
      ·rw [if_neg c6] at H
       have c6b0 : (((rd_T69 l0 x5_1).f0) == 1) = false := beq_eq_false_iff_ne.mpr c6
       have c6b1 : (((rd_T69 l0 x5_1).f0) != 1) = true := bne_iff_ne.mpr c6
       have HC7 := Aside0.mk H
       clear H
       have p21001 : 0 ≤ (x5_1 : Int) := of_decide_eq_true (by first | (with_reducible assumption) | assumption)
       have q21001 : x5_1 < (l0.length : Int) := of_decide_eq_true (by first | (with_reducible assumption) | assumption)
       obtain ⟨ad21001, e21001, hx21001_0, hx21001_1⟩ := at_T69 HR0.out x5_1 p21001 q21001
       cases e21001
       replace p21001 := eq_true p21001
       replace q21001 := eq_true q21001
       have p21002 : 0 ≤ (x5_1 : Int) := of_decide_eq_true (by first | (with_reducible assumption) | assumption)
       have q21002 : x5_1 < (l0.length : Int) := of_decide_eq_true (by first | (with_reducible assumption) | assumption)
       obtain ⟨ad21002, e21002, hx21002_0, hx21002_1⟩ := at_T69 HR0.out x5_1 p21002 q21002
       obtain rfl : ad21001 = ad21002 := (by injection e21002)
       replace p21002 := eq_true p21002
       replace q21002 := eq_true q21002
       go_upto_if 29 with (fail)
       go_cut [29] (fun v29 wc => ∃ (kq : Nat) (x29_6 : Bool), v29 = .bool x29_6 ∧ Aside0 (tinderref09_Sound.j1 kq l0 a1 x5_1 (wrap64 ((rd_T69 l0 x5_1).f1)) ((rd_T69 l0 x5_1).f0) x29_6 = some r) ∧ Aside0 (kq ≤ k1) ∧ Drawn0 w wc)
       case first =>
        have H := HC7.out
        clear HC7
        by_cases c8 : ((rd_T69 l0 x5_1).f0) = 2
        ·rw [if_pos c8] at H
         have c8b0 : (((rd_T69 l0 x5_1).f0) == 2) = true := beq_iff_eq.mpr c8
         have c8b1 : (((rd_T69 l0 x5_1).f0) != 2) = false := bne_eq_false_iff_eq.mpr c8
         clear c8
         (first | rw [c8b0] | (simp only [i64_w, i32_w]; rw [c8b0]) | skip)
         have H' := Aside0.mk H
         clear H
         go_wp2
         go_meet
         case rel => exact ⟨_, ((((rd_T69 l0 x5_1).f0) == 2)), (by first | rfl | (simp; done) | (simp [*]; done)), H', ⟨by have := HK1.out; first | omega | exact Nat.le_refl _⟩, by repeat (first | exact Drawn0.refl _ | apply Drawn0.step)⟩
        ·rw [if_neg c8] at H
         have c8b0 : (((rd_T69 l0 x5_1).f0) == 2) = false := beq_eq_false_iff_ne.mpr c8
         have c8b1 : (((rd_T69 l0 x5_1).f0) != 2) = true := bne_iff_ne.mpr c8
         (first | rw [c8b0] | (simp only [i64_w, i32_w]; rw [c8b0]) | skip)
         have H' := Aside0.mk H
         clear H
         go_wp2
         go_meet
         case rel => exact ⟨_, ((((rd_T69 l0 x5_1).f0) == 13)), (by first | rfl | (simp; done) | (simp [*]; done)), H', ⟨by have := HK1.out; first | omega | exact Nat.le_refl _⟩, by repeat (first | exact Drawn0.refl _ | apply Drawn0.step)⟩
       case rest =>
        clear HC7
        try clear c2
        try clear p2
        try clear q2
        try clear hx2
        try clear c3
        try clear c3b0
        try clear c3b1
        try clear c4
        try clear c4b0
        try clear c5
        try clear c5b0
        try clear c6
        try clear c6b0
        try clear c6b1
        try clear p6
        try clear c8
        try clear c8b0
        try clear c8b1
        try clear hx21001_0
        try clear hx21001_1
        try clear hx21002_0
        try clear hx21002_1
        try clear p2
        try clear p21001
        try clear p21002
        try clear q21001
        try clear q21002
        obtain ⟨kq, x29_6, rfl, HA, HJ6, ⟨mc6, rfl⟩⟩ := hcut
        cases kq with
        | zero => exact absurd HA.out (by simp [tinderref09_Sound.j1])
        | succ kj6 =>
         have H := HA.out
         clear HA
         simp only [tinderref09_Sound.j1] at H
         by_cases c9 : x29_6 = true
         ·subst c9
          have H1 : (if (wrap64 ((rd_T69 l0 x5_1).f1)) ≥ a1 then (some false) else (tinderref09_Sound.l0 kj6 l0 a1 (wrap64 (x5_1 + 1)))) = some r := by rw [if_pos rfl] at H; exact H
          clear H
          have H := H1
          clear H1
          by_cases c10 : (wrap64 ((rd_T69 l0 x5_1).f1)) ≥ a1
          ·rw [if_pos c10] at H
           have c10b0 : decide (a1 ≤ (wrap64 ((rd_T69 l0 x5_1).f1))) = true := decide_eq_true c10
           clear c10
           obtain rfl := Option.some.inj H
           go_wp2
           go_ret
           exact ⟨by first | rfl | (simp; done) | (simp [*]; done), by repeat (first | exact Drawn0.refl _ | apply Drawn0.step)⟩
          ·rw [if_neg c10] at H
           have c10b0 : decide (a1 ≤ (wrap64 ((rd_T69 l0 x5_1).f1))) = false := decide_eq_false c10
           clear c10
           have H' := Aside0.mk H
           clear H
           go_wp2
           go_roundg kj6
           case measure => have := HK1.out; have := HJ6.out; omega
           case rel => exact ⟨(wrap64 (x5_1 + 1)), (by first | rfl | (simp; done) | (simp [*]; done)), H', ⟨by have := HK1.out; have := HJ6.out; omega⟩, by repeat (first | exact Drawn0.refl _ | apply Drawn0.step)⟩
         ·replace c9 := Bool.eq_false_iff.mpr c9
          subst c9
          have H1 : (if ((rd_T69 l0 x5_1).f0) = 11 then (tinderref09_Sound.j2 kj6 l0 a1 x5_1 (wrap64 ((rd_T69 l0 x5_1).f1)) ((rd_T69 l0 x5_1).f0) (((rd_T69 l0 x5_1).f0) == 11)) else (tinderref09_Sound.j2 kj6 l0 a1 x5_1 (wrap64 ((rd_T69 l0 x5_1).f1)) ((rd_T69 l0 x5_1).f0) (((rd_T69 l0 x5_1).f0) == 12))) = some r := by rw [if_neg (show ¬ (false = true) by decide)] at H; exact H
          clear H
          have H := H1
          clear H1
          have HC11 := Aside0.mk H
          clear H
          go_upto_if 35 with (fail)
          go_cut [35] (fun v35 wc => ∃ (kq : Nat) (x35_10 : Bool), v35 = .bool x35_10 ∧ Aside0 (tinderref09_Sound.j2 kq l0 a1 x5_1 (wrap64 ((rd_T69 l0 x5_1).f1)) ((rd_T69 l0 x5_1).f0) x35_10 = some r) ∧ Aside0 (kq ≤ kj6) ∧ Drawn0 w wc)
          case first =>
           have H := HC11.out
           clear HC11
           by_cases c12 : ((rd_T69 l0 x5_1).f0) = 11
           ·rw [if_pos c12] at H
            have c12b0 : (((rd_T69 l0 x5_1).f0) == 11) = true := beq_iff_eq.mpr c12
            have c12b1 : (((rd_T69 l0 x5_1).f0) != 11) = false := bne_eq_false_iff_eq.mpr c12
            clear c12
            (first | rw [c12b0] | (simp only [i64_w, i32_w]; rw [c12b0]) | skip)
            have H' := Aside0.mk H
            clear H
            go_wp2
            go_meet
            case rel => exact ⟨_, ((((rd_T69 l0 x5_1).f0) == 11)), (by first | rfl | (simp; done) | (simp [*]; done)), H', ⟨by have := HK1.out; have := HJ6.out; first | omega | exact Nat.le_refl _⟩, by repeat (first | exact Drawn0.refl _ | apply Drawn0.step)⟩
           ·rw [if_neg c12] at H
            have c12b0 : (((rd_T69 l0 x5_1).f0) == 11) = false := beq_eq_false_iff_ne.mpr c12
            have c12b1 : (((rd_T69 l0 x5_1).f0) != 11) = true := bne_iff_ne.mpr c12
            (first | rw [c12b0] | (simp only [i64_w, i32_w]; rw [c12b0]) | skip)
            have H' := Aside0.mk H
            clear H
            go_wp2
            go_meet
            case rel => exact ⟨_, ((((rd_T69 l0 x5_1).f0) == 12)), (by first | rfl | (simp; done) | (simp [*]; done)), H', ⟨by have := HK1.out; have := HJ6.out; first | omega | exact Nat.le_refl _⟩, by repeat (first | exact Drawn0.refl _ | apply Drawn0.step)⟩
          case rest =>
           clear HC11
           try clear c1
           try clear c2
           try clear p2
           try clear q2
           try clear hx2
           try clear c3
           try clear c3b0
           try clear c3b1
           try clear c4
           try clear c4b0
           try clear c5
           try clear c5b0
           try clear c6
           try clear c6b0
           try clear c6b1
           try clear p6
           try clear c8
           try clear c8b0
           try clear c8b1
           try clear c9
           try clear c10
           try clear c10b0
           try clear c12
           try clear c12b0
           try clear c12b1
           try clear hx21001_0
           try clear hx21001_1
           try clear hx21002_0
           try clear hx21002_1
           try clear p2
           try clear p21001
           try clear p21002
           try clear p6
           try clear q2
           try clear q21001
           try clear q21002
           obtain ⟨kq, x35_10, rfl, HA, HJ10, ⟨mc10, rfl⟩⟩ := hcut
           cases kq with
           | zero => exact absurd HA.out (by simp [tinderref09_Sound.j2])
           | succ kj10 =>
            have H := HA.out
            clear HA
            simp only [tinderref09_Sound.j2] at H
            by_cases c13 : x35_10 = true
            ·subst c13
             have H1 : (if (wrap64 ((rd_T69 l0 x5_1).f1)) = 0 then (tinderref09_Sound.l0 kj10 l0 a1 (wrap64 (x5_1 + 1))) else (some false)) = some r := by rw [if_pos rfl] at H; exact H
             clear H
             have H := H1
             clear H1
             by_cases c14 : (wrap64 ((rd_T69 l0 x5_1).f1)) = 0
             ·rw [if_pos c14] at H
              have c14b0 : ((wrap64 ((rd_T69 l0 x5_1).f1)) == 0) = true := beq_iff_eq.mpr c14
              have c14b1 : ((wrap64 ((rd_T69 l0 x5_1).f1)) != 0) = false := bne_eq_false_iff_eq.mpr c14
              clear c14
              have H' := Aside0.mk H
              clear H
              go_wp2
              go_roundg kj10
              case measure => have := HK1.out; have := HJ6.out; have := HJ10.out; omega
              case rel => exact ⟨(wrap64 (x5_1 + 1)), (by first | rfl | (simp; done) | (simp [*]; done)), H', ⟨by have := HK1.out; have := HJ6.out; have := HJ10.out; omega⟩, by repeat (first | exact Drawn0.refl _ | apply Drawn0.step)⟩
             ·rw [if_neg c14] at H
              have c14b0 : ((wrap64 ((rd_T69 l0 x5_1).f1)) == 0) = false := beq_eq_false_iff_ne.mpr c14
              have c14b1 : ((wrap64 ((rd_T69 l0 x5_1).f1)) != 0) = true := bne_iff_ne.mpr c14
              obtain rfl := Option.some.inj H
              go_wp2
              go_ret
              exact ⟨by first | rfl | (simp; done) | (simp [*]; done), by repeat (first | exact Drawn0.refl _ | apply Drawn0.step)⟩
            ·replace c13 := Bool.eq_false_iff.mpr c13
             subst c13
             have H1 : (if ((rd_T69 l0 x5_1).f0) = 3 then (tinderref09_Sound.j3 kj10 l0 a1 x5_1 (wrap64 ((rd_T69 l0 x5_1).f1)) (((rd_T69 l0 x5_1).f0) == 3)) else (if ((rd_T69 l0 x5_1).f0) = 4 then (tinderref09_Sound.j3 kj10 l0 a1 x5_1 (wrap64 ((rd_T69 l0 x5_1).f1)) (((rd_T69 l0 x5_1).f0) == 4)) else (if ((rd_T69 l0 x5_1).f0) = 5 then (tinderref09_Sound.j3 kj10 l0 a1 x5_1 (wrap64 ((rd_T69 l0 x5_1).f1)) (((rd_T69 l0 x5_1).f0) == 5)) else (if ((rd_T69 l0 x5_1).f0) = 6 then (tinderref09_Sound.j3 kj10 l0 a1 x5_1 (wrap64 ((rd_T69 l0 x5_1).f1)) (((rd_T69 l0 x5_1).f0) == 6)) else (if ((rd_T69 l0 x5_1).f0) = 7 then (tinderref09_Sound.j3 kj10 l0 a1 x5_1 (wrap64 ((rd_T69 l0 x5_1).f1)) (((rd_T69 l0 x5_1).f0) == 7)) else (if ((rd_T69 l0 x5_1).f0) = 8 then (tinderref09_Sound.j3 kj10 l0 a1 x5_1 (wrap64 ((rd_T69 l0 x5_1).f1)) (((rd_T69 l0 x5_1).f0) == 8)) else (if ((rd_T69 l0 x5_1).f0) = 9 then (tinderref09_Sound.j3 kj10 l0 a1 x5_1 (wrap64 ((rd_T69 l0 x5_1).f1)) (((rd_T69 l0 x5_1).f0) == 9)) else (tinderref09_Sound.j3 kj10 l0 a1 x5_1 (wrap64 ((rd_T69 l0 x5_1).f1)) (((rd_T69 l0 x5_1).f0) == 10))))))))) = some r := by rw [if_neg (show ¬ (false = true) by decide)] at H; exact H
             clear H
             have H := H1
             clear H1
             have HC15 := Aside0.mk H
             clear H
             go_upto_if 40 with (fail)
             go_cut [40] (fun v40 wc => ∃ (kq : Nat) (x40_14 : Bool), v40 = .bool x40_14 ∧ Aside0 (tinderref09_Sound.j3 kq l0 a1 x5_1 (wrap64 ((rd_T69 l0 x5_1).f1)) x40_14 = some r) ∧ Aside0 (kq ≤ kj10) ∧ Drawn0 w wc)
             case first =>
              have H := HC15.out
              clear HC15
              by_cases c16 : ((rd_T69 l0 x5_1).f0) = 3
              ·rw [if_pos c16] at H
               have c16b0 : (((rd_T69 l0 x5_1).f0) == 3) = true := beq_iff_eq.mpr c16
               have c16b1 : (((rd_T69 l0 x5_1).f0) != 3) = false := bne_eq_false_iff_eq.mpr c16
               clear c16
               (first | rw [c16b0] | (simp only [i64_w, i32_w]; rw [c16b0]) | skip)
               have H' := Aside0.mk H
               clear H
               go_wp2
               go_meet
               case rel => exact ⟨_, ((((rd_T69 l0 x5_1).f0) == 3)), (by first | rfl | (simp; done) | (simp [*]; done)), H', ⟨by have := HK1.out; have := HJ6.out; have := HJ10.out; first | omega | exact Nat.le_refl _⟩, by repeat (first | exact Drawn0.refl _ | apply Drawn0.step)⟩
              ·rw [if_neg c16] at H
               have c16b0 : (((rd_T69 l0 x5_1).f0) == 3) = false := beq_eq_false_iff_ne.mpr c16
               have c16b1 : (((rd_T69 l0 x5_1).f0) != 3) = true := bne_iff_ne.mpr c16
               (first | rw [c16b0] | (simp only [i64_w, i32_w]; rw [c16b0]) | skip)
               by_cases c17 : ((rd_T69 l0 x5_1).f0) = 4
               ·rw [if_pos c17] at H
                have c17b0 : (((rd_T69 l0 x5_1).f0) == 4) = true := beq_iff_eq.mpr c17
                have c17b1 : (((rd_T69 l0 x5_1).f0) != 4) = false := bne_eq_false_iff_eq.mpr c17
                clear c17
                have H' := Aside0.mk H
                clear H
                go_wp2
                go_meet
                case rel => exact ⟨_, ((((rd_T69 l0 x5_1).f0) == 4)), (by first | rfl | (simp; done) | (simp [*]; done)), H', ⟨by have := HK1.out; have := HJ6.out; have := HJ10.out; first | omega | exact Nat.le_refl _⟩, by repeat (first | exact Drawn0.refl _ | apply Drawn0.step)⟩
               ·rw [if_neg c17] at H
                have c17b0 : (((rd_T69 l0 x5_1).f0) == 4) = false := beq_eq_false_iff_ne.mpr c17
                have c17b1 : (((rd_T69 l0 x5_1).f0) != 4) = true := bne_iff_ne.mpr c17
                by_cases c18 : ((rd_T69 l0 x5_1).f0) = 5
                ·rw [if_pos c18] at H
                 have c18b0 : (((rd_T69 l0 x5_1).f0) == 5) = true := beq_iff_eq.mpr c18
                 have c18b1 : (((rd_T69 l0 x5_1).f0) != 5) = false := bne_eq_false_iff_eq.mpr c18
                 clear c18
                 have H' := Aside0.mk H
                 clear H
                 go_wp2
                 go_meet
                 case rel => exact ⟨_, ((((rd_T69 l0 x5_1).f0) == 5)), (by first | rfl | (simp; done) | (simp [*]; done)), H', ⟨by have := HK1.out; have := HJ6.out; have := HJ10.out; first | omega | exact Nat.le_refl _⟩, by repeat (first | exact Drawn0.refl _ | apply Drawn0.step)⟩
                ·rw [if_neg c18] at H
                 have c18b0 : (((rd_T69 l0 x5_1).f0) == 5) = false := beq_eq_false_iff_ne.mpr c18
                 have c18b1 : (((rd_T69 l0 x5_1).f0) != 5) = true := bne_iff_ne.mpr c18
                 by_cases c19 : ((rd_T69 l0 x5_1).f0) = 6
                 ·rw [if_pos c19] at H
                  have c19b0 : (((rd_T69 l0 x5_1).f0) == 6) = true := beq_iff_eq.mpr c19
                  have c19b1 : (((rd_T69 l0 x5_1).f0) != 6) = false := bne_eq_false_iff_eq.mpr c19
                  clear c19
                  have H' := Aside0.mk H
                  clear H
                  go_wp2
                  go_meet
                  case rel => exact ⟨_, ((((rd_T69 l0 x5_1).f0) == 6)), (by first | rfl | (simp; done) | (simp [*]; done)), H', ⟨by have := HK1.out; have := HJ6.out; have := HJ10.out; first | omega | exact Nat.le_refl _⟩, by repeat (first | exact Drawn0.refl _ | apply Drawn0.step)⟩
                 ·rw [if_neg c19] at H
                  have c19b0 : (((rd_T69 l0 x5_1).f0) == 6) = false := beq_eq_false_iff_ne.mpr c19
                  have c19b1 : (((rd_T69 l0 x5_1).f0) != 6) = true := bne_iff_ne.mpr c19
                  by_cases c20 : ((rd_T69 l0 x5_1).f0) = 7
                  ·rw [if_pos c20] at H
                   have c20b0 : (((rd_T69 l0 x5_1).f0) == 7) = true := beq_iff_eq.mpr c20
                   have c20b1 : (((rd_T69 l0 x5_1).f0) != 7) = false := bne_eq_false_iff_eq.mpr c20
                   clear c20
                   have H' := Aside0.mk H
                   clear H
                   go_wp2
                   go_meet
                   case rel => exact ⟨_, ((((rd_T69 l0 x5_1).f0) == 7)), (by first | rfl | (simp; done) | (simp [*]; done)), H', ⟨by have := HK1.out; have := HJ6.out; have := HJ10.out; first | omega | exact Nat.le_refl _⟩, by repeat (first | exact Drawn0.refl _ | apply Drawn0.step)⟩
                  ·rw [if_neg c20] at H
                   have c20b0 : (((rd_T69 l0 x5_1).f0) == 7) = false := beq_eq_false_iff_ne.mpr c20
                   have c20b1 : (((rd_T69 l0 x5_1).f0) != 7) = true := bne_iff_ne.mpr c20
                   by_cases c21 : ((rd_T69 l0 x5_1).f0) = 8
                   ·rw [if_pos c21] at H
                    have c21b0 : (((rd_T69 l0 x5_1).f0) == 8) = true := beq_iff_eq.mpr c21
                    have c21b1 : (((rd_T69 l0 x5_1).f0) != 8) = false := bne_eq_false_iff_eq.mpr c21
                    clear c21
                    have H' := Aside0.mk H
                    clear H
                    go_wp2
                    go_meet
                    case rel => exact ⟨_, ((((rd_T69 l0 x5_1).f0) == 8)), (by first | rfl | (simp; done) | (simp [*]; done)), H', ⟨by have := HK1.out; have := HJ6.out; have := HJ10.out; first | omega | exact Nat.le_refl _⟩, by repeat (first | exact Drawn0.refl _ | apply Drawn0.step)⟩
                   ·rw [if_neg c21] at H
                    have c21b0 : (((rd_T69 l0 x5_1).f0) == 8) = false := beq_eq_false_iff_ne.mpr c21
                    have c21b1 : (((rd_T69 l0 x5_1).f0) != 8) = true := bne_iff_ne.mpr c21
                    by_cases c22 : ((rd_T69 l0 x5_1).f0) = 9
                    ·rw [if_pos c22] at H
                     have c22b0 : (((rd_T69 l0 x5_1).f0) == 9) = true := beq_iff_eq.mpr c22
                     have c22b1 : (((rd_T69 l0 x5_1).f0) != 9) = false := bne_eq_false_iff_eq.mpr c22
                     clear c22
                     have H' := Aside0.mk H
                     clear H
                     go_wp2
                     go_meet
                     case rel => exact ⟨_, ((((rd_T69 l0 x5_1).f0) == 9)), (by first | rfl | (simp; done) | (simp [*]; done)), H', ⟨by have := HK1.out; have := HJ6.out; have := HJ10.out; first | omega | exact Nat.le_refl _⟩, by repeat (first | exact Drawn0.refl _ | apply Drawn0.step)⟩
                    ·rw [if_neg c22] at H
                     have c22b0 : (((rd_T69 l0 x5_1).f0) == 9) = false := beq_eq_false_iff_ne.mpr c22
                     have c22b1 : (((rd_T69 l0 x5_1).f0) != 9) = true := bne_iff_ne.mpr c22
                     have H' := Aside0.mk H
                     clear H
                     go_wp2
                     go_meet
                     case rel => exact ⟨_, ((((rd_T69 l0 x5_1).f0) == 10)), (by first | rfl | (simp; done) | (simp [*]; done)), H', ⟨by have := HK1.out; have := HJ6.out; have := HJ10.out; first | omega | exact Nat.le_refl _⟩, by repeat (first | exact Drawn0.refl _ | apply Drawn0.step)⟩
             case rest =>
              clear HC15
              try clear c1
              try clear c2
              try clear p2
              try clear q2
              try clear hx2
              try clear c3
              try clear c3b0
              try clear c3b1
              try clear c4
              try clear c4b0
              try clear c5
              try clear c5b0
              try clear c6
              try clear c6b0
              try clear c6b1
              try clear p6
              try clear c8
              try clear c8b0
              try clear c8b1
              try clear c9
              try clear c10
              try clear c10b0
              try clear c12
              try clear c12b0
              try clear c12b1
              try clear c13
              try clear c14
              try clear c14b0
              try clear c14b1
              try clear c16
              try clear c16b0
              try clear c16b1
              try clear c17
              try clear c17b0
              try clear c17b1
              try clear c18
              try clear c18b0
              try clear c18b1
              try clear c19
              try clear c19b0
              try clear c19b1
              try clear c20
              try clear c20b0
              try clear c20b1
              try clear c21
              try clear c21b0
              try clear c21b1
              try clear p21
              try clear q21
              try clear hx21
              try clear c22
              try clear c22b0
              try clear c22b1
              try clear hx21001_0
              try clear hx21001_1
              try clear hx21002_0
              try clear hx21002_1
              try clear p2
              try clear p21001
              try clear p21002
              try clear p6
              try clear q2
              try clear q21001
              try clear q21002
              obtain ⟨kq, x40_14, rfl, HA, HJ14, ⟨mc14, rfl⟩⟩ := hcut
              cases kq with
              | zero => exact absurd HA.out (by simp [tinderref09_Sound.j3])
              | succ kj14 =>
               have H := HA.out
               clear HA
               simp only [tinderref09_Sound.j3] at H
               by_cases c23 : x40_14 = true
               ·subst c23
                have H1 : (if (wrap64 ((rd_T69 l0 x5_1).f1)) > (l0.length : Int) then (some false) else (tinderref09_Sound.l0 kj14 l0 a1 (wrap64 (x5_1 + 1)))) = some r := by rw [if_pos rfl] at H; exact H
                clear H
                have H := H1
                clear H1
                by_cases c24 : (wrap64 ((rd_T69 l0 x5_1).f1)) > (l0.length : Int)
                ·rw [if_pos c24] at H
                 have c24b0 : decide ((l0.length : Int) < (wrap64 ((rd_T69 l0 x5_1).f1))) = true := decide_eq_true c24
                 clear c24
                 obtain rfl := Option.some.inj H
                 go_wp2
                 go_ret
                 exact ⟨by first | rfl | (simp; done) | (simp [*]; done), by repeat (first | exact Drawn0.refl _ | apply Drawn0.step)⟩
                ·rw [if_neg c24] at H
                 have c24b0 : decide ((l0.length : Int) < (wrap64 ((rd_T69 l0 x5_1).f1))) = false := decide_eq_false c24
                 clear c24
                 have H' := Aside0.mk H
                 clear H
                 go_wp2
                 go_roundg kj14
                 case measure => have := HK1.out; have := HJ6.out; have := HJ10.out; have := HJ14.out; omega
                 case rel => exact ⟨(wrap64 (x5_1 + 1)), (by first | rfl | (simp; done) | (simp [*]; done)), H', ⟨by have := HK1.out; have := HJ6.out; have := HJ10.out; have := HJ14.out; omega⟩, by repeat (first | exact Drawn0.refl _ | apply Drawn0.step)⟩
               ·replace c23 := Bool.eq_false_iff.mpr c23
                subst c23
                have H1 : (some false) = some r := by rw [if_neg (show ¬ (false = true) by decide)] at H; exact H
                clear H
                have H := H1
                clear H1
                obtain rfl := Option.some.inj H
                go_wp2
                go_ret
                exact ⟨by first | rfl | (simp; done) | (simp [*]; done), by repeat (first | exact Drawn0.refl _ | apply Drawn0.step)⟩
     ·rw [if_neg c5] at H
      exact absurd H (by simp)
    ·rw [if_neg c4] at H
     have c4b0 : decide (x5_1 < (l0.length : Int)) = false := decide_eq_false c4
     clear c4
     obtain rfl := Option.some.inj H
     go_wp2
     go_ret
     exact ⟨by first | rfl | (simp; done) | (simp [*]; done), by repeat (first | exact Drawn0.refl _ | apply Drawn0.step)⟩

end Go.Proofs.Ytfpkakedlapmkaa.Q
end
section
namespace Go.Proofs.Ytfpkakedlapmkaa.Q
open Go.RowKit Go.Proofs.YtfpkakedlapmkaaW.PrintWords Go.Proofs.YtfpkakedlapmkaaW.PrintLast Go.Proofs.YtfpkakedlapmkaaW.PrintMore
set_option linter.unusedVariables false
set_option linter.unusedSimpArgs false

attribute [local go_sem] max2_int min2_int max_two min_two max_three min_three max_four min_four
/-! ### tinderref09_Named: function 21 -/
def tinderref09_Named.l0 : Nat → ByteArray → Int → Option (Bool)
 | 0, _, _ => none
 | k + 1, x0, x3 => if x3 < (x0.size : Int) then (if 0 ≤ x3 then (if (bt x0 x3) < 33 then (some false) else (if (bt x0 x3) > 126 then (some false) else (if (bt x0 x3) ≥ 65 then (if (bt x0 x3) ≤ 90 then (some false) else (tinderref09_Named.l0 k x0 (wrap64 (x3 + 1)))) else (tinderref09_Named.l0 k x0 (wrap64 (x3 + 1)))))) else (none)) else (if (x0.size : Int) ≥ 1 then (some (decide ((x0.size : Int) ≤ 31))) else (some false))
def tinderref09_Named.f (k : Nat) (a0 : ByteArray) : Option (Bool) := tinderref09_Named.l0 k a0 0
set_option maxHeartbeats 8000000 in
set_option maxRecDepth 100000 in
theorem tinderref09_Named.calls (k : Nat) (a0 : ByteArray) (r : Bool) (w : World) (h : tinderref09_Named.f k a0 = some r) :
  Calls Try.prog 21 #[.string a0] w fun e w' => e = .returned (.bool r) ∧ Drawn0 w w' := by
 have H : (tinderref09_Named.l0 k a0 0) = some r := h
 clear h
 have H' := Aside0.mk H
 clear H
 go_enter Try.func21, Try.ntmps21
 go_wp2
 go_loopg [3] k (fun kq v3 w' => ∃ (x3_1 : Int), v3 = .int .i64 x3_1 ∧ Aside0 (tinderref09_Named.l0 kq a0 x3_1 = some r) ∧ Aside0 (kq ≤ k) ∧ Drawn0 w w')
 case atStart => exact ⟨(0), (by first | rfl | (simp; done) | (simp [*]; done)), H', ⟨Nat.le_refl _⟩, by repeat (first | exact Drawn0.refl _ | apply Drawn0.step)⟩
 case round =>
  clear H'
  obtain ⟨x3_1, rfl, HA, HK1, ⟨m1, rfl⟩⟩ := hrel
  cases gk with
  | zero => exact absurd HA.out (by simp [tinderref09_Named.l0])
  | succ k1 =>
   have H := HA.out
   clear HA
   simp only [tinderref09_Named.l0] at H
   by_cases c2 : x3_1 < (a0.size : Int)
   ·rw [if_pos c2] at H
    have c2b0 : decide (x3_1 < (a0.size : Int)) = true := decide_eq_true c2
    clear c2
    by_cases c3 : 0 ≤ x3_1
    ·rw [if_pos c3] at H
     have c3b0 : decide (0 ≤ x3_1) = true := decide_eq_true c3
     clear c3
     by_cases c5 : (bt a0 x3_1) < 33
     ·rw [if_pos c5] at H
      have c5b0 : decide ((bt a0 x3_1) < 33) = true := decide_eq_true c5
      clear c5
      obtain rfl := Option.some.inj H
      have p4 : 0 ≤ (x3_1 : Int) := of_decide_eq_true (by first | (with_reducible assumption) | assumption)
      have q4 : x3_1 < (a0.size : Int) := of_decide_eq_true (by first | (with_reducible assumption) | assumption)
      have hx4 := bt_at a0 x3_1
      replace p4 := eq_true p4
      replace q4 := eq_true q4
      go_wp2
      go_ret
      exact ⟨by first | rfl | (simp; done) | (simp [*]; done), by repeat (first | exact Drawn0.refl _ | apply Drawn0.step)⟩
     ·rw [if_neg c5] at H
      have c5b0 : decide ((bt a0 x3_1) < 33) = false := decide_eq_false c5
      clear c5
      by_cases c7 : (bt a0 x3_1) > 126
      ·rw [if_pos c7] at H
       have c7b0 : decide (126 < (bt a0 x3_1)) = true := decide_eq_true c7
       clear c7
       obtain rfl := Option.some.inj H
       have p4 : 0 ≤ (x3_1 : Int) := of_decide_eq_true (by first | (with_reducible assumption) | assumption)
       have q4 : x3_1 < (a0.size : Int) := of_decide_eq_true (by first | (with_reducible assumption) | assumption)
       have hx4 := bt_at a0 x3_1
       replace p4 := eq_true p4
       replace q4 := eq_true q4
       have p6 : 0 ≤ (x3_1 : Int) := of_decide_eq_true (by first | (with_reducible assumption) | assumption)
       have q6 : x3_1 < (a0.size : Int) := of_decide_eq_true (by first | (with_reducible assumption) | assumption)
       have hx6 := bt_at a0 x3_1
       replace p6 := eq_true p6
       replace q6 := eq_true q6
       go_wp2
       go_ret
       exact ⟨by first | rfl | (simp; done) | (simp [*]; done), by repeat (first | exact Drawn0.refl _ | apply Drawn0.step)⟩
      ·rw [if_neg c7] at H
       have c7b0 : decide (126 < (bt a0 x3_1)) = false := decide_eq_false c7
       clear c7
       by_cases c9 : (bt a0 x3_1) ≥ 65
       ·rw [if_pos c9] at H
        have c9b0 : decide (65 ≤ (bt a0 x3_1)) = true := decide_eq_true c9
        clear c9
        by_cases c11 : (bt a0 x3_1) ≤ 90
        ·rw [if_pos c11] at H
         have c11b0 : decide ((bt a0 x3_1) ≤ 90) = true := decide_eq_true c11
         clear c11
         obtain rfl := Option.some.inj H
         have p4 : 0 ≤ (x3_1 : Int) := of_decide_eq_true (by first | (with_reducible assumption) | assumption)
         have q4 : x3_1 < (a0.size : Int) := of_decide_eq_true (by first | (with_reducible assumption) | assumption)
         have hx4 := bt_at a0 x3_1
         replace p4 := eq_true p4
         replace q4 := eq_true q4
         have p6 : 0 ≤ (x3_1 : Int) := of_decide_eq_true (by first | (with_reducible assumption) | assumption)
         have q6 : x3_1 < (a0.size : Int) := of_decide_eq_true (by first | (with_reducible assumption) | assumption)
         have hx6 := bt_at a0 x3_1
         replace p6 := eq_true p6
         replace q6 := eq_true q6
         have p8 : 0 ≤ (x3_1 : Int) := of_decide_eq_true (by first | (with_reducible assumption) | assumption)
         have q8 : x3_1 < (a0.size : Int) := of_decide_eq_true (by first | (with_reducible assumption) | assumption)
         have hx8 := bt_at a0 x3_1
         replace p8 := eq_true p8
         replace q8 := eq_true q8
         have p10 : 0 ≤ (x3_1 : Int) := of_decide_eq_true (by first | (with_reducible assumption) | assumption)
         have q10 : x3_1 < (a0.size : Int) := of_decide_eq_true (by first | (with_reducible assumption) | assumption)
         have hx10 := bt_at a0 x3_1
         replace p10 := eq_true p10
         replace q10 := eq_true q10
         go_wp2
         go_ret
         exact ⟨by first | rfl | (simp; done) | (simp [*]; done), by repeat (first | exact Drawn0.refl _ | apply Drawn0.step)⟩
        ·rw [if_neg c11] at H
         have c11b0 : decide ((bt a0 x3_1) ≤ 90) = false := decide_eq_false c11
         clear c11
         have H' := Aside0.mk H
         clear H
         have p4 : 0 ≤ (x3_1 : Int) := of_decide_eq_true (by first | (with_reducible assumption) | assumption)
         have q4 : x3_1 < (a0.size : Int) := of_decide_eq_true (by first | (with_reducible assumption) | assumption)
         have hx4 := bt_at a0 x3_1
         replace p4 := eq_true p4
         replace q4 := eq_true q4
         have p6 : 0 ≤ (x3_1 : Int) := of_decide_eq_true (by first | (with_reducible assumption) | assumption)
         have q6 : x3_1 < (a0.size : Int) := of_decide_eq_true (by first | (with_reducible assumption) | assumption)
         have hx6 := bt_at a0 x3_1
         replace p6 := eq_true p6
         replace q6 := eq_true q6
         have p8 : 0 ≤ (x3_1 : Int) := of_decide_eq_true (by first | (with_reducible assumption) | assumption)
         have q8 : x3_1 < (a0.size : Int) := of_decide_eq_true (by first | (with_reducible assumption) | assumption)
         have hx8 := bt_at a0 x3_1
         replace p8 := eq_true p8
         replace q8 := eq_true q8
         have p10 : 0 ≤ (x3_1 : Int) := of_decide_eq_true (by first | (with_reducible assumption) | assumption)
         have q10 : x3_1 < (a0.size : Int) := of_decide_eq_true (by first | (with_reducible assumption) | assumption)
         have hx10 := bt_at a0 x3_1
         replace p10 := eq_true p10
         replace q10 := eq_true q10
         go_wp2
         go_roundg k1
         case measure => have := HK1.out; omega
         case rel => exact ⟨(wrap64 (x3_1 + 1)), (by first | rfl | (simp; done) | (simp [*]; done)), H', ⟨by have := HK1.out; omega⟩, by repeat (first | exact Drawn0.refl _ | apply Drawn0.step)⟩
       ·rw [if_neg c9] at H
        have c9b0 : decide (65 ≤ (bt a0 x3_1)) = false := decide_eq_false c9
        clear c9
        have H' := Aside0.mk H
        clear H
        have p4 : 0 ≤ (x3_1 : Int) := of_decide_eq_true (by first | (with_reducible assumption) | assumption)
        have q4 : x3_1 < (a0.size : Int) := of_decide_eq_true (by first | (with_reducible assumption) | assumption)
        have hx4 := bt_at a0 x3_1
        replace p4 := eq_true p4
        replace q4 := eq_true q4
        have p6 : 0 ≤ (x3_1 : Int) := of_decide_eq_true (by first | (with_reducible assumption) | assumption)
        have q6 : x3_1 < (a0.size : Int) := of_decide_eq_true (by first | (with_reducible assumption) | assumption)
        have hx6 := bt_at a0 x3_1
        replace p6 := eq_true p6
        replace q6 := eq_true q6
        have p8 : 0 ≤ (x3_1 : Int) := of_decide_eq_true (by first | (with_reducible assumption) | assumption)
        have q8 : x3_1 < (a0.size : Int) := of_decide_eq_true (by first | (with_reducible assumption) | assumption)
        have hx8 := bt_at a0 x3_1
        replace p8 := eq_true p8
        replace q8 := eq_true q8
        go_wp2
        go_roundg k1
        case measure => have := HK1.out; omega
        case rel => exact ⟨(wrap64 (x3_1 + 1)), (by first | rfl | (simp; done) | (simp [*]; done)), H', ⟨by have := HK1.out; omega⟩, by repeat (first | exact Drawn0.refl _ | apply Drawn0.step)⟩
    ·rw [if_neg c3] at H
     exact absurd H (by simp)
   ·rw [if_neg c2] at H
    have c2b0 : decide (x3_1 < (a0.size : Int)) = false := decide_eq_false c2
    clear c2
    by_cases c12 : (a0.size : Int) ≥ 1
    ·rw [if_pos c12] at H
     have c12b0 : decide (1 ≤ (a0.size : Int)) = true := decide_eq_true c12
     have c12b1 : decide (1 ≤ a0.size) = true := decide_eq_true (by omega)
     clear c12
     obtain rfl := Option.some.inj H
     go_wp2
     go_ret
     exact ⟨by first | rfl | (simp; done) | (simp [*]; done), by repeat (first | exact Drawn0.refl _ | apply Drawn0.step)⟩
    ·rw [if_neg c12] at H
     have c12b0 : decide (1 ≤ (a0.size : Int)) = false := decide_eq_false c12
     have c12b1 : decide (1 ≤ a0.size) = false := decide_eq_false (by omega)
     clear c12
     obtain rfl := Option.some.inj H
     go_wp2
     go_ret
     exact ⟨by first | rfl | (simp; done) | (simp [*]; done), by repeat (first | exact Drawn0.refl _ | apply Drawn0.step)⟩

end Go.Proofs.Ytfpkakedlapmkaa.Q
end
section
set_option linter.unusedSimpArgs false
set_option linter.unusedVariables false
namespace Go.Proofs.Ytfpkakedlapmkaa.Q
open Go.RowKit Go.Proofs.YtfpkakedlapmkaaW.PrintWords Go.Proofs.YtfpkakedlapmkaaW.PrintLast
def oddR (c : Int) : Bool := decide (c ≤ 32) || decide (126 < c) || (decide (65 ≤ c) && decide (c ≤ 90))
set_option maxHeartbeats 1000000 in
set_option maxRecDepth 100000 in
theorem oddC_calls (c : Int) (w : World) : Calls Try.prog 41 #[.int .i32 c] w fun e w' => e = .returned (.bool (oddR c)) ∧ w' = w := by
 unfold oddR
 by_cases h1 : c ≤ 32
 ·have d1 : decide (c ≤ 32) = true := decide_eq_true h1
  rw [d1]
  clear h1
  go_enter Try.func41, Try.ntmps41
  go_wp2
  go_ret
  exact ⟨by simp, rfl⟩
 ·have d1 : decide (c ≤ 32) = false := decide_eq_false h1
  rw [d1]
  clear h1
  by_cases h2 : 126 < c
  ·have d2 : decide (126 < c) = true := decide_eq_true h2
   rw [d2]
   clear h2
   go_enter Try.func41, Try.ntmps41
   go_wp2
   go_ret
   exact ⟨by simp, rfl⟩
  ·have d2 : decide (126 < c) = false := decide_eq_false h2
   rw [d2]
   clear h2
   by_cases h3 : 65 ≤ c
   ·have d3 : decide (65 ≤ c) = true := decide_eq_true h3
    rw [d3]
    clear h3
    go_enter Try.func41, Try.ntmps41
    go_wp2
    go_ret
    exact ⟨by simp, rfl⟩
   ·have d3 : decide (65 ≤ c) = false := decide_eq_false h3
    rw [d3]
    clear h3
    go_enter Try.func41, Try.ntmps41
    go_wp2
    go_ret
    exact ⟨by simp, rfl⟩
def okB (b : UInt8) : Bool := !oddR (b.toNat : Int)
def okS (s : ByteArray) : Prop := ∀ (i : Nat) (h : i < s.size), okB (s[i]'h) = true
theorem odd_high (c : Int) (h : 128 ≤ c) : oddR c = true := by
 unfold oddR
 rw [decide_eq_true (show 126 < c by omega)]
 simp
set_option maxHeartbeats 2000000 in
set_option maxRecDepth 100000 in
theorem indexFunc_calls (s : ByteArray) (w : World) :
  Calls Try.prog 71 #[.string s, .func (.func 41) #[] #[], .bool true] w fun e w' => ∃ r : Int, e = .returned (.int .i64 r) ∧ (r < 0 ↔ okS s) ∧ Below w.heap.size w w' := by
 have hu9 := Try.underlying9
 have hB : ∀ p, Below w.heap.size w (w.iter s p) := fun p => below_alloc (Below.refl _ _) _
 have HB := Aside0.mk hB
 clear hB
 go_enter Try.func71, Try.ntmps71
 go_wp2
 go_loopw [11] (fun _ wr => ∃ i : Nat, i ≤ s.size ∧ wr = w.iter s i ∧ Aside0 (∀ (j : Nat) (h : j < s.size), j < i → okB (s[j]'h) = true)) (fun _ wr => s.size - wr.iterPos w.heap.size)
 case atStart => exact ⟨0, by omega, rfl, ⟨fun j h hj => absurd hj (by omega)⟩⟩
 case round =>
  obtain ⟨i, hi, rfl, HO⟩ := hrel
  by_cases hlt : i < s.size
  ·obtain ⟨c, n, hnx, hod, hn⟩ : ∃ (c : Int) (n : Nat), (∀ ty, (Instr.next (.pointer (some ⟨w.heap.size, 0, none⟩)) true ty).run Try.prog (w.iter s i) = .ok (.tuple #[.bool true, .int .i64 i, .int .i32 c]) (w.iter s (i + n))) ∧ oddR c = !okB (s[i]'hlt) ∧ (oddR c = false → n = 1) := by
    by_cases ha : (s[i]'hlt).toNat < 128
    ·exact ⟨((s[i]'hlt).toNat : Int), 1, fun ty => run_next_ascii (P := Try.prog) w s i ty hlt ha, by unfold okB; simp, fun _ => rfl⟩
    ·have hd := (decode_high s i hlt (by omega)).1
     refine ⟨((Utf8.decode s i).1 : Int), (Utf8.decode s i).2, fun ty => run_next_any (P := Try.prog) w s i ty hlt, ?_, fun h => ?_⟩
     ·unfold okB
      rw [odd_high _ (by omega), odd_high _ (by omega)]
      rfl
     ·rw [odd_high _ (by omega)] at h
      cases h
   have HC := Aside0.mk (fun X : World => oddC_calls c X)
   have HH := Aside0.mk hlt
   cases hd : oddR c with
   | true =>
    rw [hd] at HC hod
    have hbad : okB (s[i]'hlt) = false := by simpa using hod
    have HX := Aside0.mk (show ((i : Int) < 0 ↔ okS s) from ⟨fun h => absurd h (by omega), fun h => by have := h i hlt; rw [hbad] at this; cases this⟩)
    clear hd hod hn hi hlt hbad
    go_wp2_with (go_at_call 41; (with_reducible refine (HC.out _).mono ?_); rintro e w7 ⟨rfl, rfl⟩)
    go_ret
    exact ⟨i, rfl, HX.out, HB.out _⟩
   | false =>
    obtain rfl := hn hd
    rw [hd] at HC hod
    have hgood : okB (s[i]'hlt) = true := by simpa using hod
    have HX := Aside0.mk hgood
    clear hd hod hn hi hgood
    go_wp2_with (go_at_call 41; (with_reducible refine (HC.out _).mono ?_); rintro e w7 ⟨rfl, rfl⟩)
    go_roundw
    case rel =>
     refine ⟨i + 1, HH.out, rfl, ⟨fun j h hj => ?_⟩⟩
     rcases Nat.lt_or_eq_of_le (Nat.le_of_lt_succ hj) with h2 | h2
     ·exact HO.out j h h2
     ·subst h2; exact HX.out
    case measure =>
     have := HH.out
     simp
     omega
  ·have hnx := fun ty => run_next_end (P := Try.prog) w s i ty hlt
   go_wp2
   go_ret
   exact ⟨-1, rfl, ⟨fun _ j h => HO.out j h (by omega), fun _ => by decide⟩, HB.out _⟩
instance okS_dec (s : ByteArray) : Decidable (okS s) := by unfold okS; infer_instance
def dNamed (s : ByteArray) : Bool := !s.toList.isEmpty && (decide ((s.size : Int) ≤ 31) && decide (okS s))
set_option maxHeartbeats 2000000 in
set_option maxRecDepth 100000 in
theorem named_calls (s : ByteArray) (w : World) : Calls Try.prog 18 #[.string s] w fun e w' => e = .returned (.bool (dNamed s)) ∧ Below w.heap.size w w' := by
 have HI := Aside0.mk (indexFunc_calls s)
 have HB := Aside0.mk (Below.refl w.heap.size w)
 unfold dNamed
 by_cases d1 : s.toList.isEmpty = true
 ·rw [d1]
  go_enter Try.func18, Try.ntmps18
  go_wp2
  go_ret
  exact ⟨by simp, HB.out⟩
 ·replace d1 : s.toList.isEmpty = false := by simpa using d1
  rw [d1]
  by_cases h2 : (s.size : Int) ≤ 31
  ·have d2 : decide ((s.size : Int) ≤ 31) = true := decide_eq_true h2
   rw [d2]
   clear h2
   have HS := Aside0.mk (show ∀ X : World, Calls Try.prog 42 #[.string s, .func (.func 41) #[] #[]] X fun e w' => ∃ r : Int, e = .returned (.int .i64 r) ∧ (r < 0 ↔ okS s) ∧ Below X.heap.size X w' from fun X => by
    have HI2 := Aside0.mk (HI.out X)
    clear HI HB d1 d2
    go_enter Try.func42, Try.ntmps42
    go_wp2_with (go_at_call 71; (with_reducible refine HI2.out.mono ?_); rintro e w7 ⟨r, rfl, hr, hb⟩; have HR := Aside0.mk hr; have HB := Aside0.mk hb; clear hr hb)
    go_ret
    exact ⟨r, rfl, HR.out, HB.out⟩)
   go_enter Try.func18, Try.ntmps18
   go_wp2_with (go_at_call 42; (with_reducible refine (HS.out _).mono ?_); rintro e w7 ⟨r, rfl, hr, hb⟩; have HR := Aside0.mk hr; have HB := Aside0.mk hb; clear hr hb)
   go_ret
   refine ⟨?_, HB.out⟩
   have : decide (r < 0) = decide (okS s) := decide_eq_decide.2 HR.out
   simp [this]
  ·have d2 : decide ((s.size : Int) ≤ 31) = false := decide_eq_false h2
   rw [d2]
   clear h2
   go_enter Try.func18, Try.ntmps18
   go_wp2
   go_ret
   exact ⟨by simp, HB.out⟩
def dict_Named.f (a0 : ByteArray) : Option Bool := some (dNamed a0)
theorem dict_Named.calls (a0 : ByteArray) (r : Bool) (w : World) (h : dict_Named.f a0 = some r) : Calls Try.prog 18 #[.string a0] w fun e w' => e = .returned (.bool r) ∧ Below w.heap.size w w' := by
 obtain rfl := Option.some.inj h
 exact named_calls a0 w
end Go.Proofs.Ytfpkakedlapmkaa.Q
end
section
set_option linter.unusedSimpArgs false
set_option linter.unusedVariables false
namespace Go.Proofs.Ytfpkakedlapmkaa.Q
open Go.RowKit Go.Proofs.YtfpkakedlapmkaaW.PrintWords Go.Proofs.YtfpkakedlapmkaaW.PrintLast
/-- Is an instruction sound, among so many and so many words? -/
def opB (len words : Int) (x : S69) : Bool :=
 if x.f0 = 1 then true else if x.f0 = 2 ∨ x.f0 = 13 then decide (wrap64 x.f1 < words) else if x.f0 = 11 ∨ x.f0 = 12 then decide (wrap64 x.f1 = 0)
 else if x.f0 = 3 ∨ x.f0 = 4 ∨ x.f0 = 5 ∨ x.f0 = 6 ∨ x.f0 = 7 ∨ x.f0 = 8 ∨ x.f0 = 9 ∨ x.f0 = 10 then decide (wrap64 x.f1 ≤ len) else false
def soundF (l : List S69) (words : Int) : Bool := !decide (256 < (l.length : Int)) && l.all (opB l.length words)
theorem all_at {α : Type} (P : α → Bool) (z : α) (l : List α) (i : Int) (h0 : 0 ≤ i) (h1 : i < l.length) : (l.drop i.toNat).all P = (P (l.getD i.toNat z) && (l.drop (i + 1).toNat).all P) := by
 rw [List.drop_eq_getElem_cons (show i.toNat < l.length by omega), show (i + 1).toNat = i.toNat + 1 by omega, List.all_cons]
 simp [List.getD_eq_getElem?_getD, List.getElem?_eq_getElem (show i.toNat < l.length by omega)]
theorem ite_some_and (p : Prop) [Decidable p] (R : Bool) : (if p then some R else some false) = some (decide p && R) := by
 by_cases h : p
 ·rw [if_pos h, decide_eq_true h]; rfl
 ·rw [if_neg h, decide_eq_false h]; rfl
theorem ite_some_nand (p q : Prop) [Decidable p] [Decidable q] (R : Bool) (hpq : p ↔ ¬ q) : (if p then some false else some R) = some (decide q && R) := by
 by_cases h : p
 ·rw [if_pos h, decide_eq_false (hpq.1 h)]; rfl
 ·rw [if_neg h, decide_eq_true (Decidable.not_not.1 fun hq => h (hpq.2 hq))]; rfl
theorem dsound_go (l : List S69) (words : Int) (hl : l.length ≤ 256) : ∀ (d k : Nat) (i : Int), 0 ≤ i → i + d = l.length → 4 * d + 4 ≤ k → dict_Sound.l0 k l words l (l.length : Int) i = some ((l.drop i.toNat).all (opB l.length words))
 | 0, k, i, h0, h1, hk => by
  obtain ⟨k, rfl⟩ : ∃ m, k = m + 1 := ⟨k - 1, by omega⟩
  rw [dict_Sound.l0, if_neg (by omega), List.drop_eq_nil_of_le (by omega)]
  rfl
 | d + 1, k, i, h0, h1, hk => by
  obtain ⟨k, rfl⟩ : ∃ m, k = m + 4 := ⟨k - 4, by omega⟩
  have hw : wrap64 (i + 1) = i + 1 := by unfold wrap64; omega
  have ih := fun (k' : Nat) (h : 4 * d + 4 ≤ k') => dsound_go l words hl d k' (i + 1) (by omega) (by omega) h
  rw [all_at (opB l.length words) z69 l i h0 (by omega)]
  generalize hR : (l.drop (i + 1).toNat).all (opB l.length words) = R at ih ⊢
  rw [show l.getD i.toNat z69 = rd_T69 l i from rfl]
  generalize hx : rd_T69 l i = x
  rw [dict_Sound.l0, if_pos (by omega), if_pos h0, if_pos (by omega), hw, hx]
  unfold opB
  by_cases e1 : x.f0 = 1
  ·rw [if_pos e1, if_pos e1, ih _ (by omega)]; rfl
  rw [if_neg e1, if_neg e1]
  by_cases e2 : x.f0 = 2
  ·rw [if_pos e2, if_pos (.inl e2), beq_iff_eq.2 e2, dict_Sound.j1, if_pos rfl, hw, ih _ (by omega), ite_some_and]
  rw [if_neg e2]
  by_cases e3 : x.f0 = 13
  ·rw [if_pos (.inr e3), beq_iff_eq.2 e3, dict_Sound.j1, if_pos rfl, hw, ih _ (by omega), ite_some_and]
  rw [if_neg (by omega), beq_eq_false_iff_ne.2 e3, dict_Sound.j1, if_neg (by simp)]
  by_cases e4 : x.f0 = 11
  ·rw [if_pos e4, if_pos (.inl e4), beq_iff_eq.2 e4, dict_Sound.j2, if_pos rfl, hw, ih _ (by omega), ite_some_and]
  rw [if_neg e4]
  by_cases e5 : x.f0 = 12
  ·rw [if_pos (.inr e5), beq_iff_eq.2 e5, dict_Sound.j2, if_pos rfl, hw, ih _ (by omega), ite_some_and]
  rw [if_neg (by omega), beq_eq_false_iff_ne.2 e5, dict_Sound.j2, if_neg (by simp)]
  by_cases f3 : x.f0 = 3
  ·rw [if_pos f3, if_pos (by omega), beq_iff_eq.2 f3, dict_Sound.j3, if_pos rfl, hw, ih _ (by omega), ite_some_and]
  rw [if_neg f3]
  by_cases f4 : x.f0 = 4
  ·rw [if_pos f4, if_pos (by omega), beq_iff_eq.2 f4, dict_Sound.j3, if_pos rfl, hw, ih _ (by omega), ite_some_and]
  rw [if_neg f4]
  by_cases f5 : x.f0 = 5
  ·rw [if_pos f5, if_pos (by omega), beq_iff_eq.2 f5, dict_Sound.j3, if_pos rfl, hw, ih _ (by omega), ite_some_and]
  rw [if_neg f5]
  by_cases f6 : x.f0 = 6
  ·rw [if_pos f6, if_pos (by omega), beq_iff_eq.2 f6, dict_Sound.j3, if_pos rfl, hw, ih _ (by omega), ite_some_and]
  rw [if_neg f6]
  by_cases f7 : x.f0 = 7
  ·rw [if_pos f7, if_pos (by omega), beq_iff_eq.2 f7, dict_Sound.j3, if_pos rfl, hw, ih _ (by omega), ite_some_and]
  rw [if_neg f7]
  by_cases f8 : x.f0 = 8
  ·rw [if_pos f8, if_pos (by omega), beq_iff_eq.2 f8, dict_Sound.j3, if_pos rfl, hw, ih _ (by omega), ite_some_and]
  rw [if_neg f8]
  by_cases f9 : x.f0 = 9
  ·rw [if_pos f9, if_pos (by omega), beq_iff_eq.2 f9, dict_Sound.j3, if_pos rfl, hw, ih _ (by omega), ite_some_and]
  rw [if_neg f9]
  by_cases f10 : x.f0 = 10
  ·rw [if_pos (by omega), beq_iff_eq.2 f10, dict_Sound.j3, if_pos rfl, hw, ih _ (by omega), ite_some_and]
  rw [if_neg (by omega), beq_eq_false_iff_ne.2 f10, dict_Sound.j3, if_neg (by simp), if_neg (by simp)]
  rfl
theorem dsound_eq (l : List S69) (words : Int) (k : Nat) (hk : 2000 ≤ k) : dict_Sound.f k l words = some (soundF l words) := by
 unfold dict_Sound.f soundF
 by_cases h : (l.length : Int) > 256
 ·rw [if_pos h, decide_eq_true (show 256 < (l.length : Int) from h)]; rfl
 ·rw [if_neg h, decide_eq_false (show ¬ 256 < (l.length : Int) from h), dsound_go l words (by omega) l.length k 0 (Int.le_refl _) (by omega) (by omega)]
  rfl
theorem rsound_go (l : List S69) (words : Int) (hl : l.length ≤ 256) : ∀ (d k : Nat) (i : Int), 0 ≤ i → i + d = l.length → 4 * d + 4 ≤ k → tinderref09_Sound.l0 k l words i = some ((l.drop i.toNat).all (opB l.length words))
 | 0, k, i, h0, h1, hk => by
  obtain ⟨k, rfl⟩ : ∃ m, k = m + 1 := ⟨k - 1, by omega⟩
  rw [tinderref09_Sound.l0, if_neg (by omega), List.drop_eq_nil_of_le (by omega)]
  rfl
 | d + 1, k, i, h0, h1, hk => by
  obtain ⟨k, rfl⟩ : ∃ m, k = m + 4 := ⟨k - 4, by omega⟩
  have hw : wrap64 (i + 1) = i + 1 := by unfold wrap64; omega
  have ih := fun (k' : Nat) (h : 4 * d + 4 ≤ k') => rsound_go l words hl d k' (i + 1) (by omega) (by omega) h
  rw [all_at (opB l.length words) z69 l i h0 (by omega)]
  generalize hR : (l.drop (i + 1).toNat).all (opB l.length words) = R at ih ⊢
  rw [show l.getD i.toNat z69 = rd_T69 l i from rfl]
  generalize hx : rd_T69 l i = x
  rw [tinderref09_Sound.l0, if_pos (by omega), if_pos h0, hw, hx]
  unfold opB
  by_cases e1 : x.f0 = 1
  ·rw [if_pos e1, if_pos e1, ih _ (by omega)]; rfl
  rw [if_neg e1, if_neg e1]
  by_cases e2 : x.f0 = 2
  ·rw [if_pos e2, if_pos (.inl e2), beq_iff_eq.2 e2, tinderref09_Sound.j1, if_pos rfl, hw, ih _ (by omega), ite_some_nand _ (wrap64 x.f1 < words) _ (by omega)]
  rw [if_neg e2]
  by_cases e3 : x.f0 = 13
  ·rw [if_pos (.inr e3), beq_iff_eq.2 e3, tinderref09_Sound.j1, if_pos rfl, hw, ih _ (by omega), ite_some_nand _ (wrap64 x.f1 < words) _ (by omega)]
  rw [if_neg (by omega), beq_eq_false_iff_ne.2 e3, tinderref09_Sound.j1, if_neg (by simp)]
  by_cases e4 : x.f0 = 11
  ·rw [if_pos e4, if_pos (.inl e4), beq_iff_eq.2 e4, tinderref09_Sound.j2, if_pos rfl, hw, ih _ (by omega), ite_some_and]
  rw [if_neg e4]
  by_cases e5 : x.f0 = 12
  ·rw [if_pos (.inr e5), beq_iff_eq.2 e5, tinderref09_Sound.j2, if_pos rfl, hw, ih _ (by omega), ite_some_and]
  rw [if_neg (by omega), beq_eq_false_iff_ne.2 e5, tinderref09_Sound.j2, if_neg (by simp)]
  by_cases f3 : x.f0 = 3
  ·rw [if_pos f3, if_pos (by omega), beq_iff_eq.2 f3, tinderref09_Sound.j3, if_pos rfl, hw, ih _ (by omega), ite_some_nand _ (wrap64 x.f1 ≤ l.length) _ (by omega)]
  rw [if_neg f3]
  by_cases f4 : x.f0 = 4
  ·rw [if_pos f4, if_pos (by omega), beq_iff_eq.2 f4, tinderref09_Sound.j3, if_pos rfl, hw, ih _ (by omega), ite_some_nand _ (wrap64 x.f1 ≤ l.length) _ (by omega)]
  rw [if_neg f4]
  by_cases f5 : x.f0 = 5
  ·rw [if_pos f5, if_pos (by omega), beq_iff_eq.2 f5, tinderref09_Sound.j3, if_pos rfl, hw, ih _ (by omega), ite_some_nand _ (wrap64 x.f1 ≤ l.length) _ (by omega)]
  rw [if_neg f5]
  by_cases f6 : x.f0 = 6
  ·rw [if_pos f6, if_pos (by omega), beq_iff_eq.2 f6, tinderref09_Sound.j3, if_pos rfl, hw, ih _ (by omega), ite_some_nand _ (wrap64 x.f1 ≤ l.length) _ (by omega)]
  rw [if_neg f6]
  by_cases f7 : x.f0 = 7
  ·rw [if_pos f7, if_pos (by omega), beq_iff_eq.2 f7, tinderref09_Sound.j3, if_pos rfl, hw, ih _ (by omega), ite_some_nand _ (wrap64 x.f1 ≤ l.length) _ (by omega)]
  rw [if_neg f7]
  by_cases f8 : x.f0 = 8
  ·rw [if_pos f8, if_pos (by omega), beq_iff_eq.2 f8, tinderref09_Sound.j3, if_pos rfl, hw, ih _ (by omega), ite_some_nand _ (wrap64 x.f1 ≤ l.length) _ (by omega)]
  rw [if_neg f8]
  by_cases f9 : x.f0 = 9
  ·rw [if_pos f9, if_pos (by omega), beq_iff_eq.2 f9, tinderref09_Sound.j3, if_pos rfl, hw, ih _ (by omega), ite_some_nand _ (wrap64 x.f1 ≤ l.length) _ (by omega)]
  rw [if_neg f9]
  by_cases f10 : x.f0 = 10
  ·rw [if_pos (by omega), beq_iff_eq.2 f10, tinderref09_Sound.j3, if_pos rfl, hw, ih _ (by omega), ite_some_nand _ (wrap64 x.f1 ≤ l.length) _ (by omega)]
  rw [if_neg (by omega), beq_eq_false_iff_ne.2 f10, tinderref09_Sound.j3, if_neg (by simp)]
  rfl
theorem rsound_eq (l : List S69) (words : Int) (k : Nat) (hk : 2000 ≤ k) : tinderref09_Sound.f k l words = some (soundF l words) := by
 unfold tinderref09_Sound.f soundF
 by_cases h : (l.length : Int) > 256
 ·rw [if_pos h, decide_eq_true (show 256 < (l.length : Int) from h)]; rfl
 ·rw [if_neg h, decide_eq_false (show ¬ 256 < (l.length : Int) from h), rsound_go l words (by omega) l.length k 0 (Int.le_refl _) (by omega) (by omega)]
  rfl
theorem okB_bt (s : ByteArray) (i : Int) (h : i.toNat < s.size) : okB (s[i.toNat]'h) = (!(decide (bt s i ≤ 32) || decide (126 < bt s i) || (decide (65 ≤ bt s i) && decide (bt s i ≤ 90)))) := by
 unfold okB oddR
 rw [bt_at]
theorem rnamed_go (s : ByteArray) (hs : s.size ≤ 1000000000000000) : ∀ (d k : Nat) (i : Int), 0 ≤ i → i + d = s.size → d < k → ∃ r, tinderref09_Named.l0 k s i = some r ∧ (r = true ↔ ((∀ (j : Nat) (h : j < s.size), i.toNat ≤ j → okB (s[j]'h) = true) ∧ 1 ≤ s.size ∧ s.size ≤ 31))
 | 0, k, i, h0, h1, hk => by
  obtain ⟨k, rfl⟩ : ∃ m, k = m + 1 := ⟨k - 1, by omega⟩
  rw [tinderref09_Named.l0, if_neg (by omega)]
  by_cases h2 : (s.size : Int) ≥ 1
  ·rw [if_pos h2]
   exact ⟨_, rfl, by rw [decide_eq_true_eq]; exact ⟨fun h => ⟨fun j hj hi => absurd hj (by omega), by omega, by omega⟩, fun h => by omega⟩⟩
  ·rw [if_neg h2]
   exact ⟨_, rfl, ⟨fun h => (Bool.false_ne_true h).elim, fun h => absurd h.2.1 (by omega)⟩⟩
 | d + 1, k, i, h0, h1, hk => by
  obtain ⟨k, rfl⟩ : ∃ m, k = m + 1 := ⟨k - 1, by omega⟩
  have hw : wrap64 (i + 1) = i + 1 := by unfold wrap64; omega
  obtain ⟨r, hr, hi⟩ := rnamed_go s hs d k (i + 1) (by omega) (by omega) (by omega)
  have hlt : i.toNat < s.size := by omega
  have hok := okB_bt s i hlt
  rw [tinderref09_Named.l0, if_pos (by omega), if_pos h0, hw, hr]
  generalize bt s i = c at hok
  have bad : okB (s[i.toNat]'hlt) = false → ∃ r, (some false : Option Bool) = some r ∧ (r = true ↔ ((∀ (j : Nat) (h : j < s.size), i.toNat ≤ j → okB (s[j]'h) = true) ∧ 1 ≤ s.size ∧ s.size ≤ 31)) := fun hb =>
   ⟨false, rfl, ⟨fun h => (Bool.false_ne_true h).elim, fun h => by rw [h.1 i.toNat hlt (Nat.le_refl _)] at hb; cases hb⟩⟩
  have good : okB (s[i.toNat]'hlt) = true → ∃ r', (some r : Option Bool) = some r' ∧ (r' = true ↔ ((∀ (j : Nat) (h : j < s.size), i.toNat ≤ j → okB (s[j]'h) = true) ∧ 1 ≤ s.size ∧ s.size ≤ 31)) := fun hg =>
   ⟨r, rfl, hi.trans ⟨fun h => ⟨fun j hj hij => by
    by_cases e : j = i.toNat
    ·subst e; exact hg
    ·exact h.1 j hj (by omega), h.2⟩, fun h => ⟨fun j hj hij => h.1 j hj (by omega), h.2⟩⟩⟩
  by_cases c1 : c < 33
  ·rw [if_pos c1]; exact bad (by rw [hok, decide_eq_true (show c ≤ 32 by omega)]; rfl)
  rw [if_neg c1]
  by_cases c2 : c > 126
  ·rw [if_pos c2]; exact bad (by rw [hok, decide_eq_true (show 126 < c from c2)]; simp)
  rw [if_neg c2]
  by_cases c3 : c ≥ 65
  ·rw [if_pos c3]
   by_cases c4 : c ≤ 90
   ·rw [if_pos c4]; exact bad (by rw [hok, decide_eq_true (show 65 ≤ c from c3), decide_eq_true c4]; simp)
   ·rw [if_neg c4]; exact good (by rw [hok, decide_eq_false (show ¬ c ≤ 32 by omega), decide_eq_false (show ¬ 126 < c from c2), decide_eq_false c4]; simp)
  ·rw [if_neg c3]; exact good (by rw [hok, decide_eq_false (show ¬ c ≤ 32 by omega), decide_eq_false (show ¬ 126 < c from c2), decide_eq_false (show ¬ 65 ≤ c from c3)]; simp)
theorem toList_empty (s : ByteArray) : s.toList.isEmpty = decide (s.size = 0) := by
 have e : s.toList.length = s.size := by rw [ByteArray.toList_eq, data_length]
 cases h : s.toList with
 | nil => rw [h] at e; simp at e; simp [← e]
 | cons a l => rw [h, List.length_cons] at e; rw [decide_eq_false (by omega)]; rfl
theorem rnamed_eq (s : ByteArray) (hs : s.size ≤ 1000000000000000) (k : Nat) (hk : s.size < k) : tinderref09_Named.f k s = some (dNamed s) := by
 unfold tinderref09_Named.f
 obtain ⟨r, hr, hi⟩ := rnamed_go s hs s.size k 0 (Int.le_refl _) (by omega) hk
 rw [hr]
 congr 1
 rw [Bool.eq_iff_iff, hi]
 unfold dNamed
 rw [toList_empty]
 simp only [Bool.and_eq_true, Bool.not_eq_true', decide_eq_false_iff_not, decide_eq_true_eq]
 constructor
 ·rintro ⟨h1, h2, h3⟩
  exact ⟨by omega, by omega, fun j hj => h1 j hj (Nat.zero_le _)⟩
 ·rintro ⟨h1, h2, h3⟩
  exact ⟨fun j hj _ => h3 j hj, by omega, by omega⟩
end Go.Proofs.Ytfpkakedlapmkaa.Q
end
section
namespace Go.Proofs.Ytfpkakedlapmkaa.Q
open Go.RowKit Go.Proofs.YtfpkakedlapmkaaW.PrintWords Go.Proofs.YtfpkakedlapmkaaW.PrintLast Go.Proofs.YtfpkakedlapmkaaW.PrintMore
set_option linter.unusedVariables false
set_option linter.unusedSimpArgs false

attribute [local go_sem] max2_int min2_int max_two min_two max_three min_three max_four min_four
/-! ### dict_right: function 65 -/
def dict_right.j0 : Nat → Int → List (S91) → Bool → ByteArray → Int → Int → Int → List (S69) → Option (Bool)
 | 0, _, _, _, _, _, _, _, _ => none
 | k + 1, x1, x2, x28, x66002000, x66002001, x66002002, x66002003, x66002004 => if x28 = true then (some false) else (if x66002002 = 2 then (if x66002003 = 0 then ((dict_Sound.f k x66002004 x1).bind fun t66003 => (some t66003)) else (some false)) else (if x66002002 = 6 then (if (x66002004.length : Int) = 0 then (some (decide ((wrap64 (x66002003)) < x1))) else (some false)) else (if x66002002 = 7 then (if (x66002004.length : Int) = 0 then (if x66002001 ≥ 0 then (if 0 ≤ x66002001 then (if x66002001 < (x2.length : Int) then (some (decide ((wrap64 (x66002003)) < (((rd_T91 x2 x66002001).f4).length : Int)))) else (none)) else (none)) else (some false)) else (some false)) else (if x66002002 = 3 then (some ((x66002004.length : Int) == 0)) else (if x66002002 = 4 then (some ((x66002004.length : Int) == 0)) else (if x66002002 = 5 then (some ((x66002004.length : Int) == 0)) else (some false)))))))
def dict_right.f (k : Nat) (a0_0 : ByteArray) (a0_1 : Int) (a0_2 : Int) (a0_3 : Int) (l0_4 : List (S69)) (a1 : Int) (l2 : List (S91)) : Option (Bool) := if a0_0.toList = ([] : List UInt8) then (if a0_1 < (-1) then (dict_right.j0 k a1 l2 true a0_0 a0_1 a0_2 a0_3 l0_4) else (dict_right.j0 k a1 l2 (decide (a0_1 ≥ (l2.length : Int))) a0_0 a0_1 a0_2 a0_3 l0_4)) else ((dict_Named.f a0_0).bind fun t66002 => (if t66002 = true then (if a0_1 < (-1) then (dict_right.j0 k a1 l2 true a0_0 a0_1 a0_2 a0_3 l0_4) else (dict_right.j0 k a1 l2 (decide (a0_1 ≥ (l2.length : Int))) a0_0 a0_1 a0_2 a0_3 l0_4)) else (dict_right.j0 k a1 l2 true a0_0 a0_1 a0_2 a0_3 l0_4)))
set_option maxHeartbeats 8000000 in
set_option maxRecDepth 100000 in
theorem dict_right.calls (k : Nat) (a0_0 : ByteArray) (a0_1 : Int) (a0_2 : Int) (a0_3 : Int) (A0_4 : Option Addr) (c0_4 : Nat) (l0_4 : List (S69)) (a1 : Int) (A2 : Option Addr) (c2 : Nat) (l2 : List (S91)) (r : Bool) (w : World) (hr0_4 : Kd.C k69 w A0_4 l0_4.length l0_4) (hc0_4 : l0_4.length ≤ c0_4) (hr2 : Kd.C k91 w A2 l2.length l2) (hc2 : l2.length ≤ c2) (h : dict_right.f k a0_0 a0_1 a0_2 a0_3 l0_4 a1 l2 = some r) :
  Calls Try.prog 65 #[.agg #[.string a0_0, .int .i64 a0_1, .int .i64 a0_2, .int .u32 a0_3, .slice A0_4 l0_4.length c0_4], .int .i64 a1, .slice A2 l2.length c2] w fun e w' => e = .returned (.bool r) ∧ Below w.heap.size w w' := by
 have hu51 := Try.underlying51
 have HR0_4 := Aside0.mk hr0_4
 have HC0_4 := Aside0.mk hc0_4
 clear hr0_4 hc0_4
 have HR2 := Aside0.mk hr2
 have HC2 := Aside0.mk hc2
 clear hr2 hc2
 have HB := Aside0.mk (Below.refl w.heap.size w)
 have H : (if a0_0.toList = ([] : List UInt8) then (if a0_1 < (-1) then (dict_right.j0 k a1 l2 true a0_0 a0_1 a0_2 a0_3 l0_4) else (dict_right.j0 k a1 l2 (decide (a0_1 ≥ (l2.length : Int))) a0_0 a0_1 a0_2 a0_3 l0_4)) else ((dict_Named.f a0_0).bind fun t66002 => (if t66002 = true then (if a0_1 < (-1) then (dict_right.j0 k a1 l2 true a0_0 a0_1 a0_2 a0_3 l0_4) else (dict_right.j0 k a1 l2 (decide (a0_1 ≥ (l2.length : Int))) a0_0 a0_1 a0_2 a0_3 l0_4)) else (dict_right.j0 k a1 l2 true a0_0 a0_1 a0_2 a0_3 l0_4)))) = some r := h
 clear h
 have HC4 := Aside0.mk H
 clear H
 go_enter Try.func65, Try.ntmps65
 go_upto_region 1 with (first | ((with_reducible refine gate_dst (N := 3) rfl ?_); (try (refine gate_guard (by rfl) ?_; dsimp only)); refine box_event ?hg (N := 3) ?hd (cs := #[.string a0_0, .int .i64 a0_1, .int .i64 a0_2, .int .u32 a0_3, .slice A0_4 l0_4.length c0_4]) (t := 51) ?hr ?_; (case hd => rfl); (case hg => rfl); (case hr => first | (go_simp; done) | (go_simp; rfl)); intro gb66001 hg w5 hbox hb; have n0_ := Aside0.mk (below_step (by repeat (first | (with_reducible first | exact HB.out | apply below_alloc | apply pw_below_drewN | apply below_drew1) | exact HB.out)) hb); have n1_ := Aside0.mk (hbox); have n2_ := Aside0.mk ((by rw [hg]; exact (below_size (by repeat (first | (with_reducible first | exact HB.out | apply below_alloc | apply pw_below_drewN | apply below_drew1) | exact HB.out))) : w.heap.size ≤ gb66001)); have n3_ := Aside0.mk ((by rw [hg]; exact (below_size (by repeat (first | (with_reducible first | exact HB.out | apply below_alloc | apply pw_below_drewN | apply below_drew1) | exact HB.out))) : w.heap.size ≤ gb66001)); clear HB; have HB := n0_; have BK66001 := n1_; have GW66001 := n2_; have GE66001 := n3_; clear n0_ n1_ n2_ n3_; clear hb hbox hg))
 repeat (go_quiet (first | ((with_reducible refine gate_dst (N := 3) rfl ?_); (try (refine gate_guard (by rfl) ?_; dsimp only)); refine box_event ?hg (N := 3) ?hd (cs := #[.string a0_0, .int .i64 a0_1, .int .i64 a0_2, .int .u32 a0_3, .slice A0_4 l0_4.length c0_4]) (t := 51) ?hr ?_; (case hd => rfl); (case hg => rfl); (case hr => first | (go_simp; done) | (go_simp; rfl)); intro gb66001 hg w5 hbox hb; have n0_ := Aside0.mk (below_step (by repeat (first | (with_reducible first | exact HB.out | apply below_alloc | apply pw_below_drewN | apply below_drew1) | exact HB.out)) hb); have n1_ := Aside0.mk (hbox); have n2_ := Aside0.mk ((by rw [hg]; exact (below_size (by repeat (first | (with_reducible first | exact HB.out | apply below_alloc | apply pw_below_drewN | apply below_drew1) | exact HB.out))) : w.heap.size ≤ gb66001)); have n3_ := Aside0.mk ((by rw [hg]; exact (below_size (by repeat (first | (with_reducible first | exact HB.out | apply below_alloc | apply pw_below_drewN | apply below_drew1) | exact HB.out))) : w.heap.size ≤ gb66001)); clear HB; have HB := n0_; have BK66001 := n1_; have GW66001 := n2_; have GE66001 := n3_; clear n0_ n1_ n2_ n3_; clear hb hbox hg)); go_upto_region 1 with (first | ((with_reducible refine gate_dst (N := 3) rfl ?_); (try (refine gate_guard (by rfl) ?_; dsimp only)); refine box_event ?hg (N := 3) ?hd (cs := #[.string a0_0, .int .i64 a0_1, .int .i64 a0_2, .int .u32 a0_3, .slice A0_4 l0_4.length c0_4]) (t := 51) ?hr ?_; (case hd => rfl); (case hg => rfl); (case hr => first | (go_simp; done) | (go_simp; rfl)); intro gb66001 hg w5 hbox hb; have n0_ := Aside0.mk (below_step (by repeat (first | (with_reducible first | exact HB.out | apply below_alloc | apply pw_below_drewN | apply below_drew1) | exact HB.out)) hb); have n1_ := Aside0.mk (hbox); have n2_ := Aside0.mk ((by rw [hg]; exact (below_size (by repeat (first | (with_reducible first | exact HB.out | apply below_alloc | apply pw_below_drewN | apply below_drew1) | exact HB.out))) : w.heap.size ≤ gb66001)); have n3_ := Aside0.mk ((by rw [hg]; exact (below_size (by repeat (first | (with_reducible first | exact HB.out | apply below_alloc | apply pw_below_drewN | apply below_drew1) | exact HB.out))) : w.heap.size ≤ gb66001)); clear HB; have HB := n0_; have BK66001 := n1_; have GW66001 := n2_; have GE66001 := n3_; clear n0_ n1_ n2_ n3_; clear hb hbox hg)))
 (try simp only [Act.put, List.setIfInBounds_toArray, List.set_cons_zero, List.set_cons_succ])
 go_cut [28] (fun v28 wc => ∃ (kq : Nat) (x28_3 : Bool), v28 = .bool x28_3 ∧ Aside0 (dict_right.j0 kq a1 l2 x28_3 a0_0 a0_1 a0_2 a0_3 l0_4 = some r) ∧ Aside0 (kq ≤ k) ∧ Aside0 (wc.heap[gb66001]? = some (.cells #[.string a0_0, .int .i64 a0_1, .int .i64 a0_2, .int .u32 a0_3, (.slice A0_4 l0_4.length c0_4)] 51 (0, 0))) ∧ Aside0 (Below w.heap.size w wc))
 case first =>
  have H := HC4.out
  clear HC4
  by_cases c6 : a0_0.toList = ([] : List UInt8)
  ·rw [if_pos c6] at H
   have c6b0 : (a0_0.toList == ([] : List UInt8)) = true := beq_iff_eq.mpr c6
   have c6b1 : (a0_0.toList != ([] : List UInt8)) = false := bne_eq_false_iff_eq.mpr c6
   clear c6
   (first | rw [c6b0] | (simp only [i64_w, i32_w]; rw [c6b0]) | skip)
   by_cases c7 : a0_1 < (-1)
   ·rw [if_pos c7] at H
    have c7b0 : decide (a0_1 < (-1)) = true := decide_eq_true c7
    clear c7
    have H' := Aside0.mk H
    clear H
    have hcz8_0 : w5.cell? ⟨gb66001, 0, none⟩ = some (.string a0_0) := (blk_cell BK66001.out 0).trans rfl
    have hcz8_1 : w5.cell? ⟨gb66001, 1, none⟩ = some (.int .i64 a0_1) := (blk_cell BK66001.out 1).trans rfl
    have hcz8_2 : w5.cell? ⟨gb66001, 2, none⟩ = some (.int .i64 a0_2) := (blk_cell BK66001.out 2).trans rfl
    have hcz8_3 : w5.cell? ⟨gb66001, 3, none⟩ = some (.int .u32 a0_3) := (blk_cell BK66001.out 3).trans rfl
    have hcz8_4 : w5.cell? ⟨gb66001, 4, none⟩ = some (.slice A0_4 l0_4.length c0_4) := (blk_cell BK66001.out 4).trans rfl
    have hfz8_0 := blk_frozen BK66001.out 0
    have hfz8_1 := blk_frozen BK66001.out 1
    have hfz8_2 := blk_frozen BK66001.out 2
    have hfz8_3 := blk_frozen BK66001.out 3
    have hfz8_4 := blk_frozen BK66001.out 4
    go_wp2
    repeat (go_quiet (fail); try go_wp2)
    go_meet
    case rel => exact ⟨_, (true), (by first | rfl | (simp; done) | (simp [*]; done)), H', ⟨by first | omega | exact Nat.le_refl _⟩, ⟨by (with_reducible repeat (first | refine blk_drewN ?_ _ | refine blk_drew ?_ | refine blk_alloc ?_ _)); exact BK66001.out⟩, ⟨by repeat (first | (with_reducible first | exact HB.out | apply below_alloc | apply pw_below_drewN | apply below_drew1 | refine below_set ?_ GE66001.out) | exact HB.out)⟩⟩
   ·rw [if_neg c7] at H
    have c7b0 : decide (a0_1 < (-1)) = false := decide_eq_false c7
    clear c7
    have H' := Aside0.mk H
    clear H
    have hcz9_0 : w5.cell? ⟨gb66001, 0, none⟩ = some (.string a0_0) := (blk_cell BK66001.out 0).trans rfl
    have hcz9_1 : w5.cell? ⟨gb66001, 1, none⟩ = some (.int .i64 a0_1) := (blk_cell BK66001.out 1).trans rfl
    have hcz9_2 : w5.cell? ⟨gb66001, 2, none⟩ = some (.int .i64 a0_2) := (blk_cell BK66001.out 2).trans rfl
    have hcz9_3 : w5.cell? ⟨gb66001, 3, none⟩ = some (.int .u32 a0_3) := (blk_cell BK66001.out 3).trans rfl
    have hcz9_4 : w5.cell? ⟨gb66001, 4, none⟩ = some (.slice A0_4 l0_4.length c0_4) := (blk_cell BK66001.out 4).trans rfl
    have hfz9_0 := blk_frozen BK66001.out 0
    have hfz9_1 := blk_frozen BK66001.out 1
    have hfz9_2 := blk_frozen BK66001.out 2
    have hfz9_3 := blk_frozen BK66001.out 3
    have hfz9_4 := blk_frozen BK66001.out 4
    go_wp2
    repeat (go_quiet (fail); try go_wp2)
    go_meet
    case rel => exact ⟨_, (decide (a0_1 ≥ (l2.length : Int))), (by first | rfl | (simp; done) | (simp [*]; done)), H', ⟨by first | omega | exact Nat.le_refl _⟩, ⟨by (with_reducible repeat (first | refine blk_drewN ?_ _ | refine blk_drew ?_ | refine blk_alloc ?_ _)); exact BK66001.out⟩, ⟨by repeat (first | (with_reducible first | exact HB.out | apply below_alloc | apply pw_below_drewN | apply below_drew1 | refine below_set ?_ GE66001.out) | exact HB.out)⟩⟩
  ·rw [if_neg c6] at H
   have c6b0 : (a0_0.toList == ([] : List UInt8)) = false := beq_eq_false_iff_ne.mpr c6
   have c6b1 : (a0_0.toList != ([] : List UInt8)) = true := bne_iff_ne.mpr c6
   (first | rw [c6b0] | (simp only [i64_w, i32_w]; rw [c6b0]) | skip)
   replace H := Option.bind_eq_some_iff.mp H
   obtain ⟨t66002, A100, H⟩ := H
   replace H : (if t66002 = true then (if a0_1 < (-1) then (dict_right.j0 k a1 l2 true a0_0 a0_1 a0_2 a0_3 l0_4) else (dict_right.j0 k a1 l2 (decide (a0_1 ≥ (l2.length : Int))) a0_0 a0_1 a0_2 a0_3 l0_4)) else (dict_right.j0 k a1 l2 true a0_0 a0_1 a0_2 a0_3 l0_4)) = some r := H
   have A10 := Aside0.mk A100
   clear A100
   by_cases c11 : t66002 = true
   ·subst c11
    have H1 : (if a0_1 < (-1) then (dict_right.j0 k a1 l2 true a0_0 a0_1 a0_2 a0_3 l0_4) else (dict_right.j0 k a1 l2 (decide (a0_1 ≥ (l2.length : Int))) a0_0 a0_1 a0_2 a0_3 l0_4)) = some r := by rw [if_pos rfl] at H; exact H
    clear H
    have H := H1
    clear H1
    by_cases c12 : a0_1 < (-1)
    ·rw [if_pos c12] at H
     have c12b0 : decide (a0_1 < (-1)) = true := decide_eq_true c12
     clear c12
     have H' := Aside0.mk H
     clear H
     have hcz13_0 : w5.cell? ⟨gb66001, 0, none⟩ = some (.string a0_0) := (blk_cell BK66001.out 0).trans rfl
     have hcz13_1 : w5.cell? ⟨gb66001, 1, none⟩ = some (.int .i64 a0_1) := (blk_cell BK66001.out 1).trans rfl
     have hcz13_2 : w5.cell? ⟨gb66001, 2, none⟩ = some (.int .i64 a0_2) := (blk_cell BK66001.out 2).trans rfl
     have hcz13_3 : w5.cell? ⟨gb66001, 3, none⟩ = some (.int .u32 a0_3) := (blk_cell BK66001.out 3).trans rfl
     have hcz13_4 : w5.cell? ⟨gb66001, 4, none⟩ = some (.slice A0_4 l0_4.length c0_4) := (blk_cell BK66001.out 4).trans rfl
     have hfz13_0 := blk_frozen BK66001.out 0
     have hfz13_1 := blk_frozen BK66001.out 1
     have hfz13_2 := blk_frozen BK66001.out 2
     have hfz13_3 := blk_frozen BK66001.out 3
     have hfz13_4 := blk_frozen BK66001.out 4
     go_wp2_with (first | (go_at_call 18; (with_reducible refine (dict_Named.calls a0_0 true _ A10.out).mono ?_); rintro e w14 ⟨rfl, hb⟩; have n0_ := Aside0.mk (blk_below (g := gb66001) (o := .cells #[.string a0_0, .int .i64 a0_1, .int .i64 a0_2, .int .u32 a0_3, .slice A0_4 l0_4.length c0_4] 51 (0, 0)) (by (with_reducible repeat (first | refine blk_drewN ?_ _ | refine blk_drew ?_ | refine blk_alloc ?_ _)); exact BK66001.out) hb); have n1_ := Aside0.mk (below_step (by repeat (first | (with_reducible first | exact HB.out | apply below_alloc | apply pw_below_drewN | apply below_drew1 | refine below_set ?_ GE66001.out) | exact HB.out)) hb); clear BK66001; clear HB; have BK66001 := n0_; have HB := n1_; clear n0_ n1_; (try clear hb); (try clear hb2); (try clear hk); (try clear hi); have hcz15_0 : w14.cell? ⟨gb66001, 0, none⟩ = some (.string a0_0) := (blk_cell BK66001.out 0).trans rfl; have hcz15_1 : w14.cell? ⟨gb66001, 1, none⟩ = some (.int .i64 a0_1) := (blk_cell BK66001.out 1).trans rfl; have hcz15_2 : w14.cell? ⟨gb66001, 2, none⟩ = some (.int .i64 a0_2) := (blk_cell BK66001.out 2).trans rfl; have hcz15_3 : w14.cell? ⟨gb66001, 3, none⟩ = some (.int .u32 a0_3) := (blk_cell BK66001.out 3).trans rfl; have hcz15_4 : w14.cell? ⟨gb66001, 4, none⟩ = some (.slice A0_4 l0_4.length c0_4) := (blk_cell BK66001.out 4).trans rfl; have hfz15_0 := blk_frozen BK66001.out 0; have hfz15_1 := blk_frozen BK66001.out 1; have hfz15_2 := blk_frozen BK66001.out 2; have hfz15_3 := blk_frozen BK66001.out 3; have hfz15_4 := blk_frozen BK66001.out 4))
     repeat (go_quiet (first | (go_at_call 18; (with_reducible refine (dict_Named.calls a0_0 true _ A10.out).mono ?_); rintro e w14 ⟨rfl, hb⟩; have n0_ := Aside0.mk (blk_below (g := gb66001) (o := .cells #[.string a0_0, .int .i64 a0_1, .int .i64 a0_2, .int .u32 a0_3, .slice A0_4 l0_4.length c0_4] 51 (0, 0)) (by (with_reducible repeat (first | refine blk_drewN ?_ _ | refine blk_drew ?_ | refine blk_alloc ?_ _)); exact BK66001.out) hb); have n1_ := Aside0.mk (below_step (by repeat (first | (with_reducible first | exact HB.out | apply below_alloc | apply pw_below_drewN | apply below_drew1 | refine below_set ?_ GE66001.out) | exact HB.out)) hb); clear BK66001; clear HB; have BK66001 := n0_; have HB := n1_; clear n0_ n1_; (try clear hb); (try clear hb2); (try clear hk); (try clear hi); have hcz15_0 : w14.cell? ⟨gb66001, 0, none⟩ = some (.string a0_0) := (blk_cell BK66001.out 0).trans rfl; have hcz15_1 : w14.cell? ⟨gb66001, 1, none⟩ = some (.int .i64 a0_1) := (blk_cell BK66001.out 1).trans rfl; have hcz15_2 : w14.cell? ⟨gb66001, 2, none⟩ = some (.int .i64 a0_2) := (blk_cell BK66001.out 2).trans rfl; have hcz15_3 : w14.cell? ⟨gb66001, 3, none⟩ = some (.int .u32 a0_3) := (blk_cell BK66001.out 3).trans rfl; have hcz15_4 : w14.cell? ⟨gb66001, 4, none⟩ = some (.slice A0_4 l0_4.length c0_4) := (blk_cell BK66001.out 4).trans rfl; have hfz15_0 := blk_frozen BK66001.out 0; have hfz15_1 := blk_frozen BK66001.out 1; have hfz15_2 := blk_frozen BK66001.out 2; have hfz15_3 := blk_frozen BK66001.out 3; have hfz15_4 := blk_frozen BK66001.out 4)); try go_wp2_with (first | (go_at_call 18; (with_reducible refine (dict_Named.calls a0_0 true _ A10.out).mono ?_); rintro e w14 ⟨rfl, hb⟩; have n0_ := Aside0.mk (blk_below (g := gb66001) (o := .cells #[.string a0_0, .int .i64 a0_1, .int .i64 a0_2, .int .u32 a0_3, .slice A0_4 l0_4.length c0_4] 51 (0, 0)) (by (with_reducible repeat (first | refine blk_drewN ?_ _ | refine blk_drew ?_ | refine blk_alloc ?_ _)); exact BK66001.out) hb); have n1_ := Aside0.mk (below_step (by repeat (first | (with_reducible first | exact HB.out | apply below_alloc | apply pw_below_drewN | apply below_drew1 | refine below_set ?_ GE66001.out) | exact HB.out)) hb); clear BK66001; clear HB; have BK66001 := n0_; have HB := n1_; clear n0_ n1_; (try clear hb); (try clear hb2); (try clear hk); (try clear hi); have hcz15_0 : w14.cell? ⟨gb66001, 0, none⟩ = some (.string a0_0) := (blk_cell BK66001.out 0).trans rfl; have hcz15_1 : w14.cell? ⟨gb66001, 1, none⟩ = some (.int .i64 a0_1) := (blk_cell BK66001.out 1).trans rfl; have hcz15_2 : w14.cell? ⟨gb66001, 2, none⟩ = some (.int .i64 a0_2) := (blk_cell BK66001.out 2).trans rfl; have hcz15_3 : w14.cell? ⟨gb66001, 3, none⟩ = some (.int .u32 a0_3) := (blk_cell BK66001.out 3).trans rfl; have hcz15_4 : w14.cell? ⟨gb66001, 4, none⟩ = some (.slice A0_4 l0_4.length c0_4) := (blk_cell BK66001.out 4).trans rfl; have hfz15_0 := blk_frozen BK66001.out 0; have hfz15_1 := blk_frozen BK66001.out 1; have hfz15_2 := blk_frozen BK66001.out 2; have hfz15_3 := blk_frozen BK66001.out 3; have hfz15_4 := blk_frozen BK66001.out 4)))
     go_meet
     case rel => exact ⟨_, (true), (by first | rfl | (simp; done) | (simp [*]; done)), H', ⟨by first | omega | exact Nat.le_refl _⟩, ⟨by (with_reducible repeat (first | refine blk_drewN ?_ _ | refine blk_drew ?_ | refine blk_alloc ?_ _)); exact BK66001.out⟩, ⟨by repeat (first | (with_reducible first | exact HB.out | apply below_alloc | apply pw_below_drewN | apply below_drew1 | refine below_set ?_ GE66001.out) | exact HB.out)⟩⟩
    ·rw [if_neg c12] at H
     have c12b0 : decide (a0_1 < (-1)) = false := decide_eq_false c12
     clear c12
     have H' := Aside0.mk H
     clear H
     have hcz16_0 : w5.cell? ⟨gb66001, 0, none⟩ = some (.string a0_0) := (blk_cell BK66001.out 0).trans rfl
     have hcz16_1 : w5.cell? ⟨gb66001, 1, none⟩ = some (.int .i64 a0_1) := (blk_cell BK66001.out 1).trans rfl
     have hcz16_2 : w5.cell? ⟨gb66001, 2, none⟩ = some (.int .i64 a0_2) := (blk_cell BK66001.out 2).trans rfl
     have hcz16_3 : w5.cell? ⟨gb66001, 3, none⟩ = some (.int .u32 a0_3) := (blk_cell BK66001.out 3).trans rfl
     have hcz16_4 : w5.cell? ⟨gb66001, 4, none⟩ = some (.slice A0_4 l0_4.length c0_4) := (blk_cell BK66001.out 4).trans rfl
     have hfz16_0 := blk_frozen BK66001.out 0
     have hfz16_1 := blk_frozen BK66001.out 1
     have hfz16_2 := blk_frozen BK66001.out 2
     have hfz16_3 := blk_frozen BK66001.out 3
     have hfz16_4 := blk_frozen BK66001.out 4
     go_wp2_with (first | (go_at_call 18; (with_reducible refine (dict_Named.calls a0_0 true _ A10.out).mono ?_); rintro e w17 ⟨rfl, hb⟩; have n0_ := Aside0.mk (blk_below (g := gb66001) (o := .cells #[.string a0_0, .int .i64 a0_1, .int .i64 a0_2, .int .u32 a0_3, .slice A0_4 l0_4.length c0_4] 51 (0, 0)) (by (with_reducible repeat (first | refine blk_drewN ?_ _ | refine blk_drew ?_ | refine blk_alloc ?_ _)); exact BK66001.out) hb); have n1_ := Aside0.mk (below_step (by repeat (first | (with_reducible first | exact HB.out | apply below_alloc | apply pw_below_drewN | apply below_drew1 | refine below_set ?_ GE66001.out) | exact HB.out)) hb); clear BK66001; clear HB; have BK66001 := n0_; have HB := n1_; clear n0_ n1_; (try clear hb); (try clear hb2); (try clear hk); (try clear hi); have hcz18_0 : w17.cell? ⟨gb66001, 0, none⟩ = some (.string a0_0) := (blk_cell BK66001.out 0).trans rfl; have hcz18_1 : w17.cell? ⟨gb66001, 1, none⟩ = some (.int .i64 a0_1) := (blk_cell BK66001.out 1).trans rfl; have hcz18_2 : w17.cell? ⟨gb66001, 2, none⟩ = some (.int .i64 a0_2) := (blk_cell BK66001.out 2).trans rfl; have hcz18_3 : w17.cell? ⟨gb66001, 3, none⟩ = some (.int .u32 a0_3) := (blk_cell BK66001.out 3).trans rfl; have hcz18_4 : w17.cell? ⟨gb66001, 4, none⟩ = some (.slice A0_4 l0_4.length c0_4) := (blk_cell BK66001.out 4).trans rfl; have hfz18_0 := blk_frozen BK66001.out 0; have hfz18_1 := blk_frozen BK66001.out 1; have hfz18_2 := blk_frozen BK66001.out 2; have hfz18_3 := blk_frozen BK66001.out 3; have hfz18_4 := blk_frozen BK66001.out 4))
     repeat (go_quiet (first | (go_at_call 18; (with_reducible refine (dict_Named.calls a0_0 true _ A10.out).mono ?_); rintro e w17 ⟨rfl, hb⟩; have n0_ := Aside0.mk (blk_below (g := gb66001) (o := .cells #[.string a0_0, .int .i64 a0_1, .int .i64 a0_2, .int .u32 a0_3, .slice A0_4 l0_4.length c0_4] 51 (0, 0)) (by (with_reducible repeat (first | refine blk_drewN ?_ _ | refine blk_drew ?_ | refine blk_alloc ?_ _)); exact BK66001.out) hb); have n1_ := Aside0.mk (below_step (by repeat (first | (with_reducible first | exact HB.out | apply below_alloc | apply pw_below_drewN | apply below_drew1 | refine below_set ?_ GE66001.out) | exact HB.out)) hb); clear BK66001; clear HB; have BK66001 := n0_; have HB := n1_; clear n0_ n1_; (try clear hb); (try clear hb2); (try clear hk); (try clear hi); have hcz18_0 : w17.cell? ⟨gb66001, 0, none⟩ = some (.string a0_0) := (blk_cell BK66001.out 0).trans rfl; have hcz18_1 : w17.cell? ⟨gb66001, 1, none⟩ = some (.int .i64 a0_1) := (blk_cell BK66001.out 1).trans rfl; have hcz18_2 : w17.cell? ⟨gb66001, 2, none⟩ = some (.int .i64 a0_2) := (blk_cell BK66001.out 2).trans rfl; have hcz18_3 : w17.cell? ⟨gb66001, 3, none⟩ = some (.int .u32 a0_3) := (blk_cell BK66001.out 3).trans rfl; have hcz18_4 : w17.cell? ⟨gb66001, 4, none⟩ = some (.slice A0_4 l0_4.length c0_4) := (blk_cell BK66001.out 4).trans rfl; have hfz18_0 := blk_frozen BK66001.out 0; have hfz18_1 := blk_frozen BK66001.out 1; have hfz18_2 := blk_frozen BK66001.out 2; have hfz18_3 := blk_frozen BK66001.out 3; have hfz18_4 := blk_frozen BK66001.out 4)); try go_wp2_with (first | (go_at_call 18; (with_reducible refine (dict_Named.calls a0_0 true _ A10.out).mono ?_); rintro e w17 ⟨rfl, hb⟩; have n0_ := Aside0.mk (blk_below (g := gb66001) (o := .cells #[.string a0_0, .int .i64 a0_1, .int .i64 a0_2, .int .u32 a0_3, .slice A0_4 l0_4.length c0_4] 51 (0, 0)) (by (with_reducible repeat (first | refine blk_drewN ?_ _ | refine blk_drew ?_ | refine blk_alloc ?_ _)); exact BK66001.out) hb); have n1_ := Aside0.mk (below_step (by repeat (first | (with_reducible first | exact HB.out | apply below_alloc | apply pw_below_drewN | apply below_drew1 | refine below_set ?_ GE66001.out) | exact HB.out)) hb); clear BK66001; clear HB; have BK66001 := n0_; have HB := n1_; clear n0_ n1_; (try clear hb); (try clear hb2); (try clear hk); (try clear hi); have hcz18_0 : w17.cell? ⟨gb66001, 0, none⟩ = some (.string a0_0) := (blk_cell BK66001.out 0).trans rfl; have hcz18_1 : w17.cell? ⟨gb66001, 1, none⟩ = some (.int .i64 a0_1) := (blk_cell BK66001.out 1).trans rfl; have hcz18_2 : w17.cell? ⟨gb66001, 2, none⟩ = some (.int .i64 a0_2) := (blk_cell BK66001.out 2).trans rfl; have hcz18_3 : w17.cell? ⟨gb66001, 3, none⟩ = some (.int .u32 a0_3) := (blk_cell BK66001.out 3).trans rfl; have hcz18_4 : w17.cell? ⟨gb66001, 4, none⟩ = some (.slice A0_4 l0_4.length c0_4) := (blk_cell BK66001.out 4).trans rfl; have hfz18_0 := blk_frozen BK66001.out 0; have hfz18_1 := blk_frozen BK66001.out 1; have hfz18_2 := blk_frozen BK66001.out 2; have hfz18_3 := blk_frozen BK66001.out 3; have hfz18_4 := blk_frozen BK66001.out 4)))
     go_meet
     case rel => exact ⟨_, (decide (a0_1 ≥ (l2.length : Int))), (by first | rfl | (simp; done) | (simp [*]; done)), H', ⟨by first | omega | exact Nat.le_refl _⟩, ⟨by (with_reducible repeat (first | refine blk_drewN ?_ _ | refine blk_drew ?_ | refine blk_alloc ?_ _)); exact BK66001.out⟩, ⟨by repeat (first | (with_reducible first | exact HB.out | apply below_alloc | apply pw_below_drewN | apply below_drew1 | refine below_set ?_ GE66001.out) | exact HB.out)⟩⟩
   ·replace c11 := Bool.eq_false_iff.mpr c11
    subst c11
    have H1 : (dict_right.j0 k a1 l2 true a0_0 a0_1 a0_2 a0_3 l0_4) = some r := by rw [if_neg (show ¬ (false = true) by decide)] at H; exact H
    clear H
    have H := H1
    clear H1
    have H' := Aside0.mk H
    clear H
    have hcz19_0 : w5.cell? ⟨gb66001, 0, none⟩ = some (.string a0_0) := (blk_cell BK66001.out 0).trans rfl
    have hcz19_1 : w5.cell? ⟨gb66001, 1, none⟩ = some (.int .i64 a0_1) := (blk_cell BK66001.out 1).trans rfl
    have hcz19_2 : w5.cell? ⟨gb66001, 2, none⟩ = some (.int .i64 a0_2) := (blk_cell BK66001.out 2).trans rfl
    have hcz19_3 : w5.cell? ⟨gb66001, 3, none⟩ = some (.int .u32 a0_3) := (blk_cell BK66001.out 3).trans rfl
    have hcz19_4 : w5.cell? ⟨gb66001, 4, none⟩ = some (.slice A0_4 l0_4.length c0_4) := (blk_cell BK66001.out 4).trans rfl
    have hfz19_0 := blk_frozen BK66001.out 0
    have hfz19_1 := blk_frozen BK66001.out 1
    have hfz19_2 := blk_frozen BK66001.out 2
    have hfz19_3 := blk_frozen BK66001.out 3
    have hfz19_4 := blk_frozen BK66001.out 4
    go_wp2_with (first | (go_at_call 18; (with_reducible refine (dict_Named.calls a0_0 false _ A10.out).mono ?_); rintro e w20 ⟨rfl, hb⟩; have n0_ := Aside0.mk (blk_below (g := gb66001) (o := .cells #[.string a0_0, .int .i64 a0_1, .int .i64 a0_2, .int .u32 a0_3, .slice A0_4 l0_4.length c0_4] 51 (0, 0)) (by (with_reducible repeat (first | refine blk_drewN ?_ _ | refine blk_drew ?_ | refine blk_alloc ?_ _)); exact BK66001.out) hb); have n1_ := Aside0.mk (below_step (by repeat (first | (with_reducible first | exact HB.out | apply below_alloc | apply pw_below_drewN | apply below_drew1 | refine below_set ?_ GE66001.out) | exact HB.out)) hb); clear BK66001; clear HB; have BK66001 := n0_; have HB := n1_; clear n0_ n1_; (try clear hb); (try clear hb2); (try clear hk); (try clear hi)))
    repeat (go_quiet (first | (go_at_call 18; (with_reducible refine (dict_Named.calls a0_0 false _ A10.out).mono ?_); rintro e w20 ⟨rfl, hb⟩; have n0_ := Aside0.mk (blk_below (g := gb66001) (o := .cells #[.string a0_0, .int .i64 a0_1, .int .i64 a0_2, .int .u32 a0_3, .slice A0_4 l0_4.length c0_4] 51 (0, 0)) (by (with_reducible repeat (first | refine blk_drewN ?_ _ | refine blk_drew ?_ | refine blk_alloc ?_ _)); exact BK66001.out) hb); have n1_ := Aside0.mk (below_step (by repeat (first | (with_reducible first | exact HB.out | apply below_alloc | apply pw_below_drewN | apply below_drew1 | refine below_set ?_ GE66001.out) | exact HB.out)) hb); clear BK66001; clear HB; have BK66001 := n0_; have HB := n1_; clear n0_ n1_; (try clear hb); (try clear hb2); (try clear hk); (try clear hi))); try go_wp2_with (first | (go_at_call 18; (with_reducible refine (dict_Named.calls a0_0 false _ A10.out).mono ?_); rintro e w20 ⟨rfl, hb⟩; have n0_ := Aside0.mk (blk_below (g := gb66001) (o := .cells #[.string a0_0, .int .i64 a0_1, .int .i64 a0_2, .int .u32 a0_3, .slice A0_4 l0_4.length c0_4] 51 (0, 0)) (by (with_reducible repeat (first | refine blk_drewN ?_ _ | refine blk_drew ?_ | refine blk_alloc ?_ _)); exact BK66001.out) hb); have n1_ := Aside0.mk (below_step (by repeat (first | (with_reducible first | exact HB.out | apply below_alloc | apply pw_below_drewN | apply below_drew1 | refine below_set ?_ GE66001.out) | exact HB.out)) hb); clear BK66001; clear HB; have BK66001 := n0_; have HB := n1_; clear n0_ n1_; (try clear hb); (try clear hb2); (try clear hk); (try clear hi))))
    go_meet
    case rel => exact ⟨_, (true), (by first | rfl | (simp; done) | (simp [*]; done)), H', ⟨by first | omega | exact Nat.le_refl _⟩, ⟨by (with_reducible repeat (first | refine blk_drewN ?_ _ | refine blk_drew ?_ | refine blk_alloc ?_ _)); exact BK66001.out⟩, ⟨by repeat (first | (with_reducible first | exact HB.out | apply below_alloc | apply pw_below_drewN | apply below_drew1 | refine below_set ?_ GE66001.out) | exact HB.out)⟩⟩
 case rest =>
  clear HC4
  try clear c1
  try clear c2
  try clear p2
  try clear c6
  try clear c6b0
  try clear c6b1
  try clear c7
  try clear c7b0
  try clear c11
  try clear c12
  try clear c12b0
  try clear hcz13_0
  try clear hcz13_1
  try clear hcz13_2
  try clear hcz13_3
  try clear hcz13_4
  try clear hcz15_0
  try clear hcz15_1
  try clear hcz15_2
  try clear hcz15_3
  try clear hcz15_4
  try clear hcz16_0
  try clear hcz16_1
  try clear hcz16_2
  try clear hcz16_3
  try clear hcz16_4
  try clear hcz18_0
  try clear hcz18_1
  try clear hcz18_2
  try clear hcz18_3
  try clear hcz18_4
  try clear hcz19_0
  try clear hcz19_1
  try clear hcz19_2
  try clear hcz19_3
  try clear hcz19_4
  try clear hcz8_0
  try clear hcz8_1
  try clear hcz8_2
  try clear hcz8_3
  try clear hcz8_4
  try clear hcz9_0
  try clear hcz9_1
  try clear hcz9_2
  try clear hcz9_3
  try clear hcz9_4
  try clear hfz13_0
  try clear hfz13_1
  try clear hfz13_2
  try clear hfz13_3
  try clear hfz13_4
  try clear hfz15_0
  try clear hfz15_1
  try clear hfz15_2
  try clear hfz15_3
  try clear hfz15_4
  try clear hfz16_0
  try clear hfz16_1
  try clear hfz16_2
  try clear hfz16_3
  try clear hfz16_4
  try clear hfz18_0
  try clear hfz18_1
  try clear hfz18_2
  try clear hfz18_3
  try clear hfz18_4
  try clear hfz19_0
  try clear hfz19_1
  try clear hfz19_2
  try clear hfz19_3
  try clear hfz19_4
  try clear hfz8_0
  try clear hfz8_1
  try clear hfz8_2
  try clear hfz8_3
  try clear hfz8_4
  try clear hfz9_0
  try clear hfz9_1
  try clear hfz9_2
  try clear hfz9_3
  try clear hfz9_4
  obtain ⟨kq, x28_3, rfl, HA, HJ3, BK66001, HB⟩ := hcut
  cases kq with
  | zero => exact absurd HA.out (by simp [dict_right.j0])
  | succ kj3 =>
   have H := HA.out
   clear HA
   simp only [dict_right.j0] at H
   by_cases c21 : x28_3 = true
   ·subst c21
    have H1 : (some false) = some r := by rw [if_pos rfl] at H; exact H
    clear H
    have H := H1
    clear H1
    obtain rfl := Option.some.inj H
    go_wp2
    repeat (go_quiet (fail); try go_wp2)
    go_ret
    exact ⟨by first | rfl | (simp [errW_none, errW_some] <;> rfl) | (simp [*, errW_none, errW_some] <;> rfl), by repeat (first | (with_reducible first | exact HB.out | apply below_alloc | apply pw_below_drewN | apply below_drew1 | refine below_set ?_ GE66001.out) | exact HB.out)⟩
   ·replace c21 := Bool.eq_false_iff.mpr c21
    subst c21
    have H1 : (if a0_2 = 2 then (if a0_3 = 0 then ((dict_Sound.f kj3 l0_4 a1).bind fun t66003 => (some t66003)) else (some false)) else (if a0_2 = 6 then (if (l0_4.length : Int) = 0 then (some (decide ((wrap64 (a0_3)) < a1))) else (some false)) else (if a0_2 = 7 then (if (l0_4.length : Int) = 0 then (if a0_1 ≥ 0 then (if 0 ≤ a0_1 then (if a0_1 < (l2.length : Int) then (some (decide ((wrap64 (a0_3)) < (((rd_T91 l2 a0_1).f4).length : Int)))) else (none)) else (none)) else (some false)) else (some false)) else (if a0_2 = 3 then (some ((l0_4.length : Int) == 0)) else (if a0_2 = 4 then (some ((l0_4.length : Int) == 0)) else (if a0_2 = 5 then (some ((l0_4.length : Int) == 0)) else (some false))))))) = some r := by rw [if_neg (show ¬ (false = true) by decide)] at H; exact H
    clear H
    have H := H1
    clear H1
    by_cases c22 : a0_2 = 2
    ·rw [if_pos c22] at H
     have c22b0 : (a0_2 == 2) = true := beq_iff_eq.mpr c22
     have c22b1 : (a0_2 != 2) = false := bne_eq_false_iff_eq.mpr c22
     clear c22
     by_cases c23 : a0_3 = 0
     ·rw [if_pos c23] at H
      have c23b0 : (a0_3 == 0) = true := beq_iff_eq.mpr c23
      have c23b1 : (a0_3 != 0) = false := bne_eq_false_iff_eq.mpr c23
      clear c23
      replace H := Option.bind_eq_some_iff.mp H
      obtain ⟨t66003, A240, H⟩ := H
      replace H : (some t66003) = some r := H
      have A24 := Aside0.mk A240
      clear A240
      obtain rfl := Option.some.inj H
      have hcz25_0 : wc.cell? ⟨gb66001, 0, none⟩ = some (.string a0_0) := (blk_cell BK66001.out 0).trans rfl
      have hcz25_1 : wc.cell? ⟨gb66001, 1, none⟩ = some (.int .i64 a0_1) := (blk_cell BK66001.out 1).trans rfl
      have hcz25_2 : wc.cell? ⟨gb66001, 2, none⟩ = some (.int .i64 a0_2) := (blk_cell BK66001.out 2).trans rfl
      have hcz25_3 : wc.cell? ⟨gb66001, 3, none⟩ = some (.int .u32 a0_3) := (blk_cell BK66001.out 3).trans rfl
      have hcz25_4 : wc.cell? ⟨gb66001, 4, none⟩ = some (.slice A0_4 l0_4.length c0_4) := (blk_cell BK66001.out 4).trans rfl
      have hfz25_0 := blk_frozen BK66001.out 0
      have hfz25_1 := blk_frozen BK66001.out 1
      have hfz25_2 := blk_frozen BK66001.out 2
      have hfz25_3 := blk_frozen BK66001.out 3
      have hfz25_4 := blk_frozen BK66001.out 4
      go_wp2_with (first | (go_at_call 19; (with_reducible refine (dict_Sound.calls kj3 _ _ l0_4 a1 t66003 _ ?side1 ?side2 A24.out).mono ?_); (case side1 => repeat (first | exact (Kd.C_below HR0_4.out HB.out) | (with_reducible refine Kd.C_alloc ?_ _) | (with_reducible refine Kd.C_drewN ?_ _) | (with_reducible refine Kd.C_drew ?_))); (case side2 => exact HC0_4.out); rintro e w26 ⟨rfl, hb⟩; have n0_ := Aside0.mk (blk_below (g := gb66001) (o := .cells #[.string a0_0, .int .i64 a0_1, .int .i64 a0_2, .int .u32 a0_3, .slice A0_4 l0_4.length c0_4] 51 (0, 0)) (by (with_reducible repeat (first | refine blk_drewN ?_ _ | refine blk_drew ?_ | refine blk_alloc ?_ _)); exact BK66001.out) hb); have n1_ := Aside0.mk (below_step (by repeat (first | (with_reducible first | exact HB.out | apply below_alloc | apply pw_below_drewN | apply below_drew1 | refine below_set ?_ GE66001.out) | exact HB.out)) hb); clear BK66001; clear HB; have BK66001 := n0_; have HB := n1_; clear n0_ n1_; (try clear hb); (try clear hb2); (try clear hk); (try clear hi)))
      repeat (go_quiet (first | (go_at_call 19; (with_reducible refine (dict_Sound.calls kj3 _ _ l0_4 a1 t66003 _ ?side1 ?side2 A24.out).mono ?_); (case side1 => repeat (first | exact (Kd.C_below HR0_4.out HB.out) | (with_reducible refine Kd.C_alloc ?_ _) | (with_reducible refine Kd.C_drewN ?_ _) | (with_reducible refine Kd.C_drew ?_))); (case side2 => exact HC0_4.out); rintro e w26 ⟨rfl, hb⟩; have n0_ := Aside0.mk (blk_below (g := gb66001) (o := .cells #[.string a0_0, .int .i64 a0_1, .int .i64 a0_2, .int .u32 a0_3, .slice A0_4 l0_4.length c0_4] 51 (0, 0)) (by (with_reducible repeat (first | refine blk_drewN ?_ _ | refine blk_drew ?_ | refine blk_alloc ?_ _)); exact BK66001.out) hb); have n1_ := Aside0.mk (below_step (by repeat (first | (with_reducible first | exact HB.out | apply below_alloc | apply pw_below_drewN | apply below_drew1 | refine below_set ?_ GE66001.out) | exact HB.out)) hb); clear BK66001; clear HB; have BK66001 := n0_; have HB := n1_; clear n0_ n1_; (try clear hb); (try clear hb2); (try clear hk); (try clear hi))); try go_wp2_with (first | (go_at_call 19; (with_reducible refine (dict_Sound.calls kj3 _ _ l0_4 a1 t66003 _ ?side1 ?side2 A24.out).mono ?_); (case side1 => repeat (first | exact (Kd.C_below HR0_4.out HB.out) | (with_reducible refine Kd.C_alloc ?_ _) | (with_reducible refine Kd.C_drewN ?_ _) | (with_reducible refine Kd.C_drew ?_))); (case side2 => exact HC0_4.out); rintro e w26 ⟨rfl, hb⟩; have n0_ := Aside0.mk (blk_below (g := gb66001) (o := .cells #[.string a0_0, .int .i64 a0_1, .int .i64 a0_2, .int .u32 a0_3, .slice A0_4 l0_4.length c0_4] 51 (0, 0)) (by (with_reducible repeat (first | refine blk_drewN ?_ _ | refine blk_drew ?_ | refine blk_alloc ?_ _)); exact BK66001.out) hb); have n1_ := Aside0.mk (below_step (by repeat (first | (with_reducible first | exact HB.out | apply below_alloc | apply pw_below_drewN | apply below_drew1 | refine below_set ?_ GE66001.out) | exact HB.out)) hb); clear BK66001; clear HB; have BK66001 := n0_; have HB := n1_; clear n0_ n1_; (try clear hb); (try clear hb2); (try clear hk); (try clear hi))))
      go_ret
      exact ⟨by first | rfl | (simp [errW_none, errW_some] <;> rfl) | (simp [*, errW_none, errW_some] <;> rfl), by repeat (first | (with_reducible first | exact HB.out | apply below_alloc | apply pw_below_drewN | apply below_drew1 | refine below_set ?_ GE66001.out) | exact HB.out)⟩
     ·rw [if_neg c23] at H
      have c23b0 : (a0_3 == 0) = false := beq_eq_false_iff_ne.mpr c23
      have c23b1 : (a0_3 != 0) = true := bne_iff_ne.mpr c23
      obtain rfl := Option.some.inj H
      have hcz27_0 : wc.cell? ⟨gb66001, 0, none⟩ = some (.string a0_0) := (blk_cell BK66001.out 0).trans rfl
      have hcz27_1 : wc.cell? ⟨gb66001, 1, none⟩ = some (.int .i64 a0_1) := (blk_cell BK66001.out 1).trans rfl
      have hcz27_2 : wc.cell? ⟨gb66001, 2, none⟩ = some (.int .i64 a0_2) := (blk_cell BK66001.out 2).trans rfl
      have hcz27_3 : wc.cell? ⟨gb66001, 3, none⟩ = some (.int .u32 a0_3) := (blk_cell BK66001.out 3).trans rfl
      have hcz27_4 : wc.cell? ⟨gb66001, 4, none⟩ = some (.slice A0_4 l0_4.length c0_4) := (blk_cell BK66001.out 4).trans rfl
      have hfz27_0 := blk_frozen BK66001.out 0
      have hfz27_1 := blk_frozen BK66001.out 1
      have hfz27_2 := blk_frozen BK66001.out 2
      have hfz27_3 := blk_frozen BK66001.out 3
      have hfz27_4 := blk_frozen BK66001.out 4
      go_wp2
      repeat (go_quiet (fail); try go_wp2)
      go_ret
      exact ⟨by first | rfl | (simp [errW_none, errW_some] <;> rfl) | (simp [*, errW_none, errW_some] <;> rfl), by repeat (first | (with_reducible first | exact HB.out | apply below_alloc | apply pw_below_drewN | apply below_drew1 | refine below_set ?_ GE66001.out) | exact HB.out)⟩
    ·rw [if_neg c22] at H
     have c22b0 : (a0_2 == 2) = false := beq_eq_false_iff_ne.mpr c22
     have c22b1 : (a0_2 != 2) = true := bne_iff_ne.mpr c22
     by_cases c28 : a0_2 = 6
     ·rw [if_pos c28] at H
      have c28b0 : (a0_2 == 6) = true := beq_iff_eq.mpr c28
      have c28b1 : (a0_2 != 6) = false := bne_eq_false_iff_eq.mpr c28
      clear c28
      by_cases c29 : (l0_4.length : Int) = 0
      ·rw [if_pos c29] at H
       have c29b0 : ((l0_4.length : Int) == 0) = true := beq_iff_eq.mpr c29
       have c29b1 : ((l0_4.length : Int) != 0) = false := bne_eq_false_iff_eq.mpr c29
       clear c29
       obtain rfl := Option.some.inj H
       have hcz30_0 : wc.cell? ⟨gb66001, 0, none⟩ = some (.string a0_0) := (blk_cell BK66001.out 0).trans rfl
       have hcz30_1 : wc.cell? ⟨gb66001, 1, none⟩ = some (.int .i64 a0_1) := (blk_cell BK66001.out 1).trans rfl
       have hcz30_2 : wc.cell? ⟨gb66001, 2, none⟩ = some (.int .i64 a0_2) := (blk_cell BK66001.out 2).trans rfl
       have hcz30_3 : wc.cell? ⟨gb66001, 3, none⟩ = some (.int .u32 a0_3) := (blk_cell BK66001.out 3).trans rfl
       have hcz30_4 : wc.cell? ⟨gb66001, 4, none⟩ = some (.slice A0_4 l0_4.length c0_4) := (blk_cell BK66001.out 4).trans rfl
       have hfz30_0 := blk_frozen BK66001.out 0
       have hfz30_1 := blk_frozen BK66001.out 1
       have hfz30_2 := blk_frozen BK66001.out 2
       have hfz30_3 := blk_frozen BK66001.out 3
       have hfz30_4 := blk_frozen BK66001.out 4
       go_wp2
       repeat (go_quiet (fail); try go_wp2)
       go_ret
       exact ⟨by first | rfl | (simp [errW_none, errW_some] <;> rfl) | (simp [*, errW_none, errW_some] <;> rfl), by repeat (first | (with_reducible first | exact HB.out | apply below_alloc | apply pw_below_drewN | apply below_drew1 | refine below_set ?_ GE66001.out) | exact HB.out)⟩
      ·rw [if_neg c29] at H
       have c29b0 : ((l0_4.length : Int) == 0) = false := beq_eq_false_iff_ne.mpr c29
       have c29b1 : ((l0_4.length : Int) != 0) = true := bne_iff_ne.mpr c29
       have c29b2 : ¬ (l0_4 = []) := fun h_ => c29 (by rw [h_]; rfl)
       obtain rfl := Option.some.inj H
       have hcz31_0 : wc.cell? ⟨gb66001, 0, none⟩ = some (.string a0_0) := (blk_cell BK66001.out 0).trans rfl
       have hcz31_1 : wc.cell? ⟨gb66001, 1, none⟩ = some (.int .i64 a0_1) := (blk_cell BK66001.out 1).trans rfl
       have hcz31_2 : wc.cell? ⟨gb66001, 2, none⟩ = some (.int .i64 a0_2) := (blk_cell BK66001.out 2).trans rfl
       have hcz31_3 : wc.cell? ⟨gb66001, 3, none⟩ = some (.int .u32 a0_3) := (blk_cell BK66001.out 3).trans rfl
       have hcz31_4 : wc.cell? ⟨gb66001, 4, none⟩ = some (.slice A0_4 l0_4.length c0_4) := (blk_cell BK66001.out 4).trans rfl
       have hfz31_0 := blk_frozen BK66001.out 0
       have hfz31_1 := blk_frozen BK66001.out 1
       have hfz31_2 := blk_frozen BK66001.out 2
       have hfz31_3 := blk_frozen BK66001.out 3
       have hfz31_4 := blk_frozen BK66001.out 4
       go_wp2
       repeat (go_quiet (fail); try go_wp2)
       go_ret
       exact ⟨by first | rfl | (simp [errW_none, errW_some] <;> rfl) | (simp [*, errW_none, errW_some] <;> rfl), by repeat (first | (with_reducible first | exact HB.out | apply below_alloc | apply pw_below_drewN | apply below_drew1 | refine below_set ?_ GE66001.out) | exact HB.out)⟩
     ·rw [if_neg c28] at H
      have c28b0 : (a0_2 == 6) = false := beq_eq_false_iff_ne.mpr c28
      have c28b1 : (a0_2 != 6) = true := bne_iff_ne.mpr c28
      by_cases c32 : a0_2 = 7
      ·rw [if_pos c32] at H
       have c32b0 : (a0_2 == 7) = true := beq_iff_eq.mpr c32
       have c32b1 : (a0_2 != 7) = false := bne_eq_false_iff_eq.mpr c32
       clear c32
       by_cases c33 : (l0_4.length : Int) = 0
       ·rw [if_pos c33] at H
        have c33b0 : ((l0_4.length : Int) == 0) = true := beq_iff_eq.mpr c33
        have c33b1 : ((l0_4.length : Int) != 0) = false := bne_eq_false_iff_eq.mpr c33
        clear c33
        by_cases c34 : a0_1 ≥ 0
        ·rw [if_pos c34] at H
         have c34b0 : decide (0 ≤ a0_1) = true := decide_eq_true c34
         clear c34
         by_cases c35 : 0 ≤ a0_1
         ·rw [if_pos c35] at H
          have c35b0 : decide (0 ≤ a0_1) = true := decide_eq_true c35
          clear c35
          by_cases c36 : a0_1 < (l2.length : Int)
          ·rw [if_pos c36] at H
           have c36b0 : decide (a0_1 < (l2.length : Int)) = true := decide_eq_true c36
           clear c36
           obtain rfl := Option.some.inj H
           have hcz37_0 : wc.cell? ⟨gb66001, 0, none⟩ = some (.string a0_0) := (blk_cell BK66001.out 0).trans rfl
           have hcz37_1 : wc.cell? ⟨gb66001, 1, none⟩ = some (.int .i64 a0_1) := (blk_cell BK66001.out 1).trans rfl
           have hcz37_2 : wc.cell? ⟨gb66001, 2, none⟩ = some (.int .i64 a0_2) := (blk_cell BK66001.out 2).trans rfl
           have hcz37_3 : wc.cell? ⟨gb66001, 3, none⟩ = some (.int .u32 a0_3) := (blk_cell BK66001.out 3).trans rfl
           have hcz37_4 : wc.cell? ⟨gb66001, 4, none⟩ = some (.slice A0_4 l0_4.length c0_4) := (blk_cell BK66001.out 4).trans rfl
           have hfz37_0 := blk_frozen BK66001.out 0
           have hfz37_1 := blk_frozen BK66001.out 1
           have hfz37_2 := blk_frozen BK66001.out 2
           have hfz37_3 := blk_frozen BK66001.out 3
           have hfz37_4 := blk_frozen BK66001.out 4
           have p66004 : 0 ≤ (a0_1 : Int) := of_decide_eq_true (by first | (with_reducible assumption) | assumption)
           have q66004 : a0_1 < (l2.length : Int) := of_decide_eq_true (by first | (with_reducible assumption) | assumption)
           obtain ⟨ad66004, A66004_1, c66004_1, A66004_3, c66004_3, A66004_4, c66004_4, e66004, hx66004_0, hx66004_1, hx66004_2, hx66004_3, hx66004_4, hl66004_1, hi66004_1, hl66004_3, hi66004_3, hl66004_4, hi66004_4⟩ := at_T91 HR2.out a0_1 p66004 q66004
           cases e66004
           replace hx66004_0 := (HB.out.cell (World.block_lt_of_cell? w _ hx66004_0)).trans hx66004_0
           replace hx66004_1 := (HB.out.cell (World.block_lt_of_cell? w _ hx66004_1)).trans hx66004_1
           replace hx66004_2 := (HB.out.cell (World.block_lt_of_cell? w _ hx66004_2)).trans hx66004_2
           replace hx66004_3 := (HB.out.cell (World.block_lt_of_cell? w _ hx66004_3)).trans hx66004_3
           replace hx66004_4 := (HB.out.cell (World.block_lt_of_cell? w _ hx66004_4)).trans hx66004_4
           have HR66004_1 := Aside0.mk hi66004_1
           have HC66004_1 := Aside0.mk hl66004_1
           clear hi66004_1 hl66004_1
           have HR66004_3 := Aside0.mk hi66004_3
           have HC66004_3 := Aside0.mk hl66004_3
           clear hi66004_3 hl66004_3
           have HR66004_4 := Aside0.mk hi66004_4
           have HC66004_4 := Aside0.mk hl66004_4
           clear hi66004_4 hl66004_4
           replace p66004 := eq_true p66004
           replace q66004 := eq_true q66004
           go_wp2
           repeat (go_quiet (fail); try go_wp2)
           go_ret
           exact ⟨by first | rfl | (simp [errW_none, errW_some] <;> rfl) | (simp [*, errW_none, errW_some] <;> rfl), by repeat (first | (with_reducible first | exact HB.out | apply below_alloc | apply pw_below_drewN | apply below_drew1 | refine below_set ?_ GE66001.out) | exact HB.out)⟩
          ·rw [if_neg c36] at H
           exact absurd H (by simp)
         ·rw [if_neg c35] at H
          exact absurd H (by simp)
        ·rw [if_neg c34] at H
         have c34b0 : decide (0 ≤ a0_1) = false := decide_eq_false c34
         clear c34
         obtain rfl := Option.some.inj H
         have hcz38_0 : wc.cell? ⟨gb66001, 0, none⟩ = some (.string a0_0) := (blk_cell BK66001.out 0).trans rfl
         have hcz38_1 : wc.cell? ⟨gb66001, 1, none⟩ = some (.int .i64 a0_1) := (blk_cell BK66001.out 1).trans rfl
         have hcz38_2 : wc.cell? ⟨gb66001, 2, none⟩ = some (.int .i64 a0_2) := (blk_cell BK66001.out 2).trans rfl
         have hcz38_3 : wc.cell? ⟨gb66001, 3, none⟩ = some (.int .u32 a0_3) := (blk_cell BK66001.out 3).trans rfl
         have hcz38_4 : wc.cell? ⟨gb66001, 4, none⟩ = some (.slice A0_4 l0_4.length c0_4) := (blk_cell BK66001.out 4).trans rfl
         have hfz38_0 := blk_frozen BK66001.out 0
         have hfz38_1 := blk_frozen BK66001.out 1
         have hfz38_2 := blk_frozen BK66001.out 2
         have hfz38_3 := blk_frozen BK66001.out 3
         have hfz38_4 := blk_frozen BK66001.out 4
         go_wp2
         repeat (go_quiet (fail); try go_wp2)
         go_ret
         exact ⟨by first | rfl | (simp [errW_none, errW_some] <;> rfl) | (simp [*, errW_none, errW_some] <;> rfl), by repeat (first | (with_reducible first | exact HB.out | apply below_alloc | apply pw_below_drewN | apply below_drew1 | refine below_set ?_ GE66001.out) | exact HB.out)⟩
       ·rw [if_neg c33] at H
        have c33b0 : ((l0_4.length : Int) == 0) = false := beq_eq_false_iff_ne.mpr c33
        have c33b1 : ((l0_4.length : Int) != 0) = true := bne_iff_ne.mpr c33
        have c33b2 : ¬ (l0_4 = []) := fun h_ => c33 (by rw [h_]; rfl)
        obtain rfl := Option.some.inj H
        have hcz39_0 : wc.cell? ⟨gb66001, 0, none⟩ = some (.string a0_0) := (blk_cell BK66001.out 0).trans rfl
        have hcz39_1 : wc.cell? ⟨gb66001, 1, none⟩ = some (.int .i64 a0_1) := (blk_cell BK66001.out 1).trans rfl
        have hcz39_2 : wc.cell? ⟨gb66001, 2, none⟩ = some (.int .i64 a0_2) := (blk_cell BK66001.out 2).trans rfl
        have hcz39_3 : wc.cell? ⟨gb66001, 3, none⟩ = some (.int .u32 a0_3) := (blk_cell BK66001.out 3).trans rfl
        have hcz39_4 : wc.cell? ⟨gb66001, 4, none⟩ = some (.slice A0_4 l0_4.length c0_4) := (blk_cell BK66001.out 4).trans rfl
        have hfz39_0 := blk_frozen BK66001.out 0
        have hfz39_1 := blk_frozen BK66001.out 1
        have hfz39_2 := blk_frozen BK66001.out 2
        have hfz39_3 := blk_frozen BK66001.out 3
        have hfz39_4 := blk_frozen BK66001.out 4
        go_wp2
        repeat (go_quiet (fail); try go_wp2)
        go_ret
        exact ⟨by first | rfl | (simp [errW_none, errW_some] <;> rfl) | (simp [*, errW_none, errW_some] <;> rfl), by repeat (first | (with_reducible first | exact HB.out | apply below_alloc | apply pw_below_drewN | apply below_drew1 | refine below_set ?_ GE66001.out) | exact HB.out)⟩
      ·rw [if_neg c32] at H
       have c32b0 : (a0_2 == 7) = false := beq_eq_false_iff_ne.mpr c32
       have c32b1 : (a0_2 != 7) = true := bne_iff_ne.mpr c32
       by_cases c40 : a0_2 = 3
       ·rw [if_pos c40] at H
        have c40b0 : (a0_2 == 3) = true := beq_iff_eq.mpr c40
        have c40b1 : (a0_2 != 3) = false := bne_eq_false_iff_eq.mpr c40
        clear c40
        obtain rfl := Option.some.inj H
        have hcz41_0 : wc.cell? ⟨gb66001, 0, none⟩ = some (.string a0_0) := (blk_cell BK66001.out 0).trans rfl
        have hcz41_1 : wc.cell? ⟨gb66001, 1, none⟩ = some (.int .i64 a0_1) := (blk_cell BK66001.out 1).trans rfl
        have hcz41_2 : wc.cell? ⟨gb66001, 2, none⟩ = some (.int .i64 a0_2) := (blk_cell BK66001.out 2).trans rfl
        have hcz41_3 : wc.cell? ⟨gb66001, 3, none⟩ = some (.int .u32 a0_3) := (blk_cell BK66001.out 3).trans rfl
        have hcz41_4 : wc.cell? ⟨gb66001, 4, none⟩ = some (.slice A0_4 l0_4.length c0_4) := (blk_cell BK66001.out 4).trans rfl
        have hfz41_0 := blk_frozen BK66001.out 0
        have hfz41_1 := blk_frozen BK66001.out 1
        have hfz41_2 := blk_frozen BK66001.out 2
        have hfz41_3 := blk_frozen BK66001.out 3
        have hfz41_4 := blk_frozen BK66001.out 4
        go_wp2
        repeat (go_quiet (fail); try go_wp2)
        go_ret
        exact ⟨by first | rfl | (simp [errW_none, errW_some] <;> rfl) | (simp [*, errW_none, errW_some] <;> rfl), by repeat (first | (with_reducible first | exact HB.out | apply below_alloc | apply pw_below_drewN | apply below_drew1 | refine below_set ?_ GE66001.out) | exact HB.out)⟩
       ·rw [if_neg c40] at H
        have c40b0 : (a0_2 == 3) = false := beq_eq_false_iff_ne.mpr c40
        have c40b1 : (a0_2 != 3) = true := bne_iff_ne.mpr c40
        by_cases c42 : a0_2 = 4
        ·rw [if_pos c42] at H
         have c42b0 : (a0_2 == 4) = true := beq_iff_eq.mpr c42
         have c42b1 : (a0_2 != 4) = false := bne_eq_false_iff_eq.mpr c42
         clear c42
         obtain rfl := Option.some.inj H
         have hcz43_0 : wc.cell? ⟨gb66001, 0, none⟩ = some (.string a0_0) := (blk_cell BK66001.out 0).trans rfl
         have hcz43_1 : wc.cell? ⟨gb66001, 1, none⟩ = some (.int .i64 a0_1) := (blk_cell BK66001.out 1).trans rfl
         have hcz43_2 : wc.cell? ⟨gb66001, 2, none⟩ = some (.int .i64 a0_2) := (blk_cell BK66001.out 2).trans rfl
         have hcz43_3 : wc.cell? ⟨gb66001, 3, none⟩ = some (.int .u32 a0_3) := (blk_cell BK66001.out 3).trans rfl
         have hcz43_4 : wc.cell? ⟨gb66001, 4, none⟩ = some (.slice A0_4 l0_4.length c0_4) := (blk_cell BK66001.out 4).trans rfl
         have hfz43_0 := blk_frozen BK66001.out 0
         have hfz43_1 := blk_frozen BK66001.out 1
         have hfz43_2 := blk_frozen BK66001.out 2
         have hfz43_3 := blk_frozen BK66001.out 3
         have hfz43_4 := blk_frozen BK66001.out 4
         go_wp2
         repeat (go_quiet (fail); try go_wp2)
         go_ret
         exact ⟨by first | rfl | (simp [errW_none, errW_some] <;> rfl) | (simp [*, errW_none, errW_some] <;> rfl), by repeat (first | (with_reducible first | exact HB.out | apply below_alloc | apply pw_below_drewN | apply below_drew1 | refine below_set ?_ GE66001.out) | exact HB.out)⟩
        ·rw [if_neg c42] at H
         have c42b0 : (a0_2 == 4) = false := beq_eq_false_iff_ne.mpr c42
         have c42b1 : (a0_2 != 4) = true := bne_iff_ne.mpr c42
         by_cases c44 : a0_2 = 5
         ·rw [if_pos c44] at H
          have c44b0 : (a0_2 == 5) = true := beq_iff_eq.mpr c44
          have c44b1 : (a0_2 != 5) = false := bne_eq_false_iff_eq.mpr c44
          clear c44
          obtain rfl := Option.some.inj H
          have hcz45_0 : wc.cell? ⟨gb66001, 0, none⟩ = some (.string a0_0) := (blk_cell BK66001.out 0).trans rfl
          have hcz45_1 : wc.cell? ⟨gb66001, 1, none⟩ = some (.int .i64 a0_1) := (blk_cell BK66001.out 1).trans rfl
          have hcz45_2 : wc.cell? ⟨gb66001, 2, none⟩ = some (.int .i64 a0_2) := (blk_cell BK66001.out 2).trans rfl
          have hcz45_3 : wc.cell? ⟨gb66001, 3, none⟩ = some (.int .u32 a0_3) := (blk_cell BK66001.out 3).trans rfl
          have hcz45_4 : wc.cell? ⟨gb66001, 4, none⟩ = some (.slice A0_4 l0_4.length c0_4) := (blk_cell BK66001.out 4).trans rfl
          have hfz45_0 := blk_frozen BK66001.out 0
          have hfz45_1 := blk_frozen BK66001.out 1
          have hfz45_2 := blk_frozen BK66001.out 2
          have hfz45_3 := blk_frozen BK66001.out 3
          have hfz45_4 := blk_frozen BK66001.out 4
          go_wp2
          repeat (go_quiet (fail); try go_wp2)
          go_ret
          exact ⟨by first | rfl | (simp [errW_none, errW_some] <;> rfl) | (simp [*, errW_none, errW_some] <;> rfl), by repeat (first | (with_reducible first | exact HB.out | apply below_alloc | apply pw_below_drewN | apply below_drew1 | refine below_set ?_ GE66001.out) | exact HB.out)⟩
         ·rw [if_neg c44] at H
          have c44b0 : (a0_2 == 5) = false := beq_eq_false_iff_ne.mpr c44
          have c44b1 : (a0_2 != 5) = true := bne_iff_ne.mpr c44
          obtain rfl := Option.some.inj H
          have hcz46_0 : wc.cell? ⟨gb66001, 0, none⟩ = some (.string a0_0) := (blk_cell BK66001.out 0).trans rfl
          have hcz46_1 : wc.cell? ⟨gb66001, 1, none⟩ = some (.int .i64 a0_1) := (blk_cell BK66001.out 1).trans rfl
          have hcz46_2 : wc.cell? ⟨gb66001, 2, none⟩ = some (.int .i64 a0_2) := (blk_cell BK66001.out 2).trans rfl
          have hcz46_3 : wc.cell? ⟨gb66001, 3, none⟩ = some (.int .u32 a0_3) := (blk_cell BK66001.out 3).trans rfl
          have hcz46_4 : wc.cell? ⟨gb66001, 4, none⟩ = some (.slice A0_4 l0_4.length c0_4) := (blk_cell BK66001.out 4).trans rfl
          have hfz46_0 := blk_frozen BK66001.out 0
          have hfz46_1 := blk_frozen BK66001.out 1
          have hfz46_2 := blk_frozen BK66001.out 2
          have hfz46_3 := blk_frozen BK66001.out 3
          have hfz46_4 := blk_frozen BK66001.out 4
          go_wp2
          repeat (go_quiet (fail); try go_wp2)
          go_ret
          exact ⟨by first | rfl | (simp [errW_none, errW_some] <;> rfl) | (simp [*, errW_none, errW_some] <;> rfl), by repeat (first | (with_reducible first | exact HB.out | apply below_alloc | apply pw_below_drewN | apply below_drew1 | refine below_set ?_ GE66001.out) | exact HB.out)⟩

end Go.Proofs.Ytfpkakedlapmkaa.Q
end
section
set_option linter.unusedSimpArgs false
set_option linter.unusedVariables false
namespace Go.Proofs.Ytfpkakedlapmkaa.Q
open Go.RowKit Go.Proofs.YtfpkakedlapmkaaW.PrintWords Go.Proofs.YtfpkakedlapmkaaW.PrintLast Go.Proofs.YtfpkakedlapmkaaW.PrintMore
attribute [local go_sem] max2_int min2_int max_two min_two max_three min_three max_four min_four
def kindB (words : Int) (t : List S91) (x : S51) : Bool :=
 if x.f2 = 2 then (x.f3 == 0) && soundF x.f4 words else if x.f2 = 6 then ((x.f4.length : Int) == 0) && decide (wrap64 x.f3 < words)
 else if x.f2 = 7 then ((x.f4.length : Int) == 0) && (decide (0 ≤ x.f1) && decide (wrap64 x.f3 < ((rd_T91 t x.f1).f4.length : Int)))
 else if x.f2 = 3 ∨ x.f2 = 4 ∨ x.f2 = 5 then ((x.f4.length : Int) == 0) else false
def rightB (words : Int) (t : List S91) (x : S51) : Bool := ((x.f0.toList == ([] : List UInt8)) || dNamed x.f0) && (decide (-1 ≤ x.f1) && (decide (x.f1 < (t.length : Int)) && kindB words t x))
theorem rightj_eq (words : Int) (t : List S91) (x : S51) (b : Bool) (hb : b = false → -1 ≤ x.f1 ∧ x.f1 < (t.length : Int)) (k : Nat) (hk : 2001 ≤ k) : dict_right.j0 k words t b x.f0 x.f1 x.f2 x.f3 x.f4 = some (!b && kindB words t x) := by
 obtain ⟨k, rfl⟩ : ∃ m, k = m + 1 := ⟨k - 1, by omega⟩
 rw [dict_right.j0]
 cases b with
 | true => rfl
 | false =>
  obtain ⟨h1, h2⟩ := hb rfl
  rw [if_neg (by simp)]
  unfold kindB
  by_cases e2 : x.f2 = 2
  ·rw [if_pos e2, if_pos e2, dsound_eq _ _ _ (by omega), Option.bind_some]
   by_cases h : x.f3 = 0
   ·rw [if_pos h, beq_iff_eq.2 h]; rfl
   ·rw [if_neg h, beq_eq_false_iff_ne.2 h]; rfl
  rw [if_neg e2, if_neg e2]
  by_cases e6 : x.f2 = 6
  ·rw [if_pos e6, if_pos e6]
   by_cases h : (x.f4.length : Int) = 0
   ·rw [if_pos h, beq_iff_eq.2 h]; rfl
   ·rw [if_neg h, beq_eq_false_iff_ne.2 h]; rfl
  rw [if_neg e6, if_neg e6]
  by_cases e7 : x.f2 = 7
  ·rw [if_pos e7, if_pos e7]
   by_cases h : (x.f4.length : Int) = 0
   ·rw [if_pos h, beq_iff_eq.2 h]
    by_cases h0 : 0 ≤ x.f1
    ·rw [if_pos h0, if_pos h0, if_pos h2, decide_eq_true h0]; rfl
    ·rw [if_neg h0, decide_eq_false h0]; rfl
   ·rw [if_neg h, beq_eq_false_iff_ne.2 h]; rfl
  rw [if_neg e7, if_neg e7]
  by_cases e3 : x.f2 = 3
  ·rw [if_pos e3, if_pos (.inl e3)]; rfl
  rw [if_neg e3]
  by_cases e4 : x.f2 = 4
  ·rw [if_pos e4, if_pos (.inr (.inl e4))]; rfl
  rw [if_neg e4]
  by_cases e5 : x.f2 = 5
  ·rw [if_pos e5, if_pos (.inr (.inr e5))]; rfl
  rw [if_neg e5, if_neg (by omega)]
  rfl
theorem right_eq (words : Int) (t : List S91) (x : S51) (k : Nat) (hk : 2001 ≤ k) : dict_right.f k x.f0 x.f1 x.f2 x.f3 x.f4 words t = some (rightB words t x) := by
 have hj := fun (b : Bool) (h : b = false → -1 ≤ x.f1 ∧ x.f1 < (t.length : Int)) => rightj_eq words t x b h k hk
 have main : (if x.f1 < -1 then dict_right.j0 k words t true x.f0 x.f1 x.f2 x.f3 x.f4 else dict_right.j0 k words t (decide (x.f1 ≥ (t.length : Int))) x.f0 x.f1 x.f2 x.f3 x.f4) = some (decide (-1 ≤ x.f1) && (decide (x.f1 < (t.length : Int)) && kindB words t x)) := by
  by_cases h1 : x.f1 < -1
  ·rw [if_pos h1, hj true (fun h => by cases h), decide_eq_false (by omega : ¬ -1 ≤ x.f1)]; rfl
  ·rw [if_neg h1, decide_eq_true (by omega : -1 ≤ x.f1), hj _ (fun h => ⟨by omega, by have := of_decide_eq_false h; omega⟩)]
   by_cases h2 : x.f1 < (t.length : Int)
   ·rw [decide_eq_true h2, decide_eq_false (by omega)]; rfl
   ·rw [decide_eq_false h2, decide_eq_true (by omega)]; rfl
 unfold dict_right.f rightB
 by_cases h0 : x.f0.toList = ([] : List UInt8)
 ·rw [if_pos h0, main, beq_iff_eq.2 h0]; rfl
 ·rw [if_neg h0, show dict_Named.f x.f0 = some (dNamed x.f0) from rfl, Option.bind_some, beq_eq_false_iff_ne.2 h0, Bool.false_or]
  cases dNamed x.f0 with
  | true => rw [if_pos rfl, main]; rfl
  | false => rw [if_neg (by simp), hj true (fun h => by cases h)]; rfl
def badW (words : Int) (t : List S91) (x : S51) : Bool := !rightB words t x
set_option maxHeartbeats 2000000 in
set_option maxRecDepth 100000 in
theorem rightC_calls (x : S51) (A4 : Option Addr) (c4 : Nat) (gb : Nat) (v0 v1 : Value) (A2 : Option Addr) (n2 c2 : Nat) (v3 : Value) (a4 : Int) (A5 : Option Addr) (t : List S91) (c5 : Nat) (a6 : Int) (v7 : Value) (a8 : Int) (a9 : ByteArray) (w : World) (hh : w.heap[gb]? = some (.cells #[v0, v1, .slice A2 n2 c2, v3, .int .u32 a4, .slice A5 t.length c5, .int .i64 a6, v7, .int .i64 a8, .string a9] 32 (0, 0)))
  (hx : Kd.C k69 w A4 x.f4.length x.f4) (hxc : x.f4.length ≤ c4) (ht : Kd.C k91 w A5 t.length t) (htc : t.length ≤ c5) :
  Calls Try.prog 80 #[.agg #[.string x.f0, .int .i64 x.f1, .int .i64 x.f2, .int .u32 x.f3, .slice A4 x.f4.length c4], .pointer (some ⟨gb, 0, none⟩)] w fun e w' => e = .returned (.bool (badW n2 t x)) ∧ Below w.heap.size w w' := by
 have hu32 := Try.underlying32
 have hu51 := Try.underlying51
 have HH := Aside0.mk hh
 have HLT := Aside0.mk (blk_lt hh)
 have HRT := Aside0.mk (fun (W : World) (hb : Below w.heap.size w W) => dict_right.calls 2001 x.f0 x.f1 x.f2 x.f3 A4 c4 x.f4 n2 A5 c5 t (rightB n2 t x) W (Kd.C_below hx hb) hxc (Kd.C_below ht hb) htc (right_eq n2 t x _ (Nat.le_refl _)))
 clear hh hx hxc ht htc
 unfold badW
 generalize rightB n2 t x = rb at HRT ⊢
 go_enter Try.func80, Try.ntmps80
 go_wp2_with (first
  | ((with_reducible refine gate_dst (N := 2) rfl ?_); refine box_event ?hg (N := 2) ?hd (cs := #[.string x.f0, .int .i64 x.f1, .int .i64 x.f2, .int .u32 x.f3, .slice A4 x.f4.length c4]) (t := 51) ?hr ?_; (case hd => rfl); (case hg => rfl); (case hr => first | (go_simp; done) | (go_simp; rfl)); intro ga hga w1 hbox hb; have BK := Aside0.mk hbox; have hz0 := (blk_cell BK.out 0).trans rfl; have hf0 := blk_frozen BK.out 0; have hz1 := (blk_cell BK.out 1).trans rfl; have hf1 := blk_frozen BK.out 1; have hz2 := (blk_cell BK.out 2).trans rfl; have hf2 := blk_frozen BK.out 2; have hz3 := (blk_cell BK.out 3).trans rfl; have hf3 := blk_frozen BK.out 3; have hz4 := (blk_cell BK.out 4).trans rfl; have hf4 := blk_frozen BK.out 4; have hs2 : w1.cell? ⟨gb, 2, none⟩ = some (.slice A2 n2 c2) := (hb.cell (p := ⟨gb, 2, none⟩) HLT.out).trans ((blk_cell HH.out 2).trans rfl); have hs5 : w1.cell? ⟨gb, 5, none⟩ = some (.slice A5 t.length c5) := (hb.cell (p := ⟨gb, 5, none⟩) HLT.out).trans ((blk_cell HH.out 5).trans rfl); have HB := Aside0.mk hb; clear hbox hb hga)
  | (go_at_call 65; (with_reducible refine (HRT.out _ HB.out).mono ?_); rintro e w2 ⟨rfl, hb⟩; have HB2 := Aside0.mk (below_step HB.out hb); clear hb))
 go_ret
 exact ⟨rfl, HB2.out⟩
set_option maxHeartbeats 2000000 in
set_option maxRecDepth 100000 in
theorem indexWord_calls (gb : Nat) (v0 v1 : Value) (A2 : Option Addr) (n2 c2 : Nat) (v3 : Value) (a4 : Int) (A5 : Option Addr) (t : List S91) (c5 : Nat) (a6 : Int) (v7 : Value) (a8 : Int) (a9 : ByteArray) (A : Option Addr) (c : Nat) (l : List S51) (w : World) (hC : Kd.C k51 w A l.length l) (hh : w.heap[gb]? = some (.cells #[v0, v1, .slice A2 n2 c2, v3, .int .u32 a4, .slice A5 t.length c5, .int .i64 a6, v7, .int .i64 a8, .string a9] 32 (0, 0))) (ht : Kd.C k91 w A5 t.length t) (htc : t.length ≤ c5) :
  Calls Try.prog 97 #[.slice A l.length c, .func (.func 80) #[] #[.pointer (some ⟨gb, 0, none⟩)]] w fun e w' => e = .returned (.int .i64 (idxP (badW n2 t) l)) ∧ Below w.heap.size w w' := by
 have hu51 := Try.underlying51
 have t1 := blk_lt hh
 have HC := Aside0.mk hC
 have HF := Aside0.mk (fun (x : S51) (A4 : Option Addr) (c4 : Nat) (W : World) (hb : Below w.heap.size w W) (hx : Kd.C k69 W A4 x.f4.length x.f4) (hxc : x.f4.length ≤ c4) => rightC_calls x A4 c4 gb v0 v1 A2 n2 c2 v3 a4 A5 t c5 a6 v7 a8 a9 W (by rw [hb.block gb t1]; exact hh) hx hxc (Kd.C_below ht hb) htc)
 clear hC hh ht htc
 go_enter Try.func97, Try.ntmps97
 go_wp2
 go_loopg [8] l.length (fun kq v8 w' => ∃ i : Int, v8 = .int .i64 i ∧ Aside0 (0 ≤ i ∧ i + kq = l.length) ∧ Aside0 (∀ j : Nat, j < i.toNat → (badW n2 t) (l.getD j z51) = false) ∧ Aside0 (Below w.heap.size w w'))
 case atStart => exact ⟨0, rfl, ⟨by omega, by omega⟩, ⟨fun j hj => absurd hj (by simp)⟩, ⟨Below.refl _ _⟩⟩
 case round =>
  obtain ⟨i, rfl, HI, HZ, HB⟩ := hrel
  cases gk with
  | zero =>
   have hlt : decide (i < (l.length : Int)) = false := decide_eq_false (by have := HI.out; omega)
   go_wp2
   go_ret
   have hz := HZ.out
   have hi := HI.out
   refine ⟨?_, HB.out⟩
   rw [idxP_drop (badW n2 t) z51 l i.toNat hz, List.drop_eq_nil_of_le (by omega)]
   rfl
  | succ k1 =>
   have hi := HI.out
   have hm := Kd.C_max HC.out
   have hlt : decide (i < (l.length : Int)) = true := decide_eq_true (by omega)
   have p1 : (0 ≤ i) = True := eq_true (by omega)
   have p2 : (i < (l.length : Int)) = True := eq_true (by omega)
   obtain ⟨ad, A4, c4, eA, hx0, hx1, hx2, hx3, hx4, hl4, hg4⟩ := at_T51 (Kd.C_below HC.out HB.out) i (by omega) (by omega)
   cases eA
   have HGD := Aside0.mk (show rd_T51 l i = l.getD i.toNat z51 from rfl)
   have HIN := Aside0.mk (show (badW n2 t) (rd_T51 l i) = true → idxP (badW n2 t) l = i from fun h => by
    rw [idxP_here (badW n2 t) z51 l i.toNat HZ.out (by omega) h]
    omega)
   have hwr : IntKind.i64.wrap (i + 1) = i + 1 := (i64_w _).trans (by unfold wrap64; omega)
   have hwr2 : wrap64 (i + 1) = i + 1 := by unfold wrap64; omega
   have HG1 := Aside0.mk hg4; have HL1 := Aside0.mk hl4; clear hl4 hg4
   clear hi hm
   obtain ⟨b, hb0⟩ : ∃ b, b = (badW n2 t) (rd_T51 l i) := ⟨_, rfl⟩
   have HBP := Aside0.mk hb0
   cases b with
   | true =>
    clear hb0
    go_wp2_with (first
     | (go_at_call 80; (with_reducible refine (HF.out (rd_T51 l i) A4 c4 _ HB.out HG1.out HL1.out).mono ?_); rintro e w2 ⟨rfl, hb⟩; rw [← HBP.out]; have HB2 := Aside0.mk (below_step HB.out hb); clear hb))
    go_ret
    exact ⟨by rw [HIN.out HBP.out.symm]; rfl, HB2.out⟩
   | false =>
    clear hb0
    go_wp2_with (first
     | (go_at_call 80; (with_reducible refine (HF.out (rd_T51 l i) A4 c4 _ HB.out HG1.out HL1.out).mono ?_); rintro e w2 ⟨rfl, hb⟩; rw [← HBP.out]; have HB2 := Aside0.mk (below_step HB.out hb); clear hb))
    go_roundg k1
    case measure => omega
    case rel =>
     have hi := HI.out
     refine ⟨i + 1, rfl, ⟨by omega, by omega⟩, ⟨fun j hj => ?_⟩, HB2⟩
     by_cases hji : j = i.toNat
     ·subst hji
      rw [← HGD.out]
      exact HBP.out.symm
     ·exact HZ.out j (by omega)
theorem containsWord_calls (gb : Nat) (v0 v1 : Value) (A2 : Option Addr) (n2 c2 : Nat) (v3 : Value) (a4 : Int) (A5 : Option Addr) (t : List S91) (c5 : Nat) (a6 : Int) (v7 : Value) (a8 : Int) (a9 : ByteArray) (A : Option Addr) (c : Nat) (l : List S51) (w : World) (hC : Kd.C k51 w A l.length l) (hh : w.heap[gb]? = some (.cells #[v0, v1, .slice A2 n2 c2, v3, .int .u32 a4, .slice A5 t.length c5, .int .i64 a6, v7, .int .i64 a8, .string a9] 32 (0, 0))) (ht : Kd.C k91 w A5 t.length t) (htc : t.length ≤ c5) :
  Calls Try.prog 79 #[.slice A l.length c, .func (.func 80) #[] #[.pointer (some ⟨gb, 0, none⟩)]] w fun e w' => e = .returned (.bool (l.any (badW n2 t))) ∧ Below w.heap.size w w' := by
 have HIX := Aside0.mk (indexWord_calls gb v0 v1 A2 n2 c2 v3 a4 A5 t c5 a6 v7 a8 a9 A c l w hC hh ht htc)
 have HAN := Aside0.mk (idxP_any (badW n2 t) l)
 clear hC hh ht htc
 go_enter Try.func79, Try.ntmps79
 go_wp2_with (go_at_call 97; refine HIX.out.mono ?_; rintro e w1 ⟨rfl, hb⟩; have HB := Aside0.mk hb; clear hb)
 go_ret
 exact ⟨by rw [← HAN.out]; rfl, HB.out⟩
def wildB (n : Nat) (x : Int) : Bool := decide (x < -1) || decide ((n : Int) ≤ x)
set_option maxHeartbeats 2000000 in
set_option maxRecDepth 100000 in
theorem wildC_calls (x : Int) (gb : Nat) (v0 v1 : Value) (A2 : Option Addr) (n2 c2 : Nat) (v3 : Value) (a4 : Int) (A5 : Option Addr) (t : List S91) (c5 : Nat) (a6 : Int) (v7 : Value) (a8 : Int) (a9 : ByteArray) (w : World) (hh : w.heap[gb]? = some (.cells #[v0, v1, .slice A2 n2 c2, v3, .int .u32 a4, .slice A5 t.length c5, .int .i64 a6, v7, .int .i64 a8, .string a9] 32 (0, 0))) :
  Calls Try.prog 45 #[.int .i64 x, .pointer (some ⟨gb, 0, none⟩)] w fun e w' => e = .returned (.bool (wildB n2 x)) ∧ Below w.heap.size w w' := by
 have hu32 := Try.underlying32
 have hs2 : w.cell? ⟨gb, 2, none⟩ = some (.slice A2 n2 c2) := (blk_cell hh 2).trans rfl
 have hf2 := blk_frozen hh 2
 clear hh
 unfold wildB
 cases d : decide (x < -1)
 all_goals (
  go_enter Try.func45, Try.ntmps45
  go_wp2
  go_ret
  exact ⟨by simp, Below.refl _ _⟩)
set_option maxHeartbeats 2000000 in
set_option maxRecDepth 100000 in
theorem indexInt_calls (gb : Nat) (v0 v1 : Value) (A2 : Option Addr) (n2 c2 : Nat) (v3 : Value) (a4 : Int) (A5 : Option Addr) (t : List S91) (c5 : Nat) (a6 : Int) (v7 : Value) (a8 : Int) (a9 : ByteArray) (A : Option Addr) (c : Nat) (l : List Int) (w : World) (hC : Kd.C (Kd.int .i64) w A l.length l) (hh : w.heap[gb]? = some (.cells #[v0, v1, .slice A2 n2 c2, v3, .int .u32 a4, .slice A5 t.length c5, .int .i64 a6, v7, .int .i64 a8, .string a9] 32 (0, 0))) :
  Calls Try.prog 81 #[.slice A l.length c, .func (.func 45) #[] #[.pointer (some ⟨gb, 0, none⟩)]] w fun e w' => e = .returned (.int .i64 (idxP (wildB n2) l)) ∧ Below w.heap.size w w' := by
 have t1 := blk_lt hh
 have HC := Aside0.mk hC
 have HF := Aside0.mk (fun (x : Int)  (W : World) (hb : Below w.heap.size w W)  => wildC_calls x gb v0 v1 A2 n2 c2 v3 a4 A5 t c5 a6 v7 a8 a9 W (by rw [hb.block gb t1]; exact hh))
 clear hC hh
 go_enter Try.func81, Try.ntmps81
 go_wp2
 go_loopg [8] l.length (fun kq v8 w' => ∃ i : Int, v8 = .int .i64 i ∧ Aside0 (0 ≤ i ∧ i + kq = l.length) ∧ Aside0 (∀ j : Nat, j < i.toNat → (wildB n2) (l.getD j (0 : Int)) = false) ∧ Aside0 (Below w.heap.size w w'))
 case atStart => exact ⟨0, rfl, ⟨by omega, by omega⟩, ⟨fun j hj => absurd hj (by simp)⟩, ⟨Below.refl _ _⟩⟩
 case round =>
  obtain ⟨i, rfl, HI, HZ, HB⟩ := hrel
  cases gk with
  | zero =>
   have hlt : decide (i < (l.length : Int)) = false := decide_eq_false (by have := HI.out; omega)
   go_wp2
   go_ret
   have hz := HZ.out
   have hi := HI.out
   refine ⟨?_, HB.out⟩
   rw [idxP_drop (wildB n2) (0 : Int) l i.toNat hz, List.drop_eq_nil_of_le (by omega)]
   rfl
  | succ k1 =>
   have hi := HI.out
   have hm := Kd.C_max HC.out
   have hlt : decide (i < (l.length : Int)) = true := decide_eq_true (by omega)
   have p1 : (0 ≤ i) = True := eq_true (by omega)
   have p2 : (i < (l.length : Int)) = True := eq_true (by omega)
   obtain ⟨ad, eA, hx0⟩ := Kd.at_int (Kd.C_below HC.out HB.out) i (by omega) (by omega)
   cases eA
   have HGD := Aside0.mk (show rd l i = l.getD i.toNat (0 : Int) from rfl)
   have HIN := Aside0.mk (show (wildB n2) (rd l i) = true → idxP (wildB n2) l = i from fun h => by
    rw [idxP_here (wildB n2) (0 : Int) l i.toNat HZ.out (by omega) h]
    omega)
   have hwr : IntKind.i64.wrap (i + 1) = i + 1 := (i64_w _).trans (by unfold wrap64; omega)
   have hwr2 : wrap64 (i + 1) = i + 1 := by unfold wrap64; omega
   skip
   clear hi hm
   obtain ⟨b, hb0⟩ : ∃ b, b = (wildB n2) (rd l i) := ⟨_, rfl⟩
   have HBP := Aside0.mk hb0
   cases b with
   | true =>
    clear hb0
    go_wp2_with (first
     | (go_at_call 45; (with_reducible refine (HF.out (rd l i)  _ HB.out ).mono ?_); rintro e w2 ⟨rfl, hb⟩; rw [← HBP.out]; have HB2 := Aside0.mk (below_step HB.out hb); clear hb))
    go_ret
    exact ⟨by rw [HIN.out HBP.out.symm]; rfl, HB2.out⟩
   | false =>
    clear hb0
    go_wp2_with (first
     | (go_at_call 45; (with_reducible refine (HF.out (rd l i)  _ HB.out ).mono ?_); rintro e w2 ⟨rfl, hb⟩; rw [← HBP.out]; have HB2 := Aside0.mk (below_step HB.out hb); clear hb))
    go_roundg k1
    case measure => omega
    case rel =>
     have hi := HI.out
     refine ⟨i + 1, rfl, ⟨by omega, by omega⟩, ⟨fun j hj => ?_⟩, HB2⟩
     by_cases hji : j = i.toNat
     ·subst hji
      rw [← HGD.out]
      exact HBP.out.symm
     ·exact HZ.out j (by omega)
theorem containsInt_calls (gb : Nat) (v0 v1 : Value) (A2 : Option Addr) (n2 c2 : Nat) (v3 : Value) (a4 : Int) (A5 : Option Addr) (t : List S91) (c5 : Nat) (a6 : Int) (v7 : Value) (a8 : Int) (a9 : ByteArray) (A : Option Addr) (c : Nat) (l : List Int) (w : World) (hC : Kd.C (Kd.int .i64) w A l.length l) (hh : w.heap[gb]? = some (.cells #[v0, v1, .slice A2 n2 c2, v3, .int .u32 a4, .slice A5 t.length c5, .int .i64 a6, v7, .int .i64 a8, .string a9] 32 (0, 0))) :
  Calls Try.prog 48 #[.slice A l.length c, .func (.func 45) #[] #[.pointer (some ⟨gb, 0, none⟩)]] w fun e w' => e = .returned (.bool (l.any (wildB n2))) ∧ Below w.heap.size w w' := by
 have HIX := Aside0.mk (indexInt_calls gb v0 v1 A2 n2 c2 v3 a4 A5 t c5 a6 v7 a8 a9 A c l w hC hh)
 have HAN := Aside0.mk (idxP_any (wildB n2) l)
 clear hC hh
 go_enter Try.func48, Try.ntmps48
 go_wp2_with (go_at_call 81; refine HIX.out.mono ?_; rintro e w1 ⟨rfl, hb⟩; have HB := Aside0.mk hb; clear hb)
 go_ret
 exact ⟨by rw [← HAN.out]; rfl, HB.out⟩
end Go.Proofs.Ytfpkakedlapmkaa.Q
end
