/- Contracts of Go functions and plain facts, of several texts, one behind the other; no condition. -/
import Derived.Test.YtefhngadeimklaaDoorMVarsLoads2
section
namespace Go.Proofs.YtefhngadeimklaaDoor.Q
open Go.RowKit Go.Proofs.YtefhngadeimklaaDoorW.PrintWords Go.Proofs.YtefhngadeimklaaDoorW.PrintLast Go.Proofs.YtefhngadeimklaaDoorW.PrintMore
set_option linter.unusedVariables false
set_option linter.unusedSimpArgs false

attribute [local go_sem] max2_int min2_int max_two min_two max_three min_three max_four min_four
/-! ### vars_variable_form: function 45 -/
def vars_variable_form.l0 : Nat → ByteArray → Int → Int → Option (ByteArray × Bool)
  | 0, _, _, _ => none
  | k + 1, x1, x38, x39 => if x39 < x38 then (if 0 ≤ x39 then (if x39 < (x1.size : Int) then (if (bt x1 x39) < 32 then (some ((⟨#[]⟩ : ByteArray), false)) else (if (bt x1 x39) > 126 then (some ((⟨#[]⟩ : ByteArray), false)) else (vars_variable_form.l0 k x1 x38 (wrap64 (x39 + 1))))) else (none)) else (none)) else (some (x1, decide ((x1.size : Int) ≤ 128)))
def vars_variable_form.f (k : Nat) (a0_0 : ByteArray) (a0_1 : Int) (a0_2 : ByteArray) (a1 : ByteArray) : Option (ByteArray × Bool) := if a0_1 = 0 then (if a1.toList = ([116, 114, 117, 101] : List UInt8) then (some (a1, true)) else (some (a1, (a1.toList == ([102, 97, 108, 115, 101] : List UInt8))))) else (if a0_1 = 1 then ((digit_Parse.f k a1 10).bind fun bt46002 => (if bt46002.2 = 0 then ((digit_Show.f bt46002.1 10).bind fun bt46004 => (some (bt46004.1, (bt46004.2 == 0)))) else (some ((⟨#[]⟩ : ByteArray), false)))) else (vars_variable_form.l0 k a1 (a1.size : Int) 0))
set_option maxHeartbeats 8000000 in
set_option maxRecDepth 100000 in
theorem vars_variable_form.calls (k : Nat) (a0_0 : ByteArray) (a0_1 : Int) (a0_2 : ByteArray) (a1 : ByteArray) (r1 : ByteArray) (r2 : Bool) (w : World) (ht : Tabs w) (h : vars_variable_form.f k a0_0 a0_1 a0_2 a1 = some (r1, r2)) :
    Calls Tryd.prog 45 #[.agg #[.string a0_0, .int .i64 a0_1, .string a0_2], .string a1] w fun e w' => e = .returned (.tuple #[.string r1, .bool r2]) ∧ Below w.heap.size w w' := by
  have hu57 := Tryd.underlying57
  have HB := Aside0.mk (Below.refl w.heap.size w)
  have H : (if a0_1 = 0 then (if a1.toList = ([116, 114, 117, 101] : List UInt8) then (some (a1, true)) else (some (a1, (a1.toList == ([102, 97, 108, 115, 101] : List UInt8))))) else (if a0_1 = 1 then ((digit_Parse.f k a1 10).bind fun bt46002 => (if bt46002.2 = 0 then ((digit_Show.f bt46002.1 10).bind fun bt46004 => (some (bt46004.1, (bt46004.2 == 0)))) else (some ((⟨#[]⟩ : ByteArray), false)))) else (vars_variable_form.l0 k a1 (a1.size : Int) 0))) = some (r1, r2) := h
  clear h
  by_cases c3 : a0_1 = 0
  · rw [if_pos c3] at H
    have c3b0 : (a0_1 == 0) = true := beq_iff_eq.mpr c3
    have c3b1 : (a0_1 != 0) = false := bne_eq_false_iff_eq.mpr c3
    clear c3
    by_cases c4 : a1.toList = ([116, 114, 117, 101] : List UInt8)
    · rw [if_pos c4] at H
      have c4b0 : (a1.toList == ([116, 114, 117, 101] : List UInt8)) = true := beq_iff_eq.mpr c4
      have c4b1 : (a1.toList != ([116, 114, 117, 101] : List UInt8)) = false := bne_eq_false_iff_eq.mpr c4
      clear c4
      simp only [Option.some.injEq, Prod.mk.injEq] at H
      obtain ⟨rfl, rfl⟩ := H
      go_enter Tryd.func45, Tryd.ntmps45
      go_wp2_with (first | ((with_reducible refine gate_dst (N := 2) rfl ?_); refine box_event ?hg (N := 2) ?hd (cs := #[.string a0_0, .int .i64 a0_1, .string a0_2]) (t := 57) ?hr ?_; (case hd => rfl); (case hg => rfl); (case hr => first | (go_simp; done) | (go_simp; rfl)); intro gb46001 hg w5 hbox hb; have n0_ := Aside0.mk (below_step (by repeat (first | (with_reducible first | exact HB.out | apply below_alloc | apply pw_below_drewN | apply below_drew1) | exact HB.out)) hb); have n1_ := Aside0.mk (hbox); have n2_ := Aside0.mk ((by rw [hg]; exact (below_size (by repeat (first | (with_reducible first | exact HB.out | apply below_alloc | apply pw_below_drewN | apply below_drew1) | exact HB.out))) : w.heap.size ≤ gb46001)); have n3_ := Aside0.mk ((by rw [hg]; exact (below_size (by repeat (first | (with_reducible first | exact HB.out | apply below_alloc | apply pw_below_drewN | apply below_drew1) | exact HB.out))) : w.heap.size ≤ gb46001)); clear HB; have HB := n0_; have BK46001 := n1_; have GW46001 := n2_; have GE46001 := n3_; clear n0_ n1_ n2_ n3_; clear hb hbox hg; have hcz6_0 : w5.cell? ⟨gb46001, 0, none⟩ = some (.string a0_0) := (blk_cell BK46001.out 0).trans rfl; have hcz6_1 : w5.cell? ⟨gb46001, 1, none⟩ = some (.int .i64 a0_1) := (blk_cell BK46001.out 1).trans rfl; have hcz6_2 : w5.cell? ⟨gb46001, 2, none⟩ = some (.string a0_2) := (blk_cell BK46001.out 2).trans rfl; have hfz6_0 := blk_frozen BK46001.out 0; have hfz6_1 := blk_frozen BK46001.out 1; have hfz6_2 := blk_frozen BK46001.out 2))
      go_ret2
      exact ⟨by first | rfl | (simp [errW_none, errW_some] <;> rfl) | (simp [*, errW_none, errW_some] <;> rfl), by repeat (first | (with_reducible first | exact HB.out | apply below_alloc | apply pw_below_drewN | apply below_drew1 | refine below_set ?_ GE46001.out) | exact HB.out)⟩
    · rw [if_neg c4] at H
      have c4b0 : (a1.toList == ([116, 114, 117, 101] : List UInt8)) = false := beq_eq_false_iff_ne.mpr c4
      have c4b1 : (a1.toList != ([116, 114, 117, 101] : List UInt8)) = true := bne_iff_ne.mpr c4
      simp only [Option.some.injEq, Prod.mk.injEq] at H
      obtain ⟨rfl, rfl⟩ := H
      go_enter Tryd.func45, Tryd.ntmps45
      go_wp2_with (first | ((with_reducible refine gate_dst (N := 2) rfl ?_); refine box_event ?hg (N := 2) ?hd (cs := #[.string a0_0, .int .i64 a0_1, .string a0_2]) (t := 57) ?hr ?_; (case hd => rfl); (case hg => rfl); (case hr => first | (go_simp; done) | (go_simp; rfl)); intro gb46001 hg w7 hbox hb; have n0_ := Aside0.mk (below_step (by repeat (first | (with_reducible first | exact HB.out | apply below_alloc | apply pw_below_drewN | apply below_drew1) | exact HB.out)) hb); have n1_ := Aside0.mk (hbox); have n2_ := Aside0.mk ((by rw [hg]; exact (below_size (by repeat (first | (with_reducible first | exact HB.out | apply below_alloc | apply pw_below_drewN | apply below_drew1) | exact HB.out))) : w.heap.size ≤ gb46001)); have n3_ := Aside0.mk ((by rw [hg]; exact (below_size (by repeat (first | (with_reducible first | exact HB.out | apply below_alloc | apply pw_below_drewN | apply below_drew1) | exact HB.out))) : w.heap.size ≤ gb46001)); clear HB; have HB := n0_; have BK46001 := n1_; have GW46001 := n2_; have GE46001 := n3_; clear n0_ n1_ n2_ n3_; clear hb hbox hg; have hcz8_0 : w7.cell? ⟨gb46001, 0, none⟩ = some (.string a0_0) := (blk_cell BK46001.out 0).trans rfl; have hcz8_1 : w7.cell? ⟨gb46001, 1, none⟩ = some (.int .i64 a0_1) := (blk_cell BK46001.out 1).trans rfl; have hcz8_2 : w7.cell? ⟨gb46001, 2, none⟩ = some (.string a0_2) := (blk_cell BK46001.out 2).trans rfl; have hfz8_0 := blk_frozen BK46001.out 0; have hfz8_1 := blk_frozen BK46001.out 1; have hfz8_2 := blk_frozen BK46001.out 2))
      go_ret2
      exact ⟨by first | rfl | (simp [errW_none, errW_some] <;> rfl) | (simp [*, errW_none, errW_some] <;> rfl), by repeat (first | (with_reducible first | exact HB.out | apply below_alloc | apply pw_below_drewN | apply below_drew1 | refine below_set ?_ GE46001.out) | exact HB.out)⟩
  · rw [if_neg c3] at H
    have c3b0 : (a0_1 == 0) = false := beq_eq_false_iff_ne.mpr c3
    have c3b1 : (a0_1 != 0) = true := bne_iff_ne.mpr c3
    by_cases c9 : a0_1 = 1
    · rw [if_pos c9] at H
      have c9b0 : (a0_1 == 1) = true := beq_iff_eq.mpr c9
      have c9b1 : (a0_1 != 1) = false := bne_eq_false_iff_eq.mpr c9
      clear c9
      replace H := Option.bind_eq_some_iff.mp H
      obtain ⟨⟨t46002, t46003⟩, A100, H⟩ := H
      replace H : (if t46003 = 0 then ((digit_Show.f t46002 10).bind fun bt46004 => (some (bt46004.1, (bt46004.2 == 0)))) else (some ((⟨#[]⟩ : ByteArray), false))) = some (r1, r2) := H
      have A10 := Aside0.mk A100
      clear A100
      by_cases c11 : t46003 = 0
      · rw [if_pos c11] at H
        have c11b0 : (t46003 == 0) = true := beq_iff_eq.mpr c11
        have c11b1 : (t46003 != 0) = false := bne_eq_false_iff_eq.mpr c11
        clear c11
        replace H := Option.bind_eq_some_iff.mp H
        obtain ⟨⟨t46004, t46005⟩, A120, H⟩ := H
        replace H : (some (t46004, (t46005 == 0))) = some (r1, r2) := H
        have A12 := Aside0.mk A120
        clear A120
        simp only [Option.some.injEq, Prod.mk.injEq] at H
        obtain ⟨rfl, rfl⟩ := H
        go_enter Tryd.func45, Tryd.ntmps45
        go_wp2_with (first | ((with_reducible refine gate_dst (N := 2) rfl ?_); refine box_event ?hg (N := 2) ?hd (cs := #[.string a0_0, .int .i64 a0_1, .string a0_2]) (t := 57) ?hr ?_; (case hd => rfl); (case hg => rfl); (case hr => first | (go_simp; done) | (go_simp; rfl)); intro gb46001 hg w13 hbox hb; have n0_ := Aside0.mk (below_step (by repeat (first | (with_reducible first | exact HB.out | apply below_alloc | apply pw_below_drewN | apply below_drew1) | exact HB.out)) hb); have n1_ := Aside0.mk (hbox); have n2_ := Aside0.mk ((by rw [hg]; exact (below_size (by repeat (first | (with_reducible first | exact HB.out | apply below_alloc | apply pw_below_drewN | apply below_drew1) | exact HB.out))) : w.heap.size ≤ gb46001)); have n3_ := Aside0.mk ((by rw [hg]; exact (below_size (by repeat (first | (with_reducible first | exact HB.out | apply below_alloc | apply pw_below_drewN | apply below_drew1) | exact HB.out))) : w.heap.size ≤ gb46001)); clear HB; have HB := n0_; have BK46001 := n1_; have GW46001 := n2_; have GE46001 := n3_; clear n0_ n1_ n2_ n3_; clear hb hbox hg; have hcz14_0 : w13.cell? ⟨gb46001, 0, none⟩ = some (.string a0_0) := (blk_cell BK46001.out 0).trans rfl; have hcz14_1 : w13.cell? ⟨gb46001, 1, none⟩ = some (.int .i64 a0_1) := (blk_cell BK46001.out 1).trans rfl; have hcz14_2 : w13.cell? ⟨gb46001, 2, none⟩ = some (.string a0_2) := (blk_cell BK46001.out 2).trans rfl; have hfz14_0 := blk_frozen BK46001.out 0; have hfz14_1 := blk_frozen BK46001.out 1; have hfz14_2 := blk_frozen BK46001.out 2) | ((with_reducible refine gate_callee (f := 61) rfl ?_); refine goesL_ (some 24) rfl rfl Tryd.func61 (by kernel_rfl) rfl #[.string a1, .int .u32 10] rfl (by (try simp only [List.map_toArray, List.map_cons, List.map_nil]); first | done | rfl | (simp only [List.length_drop, List.length_take]; rfl)) ?_; (with_reducible refine (digit_Parse.calls k a1 10 t46002 t46003 _ A10.out).mono ?_); rintro e w' ⟨rfl, ⟨nd, rfl⟩⟩; refine ⟨_, rfl, ?_⟩) | ((with_reducible refine gate_callee (f := 62) rfl ?_); refine goesL_ (some 31) rfl rfl Tryd.func62 (by kernel_rfl) rfl #[.int .u32 t46002, .int .u32 10] rfl (by (try simp only [List.map_toArray, List.map_cons, List.map_nil]); first | done | rfl | (simp only [List.length_drop, List.length_take]; rfl)) ?_; (with_reducible refine (digit_Show.calls t46002 10 t46004 t46005 _ (Tabs.below ht (by repeat (first | (with_reducible first | exact HB.out | apply below_alloc | apply pw_below_drewN | apply below_drew1 | refine below_set ?_ (Aside0.out (by assumption))) | exact HB.out))) A12.out).mono ?_); rintro e w15 ⟨rfl, hb⟩; refine ⟨_, rfl, ?_⟩; have n0_ := Aside0.mk (blk_below (g := gb46001) (o := .cells #[.string a0_0, .int .i64 a0_1, .string a0_2] 57 (0, 0)) (by (with_reducible repeat (first | refine blk_drewN ?_ _ | refine blk_drew ?_ | refine blk_alloc ?_ _)); exact BK46001.out) hb); have n1_ := Aside0.mk (below_step (by repeat (first | (with_reducible first | exact HB.out | apply below_alloc | apply pw_below_drewN | apply below_drew1 | refine below_set ?_ GE46001.out) | exact HB.out)) hb); clear BK46001; clear HB; have BK46001 := n0_; have HB := n1_; clear n0_ n1_; (try clear hb); (try clear hb2); (try clear hk); (try clear hi)))
        go_ret2
        exact ⟨by first | rfl | (simp [errW_none, errW_some] <;> rfl) | (simp [*, errW_none, errW_some] <;> rfl), by repeat (first | (with_reducible first | exact HB.out | apply below_alloc | apply pw_below_drewN | apply below_drew1 | refine below_set ?_ GE46001.out) | exact HB.out)⟩
      · rw [if_neg c11] at H
        have c11b0 : (t46003 == 0) = false := beq_eq_false_iff_ne.mpr c11
        have c11b1 : (t46003 != 0) = true := bne_iff_ne.mpr c11
        simp only [Option.some.injEq, Prod.mk.injEq] at H
        obtain ⟨rfl, rfl⟩ := H
        go_enter Tryd.func45, Tryd.ntmps45
        go_wp2_with (first | ((with_reducible refine gate_dst (N := 2) rfl ?_); refine box_event ?hg (N := 2) ?hd (cs := #[.string a0_0, .int .i64 a0_1, .string a0_2]) (t := 57) ?hr ?_; (case hd => rfl); (case hg => rfl); (case hr => first | (go_simp; done) | (go_simp; rfl)); intro gb46001 hg w16 hbox hb; have n0_ := Aside0.mk (below_step (by repeat (first | (with_reducible first | exact HB.out | apply below_alloc | apply pw_below_drewN | apply below_drew1) | exact HB.out)) hb); have n1_ := Aside0.mk (hbox); have n2_ := Aside0.mk ((by rw [hg]; exact (below_size (by repeat (first | (with_reducible first | exact HB.out | apply below_alloc | apply pw_below_drewN | apply below_drew1) | exact HB.out))) : w.heap.size ≤ gb46001)); have n3_ := Aside0.mk ((by rw [hg]; exact (below_size (by repeat (first | (with_reducible first | exact HB.out | apply below_alloc | apply pw_below_drewN | apply below_drew1) | exact HB.out))) : w.heap.size ≤ gb46001)); clear HB; have HB := n0_; have BK46001 := n1_; have GW46001 := n2_; have GE46001 := n3_; clear n0_ n1_ n2_ n3_; clear hb hbox hg; have hcz17_0 : w16.cell? ⟨gb46001, 0, none⟩ = some (.string a0_0) := (blk_cell BK46001.out 0).trans rfl; have hcz17_1 : w16.cell? ⟨gb46001, 1, none⟩ = some (.int .i64 a0_1) := (blk_cell BK46001.out 1).trans rfl; have hcz17_2 : w16.cell? ⟨gb46001, 2, none⟩ = some (.string a0_2) := (blk_cell BK46001.out 2).trans rfl; have hfz17_0 := blk_frozen BK46001.out 0; have hfz17_1 := blk_frozen BK46001.out 1; have hfz17_2 := blk_frozen BK46001.out 2) | ((with_reducible refine gate_callee (f := 61) rfl ?_); refine goesL_ (some 24) rfl rfl Tryd.func61 (by kernel_rfl) rfl #[.string a1, .int .u32 10] rfl (by (try simp only [List.map_toArray, List.map_cons, List.map_nil]); first | done | rfl | (simp only [List.length_drop, List.length_take]; rfl)) ?_; (with_reducible refine (digit_Parse.calls k a1 10 t46002 t46003 _ A10.out).mono ?_); rintro e w' ⟨rfl, ⟨nd, rfl⟩⟩; refine ⟨_, rfl, ?_⟩))
        go_ret2
        exact ⟨by first | rfl | (simp [errW_none, errW_some] <;> rfl) | (simp [*, errW_none, errW_some] <;> rfl), by repeat (first | (with_reducible first | exact HB.out | apply below_alloc | apply pw_below_drewN | apply below_drew1 | refine below_set ?_ GE46001.out) | exact HB.out)⟩
    · rw [if_neg c9] at H
      have c9b0 : (a0_1 == 1) = false := beq_eq_false_iff_ne.mpr c9
      have c9b1 : (a0_1 != 1) = true := bne_iff_ne.mpr c9
      have H' := Aside0.mk H
      clear H
      go_enter Tryd.func45, Tryd.ntmps45
      go_wp2_with (first | ((with_reducible refine gate_dst (N := 2) rfl ?_); refine box_event ?hg (N := 2) ?hd (cs := #[.string a0_0, .int .i64 a0_1, .string a0_2]) (t := 57) ?hr ?_; (case hd => rfl); (case hg => rfl); (case hr => first | (go_simp; done) | (go_simp; rfl)); intro gb46001 hg w18 hbox hb; have n0_ := Aside0.mk (below_step (by repeat (first | (with_reducible first | exact HB.out | apply below_alloc | apply pw_below_drewN | apply below_drew1) | exact HB.out)) hb); have n1_ := Aside0.mk (hbox); have n2_ := Aside0.mk ((by rw [hg]; exact (below_size (by repeat (first | (with_reducible first | exact HB.out | apply below_alloc | apply pw_below_drewN | apply below_drew1) | exact HB.out))) : w.heap.size ≤ gb46001)); have n3_ := Aside0.mk ((by rw [hg]; exact (below_size (by repeat (first | (with_reducible first | exact HB.out | apply below_alloc | apply pw_below_drewN | apply below_drew1) | exact HB.out))) : w.heap.size ≤ gb46001)); clear HB; have HB := n0_; have BK46001 := n1_; have GW46001 := n2_; have GE46001 := n3_; clear n0_ n1_ n2_ n3_; clear hb hbox hg; have hcz19_0 : w18.cell? ⟨gb46001, 0, none⟩ = some (.string a0_0) := (blk_cell BK46001.out 0).trans rfl; have hcz19_1 : w18.cell? ⟨gb46001, 1, none⟩ = some (.int .i64 a0_1) := (blk_cell BK46001.out 1).trans rfl; have hcz19_2 : w18.cell? ⟨gb46001, 2, none⟩ = some (.string a0_2) := (blk_cell BK46001.out 2).trans rfl; have hfz19_0 := blk_frozen BK46001.out 0; have hfz19_1 := blk_frozen BK46001.out 1; have hfz19_2 := blk_frozen BK46001.out 2))
      go_loopg [39] k (fun kq v39 w' => ∃ (x39_1 : Int), v39 = .int .i64 x39_1 ∧ Aside0 (vars_variable_form.l0 kq a1 (a1.size : Int) x39_1 = some (r1, r2)) ∧ Aside0 (kq ≤ k) ∧ Aside0 (w'.heap[gb46001]? = some (.cells #[.string a0_0, .int .i64 a0_1, .string a0_2] 57 (0, 0))) ∧ Aside0 (Below w.heap.size w w'))
      case atStart => exact ⟨(0), (by first | rfl | (simp; done) | (simp [*]; done)), H', ⟨Nat.le_refl _⟩, ⟨by (with_reducible repeat (first | refine blk_drewN ?_ _ | refine blk_drew ?_ | refine blk_alloc ?_ _)); exact BK46001.out⟩, ⟨by repeat (first | (with_reducible first | exact HB.out | apply below_alloc | apply pw_below_drewN | apply below_drew1 | refine below_set ?_ GE46001.out) | exact HB.out)⟩⟩
      case round =>
        clear H'
        try clear c1
        try clear p2
        try clear c3
        try clear c3b0
        try clear c3b1
        try clear c4
        try clear c4b0
        try clear c4b1
        try clear c6
        try clear c9
        try clear c9b0
        try clear c9b1
        try clear c11
        try clear c11b0
        try clear c11b1
        try clear hcz14_0
        try clear hcz14_1
        try clear hcz14_2
        try clear hcz17_0
        try clear hcz17_1
        try clear hcz17_2
        try clear hcz19_0
        try clear hcz19_1
        try clear hcz19_2
        try clear hcz6_0
        try clear hcz6_1
        try clear hcz6_2
        try clear hcz8_0
        try clear hcz8_1
        try clear hcz8_2
        try clear hfz14_0
        try clear hfz14_1
        try clear hfz14_2
        try clear hfz17_0
        try clear hfz17_1
        try clear hfz17_2
        try clear hfz19_0
        try clear hfz19_1
        try clear hfz19_2
        try clear hfz6_0
        try clear hfz6_1
        try clear hfz6_2
        try clear hfz8_0
        try clear hfz8_1
        try clear hfz8_2
        obtain ⟨x39_1, rfl, HA, HK1, BK46001, HB⟩ := hrel
        cases gk with
        | zero => exact absurd HA.out (by simp [vars_variable_form.l0])
        | succ k1 =>
          have H := HA.out
          clear HA
          simp only [vars_variable_form.l0] at H
          by_cases c20 : x39_1 < (a1.size : Int)
          · rw [if_pos c20] at H
            have c20b0 : decide (x39_1 < (a1.size : Int)) = true := decide_eq_true c20
            clear c20
            by_cases c21 : 0 ≤ x39_1
            · rw [if_pos c21] at H
              have c21b0 : decide (0 ≤ x39_1) = true := decide_eq_true c21
              clear c21
              by_cases c22 : x39_1 < (a1.size : Int)
              · rw [if_pos c22] at H
                have c22b0 : decide (x39_1 < (a1.size : Int)) = true := decide_eq_true c22
                clear c22
                by_cases c24 : (bt a1 x39_1) < 32
                · rw [if_pos c24] at H
                  have c24b0 : decide ((bt a1 x39_1) < 32) = true := decide_eq_true c24
                  clear c24
                  simp only [Option.some.injEq, Prod.mk.injEq] at H
                  obtain ⟨rfl, rfl⟩ := H
                  have p23 : 0 ≤ (x39_1 : Int) := of_decide_eq_true (by first | (with_reducible assumption) | assumption)
                  have q23 : x39_1 < (a1.size : Int) := of_decide_eq_true (by first | (with_reducible assumption) | assumption)
                  have hx23 := bt_at a1 x39_1
                  replace p23 := eq_true p23
                  replace q23 := eq_true q23
                  go_wp2
                  go_ret2
                  exact ⟨by first | rfl | (simp [errW_none, errW_some] <;> rfl) | (simp [*, errW_none, errW_some] <;> rfl), by repeat (first | (with_reducible first | exact HB.out | apply below_alloc | apply pw_below_drewN | apply below_drew1 | refine below_set ?_ GE46001.out) | exact HB.out)⟩
                · rw [if_neg c24] at H
                  have c24b0 : decide ((bt a1 x39_1) < 32) = false := decide_eq_false c24
                  clear c24
                  by_cases c26 : (bt a1 x39_1) > 126
                  · rw [if_pos c26] at H
                    have c26b0 : decide (126 < (bt a1 x39_1)) = true := decide_eq_true c26
                    clear c26
                    simp only [Option.some.injEq, Prod.mk.injEq] at H
                    obtain ⟨rfl, rfl⟩ := H
                    have p23 : 0 ≤ (x39_1 : Int) := of_decide_eq_true (by first | (with_reducible assumption) | assumption)
                    have q23 : x39_1 < (a1.size : Int) := of_decide_eq_true (by first | (with_reducible assumption) | assumption)
                    have hx23 := bt_at a1 x39_1
                    replace p23 := eq_true p23
                    replace q23 := eq_true q23
                    have p25 : 0 ≤ (x39_1 : Int) := of_decide_eq_true (by first | (with_reducible assumption) | assumption)
                    have q25 : x39_1 < (a1.size : Int) := of_decide_eq_true (by first | (with_reducible assumption) | assumption)
                    have hx25 := bt_at a1 x39_1
                    replace p25 := eq_true p25
                    replace q25 := eq_true q25
                    go_wp2
                    go_ret2
                    exact ⟨by first | rfl | (simp [errW_none, errW_some] <;> rfl) | (simp [*, errW_none, errW_some] <;> rfl), by repeat (first | (with_reducible first | exact HB.out | apply below_alloc | apply pw_below_drewN | apply below_drew1 | refine below_set ?_ GE46001.out) | exact HB.out)⟩
                  · rw [if_neg c26] at H
                    have c26b0 : decide (126 < (bt a1 x39_1)) = false := decide_eq_false c26
                    clear c26
                    have H' := Aside0.mk H
                    clear H
                    have p23 : 0 ≤ (x39_1 : Int) := of_decide_eq_true (by first | (with_reducible assumption) | assumption)
                    have q23 : x39_1 < (a1.size : Int) := of_decide_eq_true (by first | (with_reducible assumption) | assumption)
                    have hx23 := bt_at a1 x39_1
                    replace p23 := eq_true p23
                    replace q23 := eq_true q23
                    have p25 : 0 ≤ (x39_1 : Int) := of_decide_eq_true (by first | (with_reducible assumption) | assumption)
                    have q25 : x39_1 < (a1.size : Int) := of_decide_eq_true (by first | (with_reducible assumption) | assumption)
                    have hx25 := bt_at a1 x39_1
                    replace p25 := eq_true p25
                    replace q25 := eq_true q25
                    go_wp2
                    go_roundg k1
                    case measure => have := HK1.out; omega
                    case rel => exact ⟨(wrap64 (x39_1 + 1)), (by first | rfl | (simp; done) | (simp [*]; done)), H', ⟨by have := HK1.out; omega⟩, ⟨by (with_reducible repeat (first | refine blk_drewN ?_ _ | refine blk_drew ?_ | refine blk_alloc ?_ _)); exact BK46001.out⟩, ⟨by repeat (first | (with_reducible first | exact HB.out | apply below_alloc | apply pw_below_drewN | apply below_drew1 | refine below_set ?_ GE46001.out) | exact HB.out)⟩⟩
              · rw [if_neg c22] at H
                exact absurd H (by simp)
            · rw [if_neg c21] at H
              exact absurd H (by simp)
          · rw [if_neg c20] at H
            have c20b0 : decide (x39_1 < (a1.size : Int)) = false := decide_eq_false c20
            clear c20
            simp only [Option.some.injEq, Prod.mk.injEq] at H
            obtain ⟨rfl, rfl⟩ := H
            go_wp2
            go_ret2
            exact ⟨by first | rfl | (simp [errW_none, errW_some] <;> rfl) | (simp [*, errW_none, errW_some] <;> rfl), by repeat (first | (with_reducible first | exact HB.out | apply below_alloc | apply pw_below_drewN | apply below_drew1 | refine below_set ?_ GE46001.out) | exact HB.out)⟩

end Go.Proofs.YtefhngadeimklaaDoor.Q
end
section
namespace Go.Proofs.YtefhngadeimklaaDoor.Q
open Go.RowKit Go.Proofs.YtefhngadeimklaaDoorW.PrintWords Go.Proofs.YtefhngadeimklaaDoorW.PrintLast Go.Proofs.YtefhngadeimklaaDoorW.PrintMore
set_option linter.unusedVariables false
set_option linter.unusedSimpArgs false

attribute [local go_sem] max2_int min2_int max_two min_two max_three min_three max_four min_four
/-! ### vars_Right: function 16 -/
def vars_Right.l0 : Nat → Int → List (S40) → Int → Int → Option (Bool)
  | 0, _, _, _, _ => none
  | k + 1, x3, x11, x12, x13 => if x13 < x12 then (if 0 ≤ x13 then (if x13 < (x11.length : Int) then ((vars_find.f k ((rd_T40 x11 x13).f0)).bind fun bt17003 => ((vars_variable_form.f k bt17003.1 bt17003.2.1 bt17003.2.2.1 ((rd_T40 x11 x13).f1)).bind fun bt17009 => (if bt17003.2.2.2.2 = true then (if bt17009.2 = true then (if bt17003.2.2.2.1 ≤ x3 then (some false) else (if bt17009.1.toList = ((rd_T40 x11 x13).f1).toList then (if bt17009.1.toList = bt17003.2.2.1.toList then (some false) else (vars_Right.l0 k bt17003.2.2.2.1 x11 x12 (wrap64 (x13 + 1)))) else (some false))) else (some false)) else (some false)))) else (none)) else (none)) else (some true)
def vars_Right.f (k : Nat) (l0 : List (S40)) : Option (Bool) := vars_Right.l0 k (-1) l0 (l0.length : Int) 0
set_option maxHeartbeats 8000000 in
set_option maxRecDepth 100000 in
theorem vars_Right.calls (k : Nat) (A0 : Option Addr) (c0 : Nat) (l0 : List (S40)) (r : Bool) (w : World) (ht : Tabs w) (hr0 : Kd.C k40 w A0 l0.length l0) (hc0 : l0.length ≤ c0) (h : vars_Right.f k l0 = some r) :
    Calls Tryd.prog 16 #[.slice A0 l0.length c0] w fun e w' => e = .returned (.bool r) ∧ Below w.heap.size w w' := by
  have hu40 := Tryd.underlying40
  have hu57 := Tryd.underlying57
  have HR0 := Aside0.mk hr0
  have HC0 := Aside0.mk hc0
  clear hr0 hc0
  have HB := Aside0.mk (Below.refl w.heap.size w)
  have H : (vars_Right.l0 k (-1) l0 (l0.length : Int) 0) = some r := h
  clear h
  have H' := Aside0.mk H
  clear H
  go_enter Tryd.func16, Tryd.ntmps16
  go_wp2
  go_loopg [3, 13] k (fun kq v3 v13 w' => ∃ (x3_1 : Int) (x13_1 : Int), v3 = .int .i64 x3_1 ∧ v13 = .int .i64 x13_1 ∧ Aside0 (vars_Right.l0 kq x3_1 l0 (l0.length : Int) x13_1 = some r) ∧ Aside0 (kq ≤ k) ∧ Aside0 (Below w.heap.size w w'))
  case atStart => exact ⟨((-1)), (0), (by first | rfl | (simp; done) | (simp [*]; done)), (by first | rfl | (simp; done) | (simp [*]; done)), H', ⟨Nat.le_refl _⟩, ⟨by repeat (first | (with_reducible first | exact HB.out | apply below_alloc | apply pw_below_drewN | apply below_drew1) | exact HB.out)⟩⟩
  case round =>
    clear H'
    try clear c1
    obtain ⟨x3_1, x13_1, rfl, rfl, HA, HK1, HB⟩ := hrel
    cases gk with
    | zero => exact absurd HA.out (by simp [vars_Right.l0])
    | succ k1 =>
      have H := HA.out
      clear HA
      simp only [vars_Right.l0] at H
      by_cases c2 : x13_1 < (l0.length : Int)
      · rw [if_pos c2] at H
        have c2b0 : decide (x13_1 < (l0.length : Int)) = true := decide_eq_true c2
        clear c2
        by_cases c3 : 0 ≤ x13_1
        · rw [if_pos c3] at H
          have c3b0 : decide (0 ≤ x13_1) = true := decide_eq_true c3
          clear c3
          by_cases c4 : x13_1 < (l0.length : Int)
          · rw [if_pos c4] at H
            have c4b0 : decide (x13_1 < (l0.length : Int)) = true := decide_eq_true c4
            clear c4
            replace H := Option.bind_eq_some_iff.mp H
            obtain ⟨⟨t17003, t17004, t17005, t17006, t17007⟩, A50, H⟩ := H
            replace H : ((vars_variable_form.f k1 t17003 t17004 t17005 ((rd_T40 l0 x13_1).f1)).bind fun bt17009 => (if t17007 = true then (if bt17009.2 = true then (if t17006 ≤ x3_1 then (some false) else (if bt17009.1.toList = ((rd_T40 l0 x13_1).f1).toList then (if bt17009.1.toList = t17005.toList then (some false) else (vars_Right.l0 k1 t17006 l0 (l0.length : Int) (wrap64 (x13_1 + 1)))) else (some false))) else (some false)) else (some false))) = some r := H
            have A5 := Aside0.mk A50
            clear A50
            replace H := Option.bind_eq_some_iff.mp H
            obtain ⟨⟨t17009, t17010⟩, A60, H⟩ := H
            replace H : (if t17007 = true then (if t17010 = true then (if t17006 ≤ x3_1 then (some false) else (if t17009.toList = ((rd_T40 l0 x13_1).f1).toList then (if t17009.toList = t17005.toList then (some false) else (vars_Right.l0 k1 t17006 l0 (l0.length : Int) (wrap64 (x13_1 + 1)))) else (some false))) else (some false)) else (some false)) = some r := H
            have A6 := Aside0.mk A60
            clear A60
            by_cases c7 : t17007 = true
            · subst c7
              have H1 : (if t17010 = true then (if t17006 ≤ x3_1 then (some false) else (if t17009.toList = ((rd_T40 l0 x13_1).f1).toList then (if t17009.toList = t17005.toList then (some false) else (vars_Right.l0 k1 t17006 l0 (l0.length : Int) (wrap64 (x13_1 + 1)))) else (some false))) else (some false)) = some r := by rw [if_pos rfl] at H; exact H
              clear H
              have H := H1
              clear H1
              by_cases c8 : t17010 = true
              · subst c8
                have H1 : (if t17006 ≤ x3_1 then (some false) else (if t17009.toList = ((rd_T40 l0 x13_1).f1).toList then (if t17009.toList = t17005.toList then (some false) else (vars_Right.l0 k1 t17006 l0 (l0.length : Int) (wrap64 (x13_1 + 1)))) else (some false))) = some r := by rw [if_pos rfl] at H; exact H
                clear H
                have H := H1
                clear H1
                by_cases c9 : t17006 ≤ x3_1
                · rw [if_pos c9] at H
                  have c9b0 : decide (t17006 ≤ x3_1) = true := decide_eq_true c9
                  clear c9
                  obtain rfl := Option.some.inj H
                  have p17001 : 0 ≤ (x13_1 : Int) := of_decide_eq_true (by first | (with_reducible assumption) | assumption)
                  have q17001 : x13_1 < (l0.length : Int) := of_decide_eq_true (by first | (with_reducible assumption) | assumption)
                  obtain ⟨ad17001, e17001, hx17001_0, hx17001_1⟩ := at_T40 HR0.out x13_1 p17001 q17001
                  cases e17001
                  replace hx17001_0 := (HB.out.cell (World.block_lt_of_cell? w _ hx17001_0)).trans hx17001_0
                  replace hx17001_1 := (HB.out.cell (World.block_lt_of_cell? w _ hx17001_1)).trans hx17001_1
                  replace p17001 := eq_true p17001
                  replace q17001 := eq_true q17001
                  go_wp2_with (first | ((with_reducible refine gate_dst (N := 5) rfl ?_); refine box_event ?hg (N := 5) ?hd (cs := #[.string (⟨#[]⟩ : ByteArray), .string (⟨#[]⟩ : ByteArray)]) (t := 40) ?hr ?_; (case hd => rfl); (case hg => rfl); (case hr => first | (go_simp; done) | (go_simp; rfl)); intro gb17002 hg w10 hbox hb; have n0_ := Aside0.mk (below_step (by repeat (first | (with_reducible first | exact HB.out | apply below_alloc | apply pw_below_drewN | apply below_drew1) | exact HB.out)) hb); have n1_ := Aside0.mk (hbox); have n2_ := Aside0.mk ((by rw [hg]; exact (below_size (by repeat (first | (with_reducible first | exact HB.out | apply below_alloc | apply pw_below_drewN | apply below_drew1) | exact HB.out))) : w.heap.size ≤ gb17002)); have n3_ := Aside0.mk ((by rw [hg]; exact (below_size (by repeat (first | (with_reducible first | exact HB.out | apply below_alloc | apply pw_below_drewN | apply below_drew1) | exact HB.out))) : w.heap.size ≤ gb17002)); clear HB; have HB := n0_; have BK17002 := n1_; have GW17002 := n2_; have GE17002 := n3_; clear n0_ n1_ n2_ n3_; clear hb hbox hg; have hcz11_0 : w10.cell? ⟨gb17002, 0, none⟩ = some (.string (⟨#[]⟩ : ByteArray)) := (blk_cell BK17002.out 0).trans rfl; have hcz11_1 : w10.cell? ⟨gb17002, 1, none⟩ = some (.string (⟨#[]⟩ : ByteArray)) := (blk_cell BK17002.out 1).trans rfl; have hfz11_0 := blk_frozen BK17002.out 0; have hfz11_1 := blk_frozen BK17002.out 1) | ((with_reducible refine gate_callee (f := 37) rfl ?_); refine goesL_ (some 20) rfl rfl Tryd.func37 (by kernel_rfl) rfl #[.string ((rd_T40 l0 x13_1).f0)] rfl (by (try simp only [List.map_toArray, List.map_cons, List.map_nil]); first | done | rfl | (simp only [List.length_drop, List.length_take]; rfl)) ?_; (with_reducible refine (vars_find.calls k1 ((rd_T40 l0 x13_1).f0) t17003 t17004 t17005 t17006 true _ A5.out).mono ?_); rintro e w12 ⟨rfl, hb⟩; refine ⟨_, rfl, ?_⟩; have n0_ := Aside0.mk (blk_below (g := gb17002) (o := .cells #[.string ((rd_T40 l0 x13_1).f0), .string ((rd_T40 l0 x13_1).f1)] 40 (0, 0)) (by (with_reducible repeat (first | refine blk_drewN ?_ _ | refine blk_drew ?_ | refine blk_alloc ?_ _)); refine blk_put (cs := #[.string ((rd_T40 l0 x13_1).f0), .string (⟨#[]⟩ : ByteArray)]) ?_ 1 _ rfl; (with_reducible repeat (first | refine blk_drewN ?_ _ | refine blk_drew ?_ | refine blk_alloc ?_ _)); refine blk_put (cs := #[.string (⟨#[]⟩ : ByteArray), .string (⟨#[]⟩ : ByteArray)]) ?_ 0 _ rfl; (with_reducible repeat (first | refine blk_drewN ?_ _ | refine blk_drew ?_ | refine blk_alloc ?_ _)); exact BK17002.out) hb); have n1_ := Aside0.mk (below_step (by repeat (first | (with_reducible first | exact HB.out | apply below_alloc | apply pw_below_drewN | apply below_drew1 | refine below_set ?_ GE17002.out) | exact HB.out)) hb); clear BK17002; clear HB; have BK17002 := n0_; have HB := n1_; clear n0_ n1_; (try clear hb); (try clear hb2); (try clear hk); (try clear hi)) | ((with_reducible refine gate_dst (N := 6) rfl ?_); refine box_event ?hg (N := 6) ?hd (cs := #[.string (⟨#[]⟩ : ByteArray), .int .i64 0, .string (⟨#[]⟩ : ByteArray)]) (t := 57) ?hr ?_; (case hd => rfl); (case hg => rfl); (case hr => first | (go_simp; done) | (go_simp; rfl)); intro gb17008 hg w13 hbox hb; have n0_ := Aside0.mk (blk_below (g := gb17002) (o := .cells #[.string ((rd_T40 l0 x13_1).f0), .string ((rd_T40 l0 x13_1).f1)] 40 (0, 0)) (by (with_reducible repeat (first | refine blk_drewN ?_ _ | refine blk_drew ?_ | refine blk_alloc ?_ _)); exact BK17002.out) hb); have n1_ := Aside0.mk (below_step (by repeat (first | (with_reducible first | exact HB.out | apply below_alloc | apply pw_below_drewN | apply below_drew1 | refine below_set ?_ GE17002.out) | exact HB.out)) hb); have n2_ := Aside0.mk (hbox); have n3_ := Aside0.mk ((by rw [hg]; exact (below_size (by repeat (first | (with_reducible first | exact HB.out | apply below_alloc | apply pw_below_drewN | apply below_drew1 | refine below_set ?_ GE17002.out) | exact HB.out))) : w.heap.size ≤ gb17008)); have n4_ := Aside0.mk ((by rw [hg]; exact (below_size (by repeat (first | (with_reducible first | exact HB.out | apply below_alloc | apply pw_below_drewN | apply below_drew1 | refine below_set ?_ GE17002.out) | exact HB.out))) : w.heap.size ≤ gb17008)); have n5_ := Aside0.mk ((by rw [hg]; exact Nat.ne_of_lt (blk_lt (g := gb17002) (o := .cells #[.string ((rd_T40 l0 x13_1).f0), .string ((rd_T40 l0 x13_1).f1)] 40 (0, 0)) (by (with_reducible repeat (first | refine blk_drewN ?_ _ | refine blk_drew ?_ | refine blk_alloc ?_ _)); exact BK17002.out)) : gb17002 ≠ gb17008)); have n6_ := Aside0.mk ((by rw [hg]; exact Nat.ne_of_gt (blk_lt (g := gb17002) (o := .cells #[.string ((rd_T40 l0 x13_1).f0), .string ((rd_T40 l0 x13_1).f1)] 40 (0, 0)) (by (with_reducible repeat (first | refine blk_drewN ?_ _ | refine blk_drew ?_ | refine blk_alloc ?_ _)); exact BK17002.out)) : gb17008 ≠ gb17002)); clear BK17002; clear HB; have BK17002 := n0_; have HB := n1_; have BK17008 := n2_; have GW17008 := n3_; have GE17008 := n4_; have NB17002_17008 := n5_; have NB17008_17002 := n6_; clear n0_ n1_ n2_ n3_ n4_ n5_ n6_; clear hb hbox hg; have hnb14 := NB17008_17002.out; have hnc14 := NB17002_17008.out; have hcz15_0 : w13.cell? ⟨gb17008, 0, none⟩ = some (.string (⟨#[]⟩ : ByteArray)) := (blk_cell BK17008.out 0).trans rfl; have hcz15_1 : w13.cell? ⟨gb17008, 1, none⟩ = some (.int .i64 0) := (blk_cell BK17008.out 1).trans rfl; have hcz15_2 : w13.cell? ⟨gb17008, 2, none⟩ = some (.string (⟨#[]⟩ : ByteArray)) := (blk_cell BK17008.out 2).trans rfl; have hfz15_0 := blk_frozen BK17008.out 0; have hfz15_1 := blk_frozen BK17008.out 1; have hfz15_2 := blk_frozen BK17008.out 2; have hcz16_0 : w13.cell? ⟨gb17002, 0, none⟩ = some (.string ((rd_T40 l0 x13_1).f0)) := (blk_cell BK17002.out 0).trans rfl; have hcz16_1 : w13.cell? ⟨gb17002, 1, none⟩ = some (.string ((rd_T40 l0 x13_1).f1)) := (blk_cell BK17002.out 1).trans rfl; have hfz16_0 := blk_frozen BK17002.out 0; have hfz16_1 := blk_frozen BK17002.out 1) | ((with_reducible refine gate_callee (f := 45) rfl ?_); refine goesL_ (some 28) rfl rfl Tryd.func45 (by kernel_rfl) rfl #[.agg #[.string t17003, .int .i64 t17004, .string t17005], .string ((rd_T40 l0 x13_1).f1)] rfl (by (try simp only [List.map_toArray, List.map_cons, List.map_nil]); first | done | rfl | (simp only [List.length_drop, List.length_take]; rfl)) ?_; (with_reducible refine (vars_variable_form.calls k1 t17003 t17004 t17005 ((rd_T40 l0 x13_1).f1) t17009 true _ (Tabs.below ht (by repeat (first | (with_reducible first | exact HB.out | apply below_alloc | apply pw_below_drewN | apply below_drew1 | refine below_set ?_ (Aside0.out (by assumption))) | exact HB.out))) A6.out).mono ?_); rintro e w17 ⟨rfl, hb⟩; refine ⟨_, rfl, ?_⟩; have n0_ := Aside0.mk (blk_below (g := gb17002) (o := .cells #[.string ((rd_T40 l0 x13_1).f0), .string ((rd_T40 l0 x13_1).f1)] 40 (0, 0)) (by (with_reducible repeat (first | refine blk_drewN ?_ _ | refine blk_drew ?_ | refine blk_alloc ?_ _)); refine blk_far ?_ NB17002_17008.out _; (with_reducible repeat (first | refine blk_drewN ?_ _ | refine blk_drew ?_ | refine blk_alloc ?_ _)); refine blk_far ?_ NB17002_17008.out _; (with_reducible repeat (first | refine blk_drewN ?_ _ | refine blk_drew ?_ | refine blk_alloc ?_ _)); refine blk_far ?_ NB17002_17008.out _; (with_reducible repeat (first | refine blk_drewN ?_ _ | refine blk_drew ?_ | refine blk_alloc ?_ _)); exact BK17002.out) hb); have n1_ := Aside0.mk (blk_below (g := gb17008) (o := .cells #[.string t17003, .int .i64 t17004, .string t17005] 57 (0, 0)) (by (with_reducible repeat (first | refine blk_drewN ?_ _ | refine blk_drew ?_ | refine blk_alloc ?_ _)); refine blk_put (cs := #[.string t17003, .int .i64 t17004, .string (⟨#[]⟩ : ByteArray)]) ?_ 2 _ rfl; (with_reducible repeat (first | refine blk_drewN ?_ _ | refine blk_drew ?_ | refine blk_alloc ?_ _)); refine blk_put (cs := #[.string t17003, .int .i64 0, .string (⟨#[]⟩ : ByteArray)]) ?_ 1 _ rfl; (with_reducible repeat (first | refine blk_drewN ?_ _ | refine blk_drew ?_ | refine blk_alloc ?_ _)); refine blk_put (cs := #[.string (⟨#[]⟩ : ByteArray), .int .i64 0, .string (⟨#[]⟩ : ByteArray)]) ?_ 0 _ rfl; (with_reducible repeat (first | refine blk_drewN ?_ _ | refine blk_drew ?_ | refine blk_alloc ?_ _)); exact BK17008.out) hb); have n2_ := Aside0.mk (below_step (by repeat (first | (with_reducible first | exact HB.out | apply below_alloc | apply pw_below_drewN | apply below_drew1 | refine below_set ?_ GE17002.out | refine below_set ?_ GE17008.out) | exact HB.out)) hb); clear BK17002; clear BK17008; clear HB; have BK17002 := n0_; have BK17008 := n1_; have HB := n2_; clear n0_ n1_ n2_; (try clear hb); (try clear hb2); (try clear hk); (try clear hi)))
                  go_ret
                  exact ⟨by first | rfl | (simp [errW_none, errW_some] <;> rfl) | (simp [*, errW_none, errW_some] <;> rfl), by repeat (first | (with_reducible first | exact HB.out | apply below_alloc | apply pw_below_drewN | apply below_drew1 | refine below_set ?_ GE17002.out | refine below_set ?_ GE17008.out) | exact HB.out)⟩
                · rw [if_neg c9] at H
                  have c9b0 : decide (t17006 ≤ x3_1) = false := decide_eq_false c9
                  clear c9
                  by_cases c18 : t17009.toList = ((rd_T40 l0 x13_1).f1).toList
                  · rw [if_pos c18] at H
                    have c18b0 : (t17009.toList == ((rd_T40 l0 x13_1).f1).toList) = true := beq_iff_eq.mpr c18
                    have c18b1 : (t17009.toList != ((rd_T40 l0 x13_1).f1).toList) = false := bne_eq_false_iff_eq.mpr c18
                    clear c18
                    by_cases c19 : t17009.toList = t17005.toList
                    · rw [if_pos c19] at H
                      have c19b0 : (t17009.toList == t17005.toList) = true := beq_iff_eq.mpr c19
                      have c19b1 : (t17009.toList != t17005.toList) = false := bne_eq_false_iff_eq.mpr c19
                      clear c19
                      obtain rfl := Option.some.inj H
                      have p17001 : 0 ≤ (x13_1 : Int) := of_decide_eq_true (by first | (with_reducible assumption) | assumption)
                      have q17001 : x13_1 < (l0.length : Int) := of_decide_eq_true (by first | (with_reducible assumption) | assumption)
                      obtain ⟨ad17001, e17001, hx17001_0, hx17001_1⟩ := at_T40 HR0.out x13_1 p17001 q17001
                      cases e17001
                      replace hx17001_0 := (HB.out.cell (World.block_lt_of_cell? w _ hx17001_0)).trans hx17001_0
                      replace hx17001_1 := (HB.out.cell (World.block_lt_of_cell? w _ hx17001_1)).trans hx17001_1
                      replace p17001 := eq_true p17001
                      replace q17001 := eq_true q17001
                      go_wp2_with (first | ((with_reducible refine gate_dst (N := 5) rfl ?_); refine box_event ?hg (N := 5) ?hd (cs := #[.string (⟨#[]⟩ : ByteArray), .string (⟨#[]⟩ : ByteArray)]) (t := 40) ?hr ?_; (case hd => rfl); (case hg => rfl); (case hr => first | (go_simp; done) | (go_simp; rfl)); intro gb17002 hg w20 hbox hb; have n0_ := Aside0.mk (below_step (by repeat (first | (with_reducible first | exact HB.out | apply below_alloc | apply pw_below_drewN | apply below_drew1) | exact HB.out)) hb); have n1_ := Aside0.mk (hbox); have n2_ := Aside0.mk ((by rw [hg]; exact (below_size (by repeat (first | (with_reducible first | exact HB.out | apply below_alloc | apply pw_below_drewN | apply below_drew1) | exact HB.out))) : w.heap.size ≤ gb17002)); have n3_ := Aside0.mk ((by rw [hg]; exact (below_size (by repeat (first | (with_reducible first | exact HB.out | apply below_alloc | apply pw_below_drewN | apply below_drew1) | exact HB.out))) : w.heap.size ≤ gb17002)); clear HB; have HB := n0_; have BK17002 := n1_; have GW17002 := n2_; have GE17002 := n3_; clear n0_ n1_ n2_ n3_; clear hb hbox hg; have hcz21_0 : w20.cell? ⟨gb17002, 0, none⟩ = some (.string (⟨#[]⟩ : ByteArray)) := (blk_cell BK17002.out 0).trans rfl; have hcz21_1 : w20.cell? ⟨gb17002, 1, none⟩ = some (.string (⟨#[]⟩ : ByteArray)) := (blk_cell BK17002.out 1).trans rfl; have hfz21_0 := blk_frozen BK17002.out 0; have hfz21_1 := blk_frozen BK17002.out 1) | ((with_reducible refine gate_callee (f := 37) rfl ?_); refine goesL_ (some 20) rfl rfl Tryd.func37 (by kernel_rfl) rfl #[.string ((rd_T40 l0 x13_1).f0)] rfl (by (try simp only [List.map_toArray, List.map_cons, List.map_nil]); first | done | rfl | (simp only [List.length_drop, List.length_take]; rfl)) ?_; (with_reducible refine (vars_find.calls k1 ((rd_T40 l0 x13_1).f0) t17003 t17004 t17005 t17006 true _ A5.out).mono ?_); rintro e w22 ⟨rfl, hb⟩; refine ⟨_, rfl, ?_⟩; have n0_ := Aside0.mk (blk_below (g := gb17002) (o := .cells #[.string ((rd_T40 l0 x13_1).f0), .string ((rd_T40 l0 x13_1).f1)] 40 (0, 0)) (by (with_reducible repeat (first | refine blk_drewN ?_ _ | refine blk_drew ?_ | refine blk_alloc ?_ _)); refine blk_put (cs := #[.string ((rd_T40 l0 x13_1).f0), .string (⟨#[]⟩ : ByteArray)]) ?_ 1 _ rfl; (with_reducible repeat (first | refine blk_drewN ?_ _ | refine blk_drew ?_ | refine blk_alloc ?_ _)); refine blk_put (cs := #[.string (⟨#[]⟩ : ByteArray), .string (⟨#[]⟩ : ByteArray)]) ?_ 0 _ rfl; (with_reducible repeat (first | refine blk_drewN ?_ _ | refine blk_drew ?_ | refine blk_alloc ?_ _)); exact BK17002.out) hb); have n1_ := Aside0.mk (below_step (by repeat (first | (with_reducible first | exact HB.out | apply below_alloc | apply pw_below_drewN | apply below_drew1 | refine below_set ?_ GE17002.out) | exact HB.out)) hb); clear BK17002; clear HB; have BK17002 := n0_; have HB := n1_; clear n0_ n1_; (try clear hb); (try clear hb2); (try clear hk); (try clear hi)) | ((with_reducible refine gate_dst (N := 6) rfl ?_); refine box_event ?hg (N := 6) ?hd (cs := #[.string (⟨#[]⟩ : ByteArray), .int .i64 0, .string (⟨#[]⟩ : ByteArray)]) (t := 57) ?hr ?_; (case hd => rfl); (case hg => rfl); (case hr => first | (go_simp; done) | (go_simp; rfl)); intro gb17008 hg w23 hbox hb; have n0_ := Aside0.mk (blk_below (g := gb17002) (o := .cells #[.string ((rd_T40 l0 x13_1).f0), .string ((rd_T40 l0 x13_1).f1)] 40 (0, 0)) (by (with_reducible repeat (first | refine blk_drewN ?_ _ | refine blk_drew ?_ | refine blk_alloc ?_ _)); exact BK17002.out) hb); have n1_ := Aside0.mk (below_step (by repeat (first | (with_reducible first | exact HB.out | apply below_alloc | apply pw_below_drewN | apply below_drew1 | refine below_set ?_ GE17002.out) | exact HB.out)) hb); have n2_ := Aside0.mk (hbox); have n3_ := Aside0.mk ((by rw [hg]; exact (below_size (by repeat (first | (with_reducible first | exact HB.out | apply below_alloc | apply pw_below_drewN | apply below_drew1 | refine below_set ?_ GE17002.out) | exact HB.out))) : w.heap.size ≤ gb17008)); have n4_ := Aside0.mk ((by rw [hg]; exact (below_size (by repeat (first | (with_reducible first | exact HB.out | apply below_alloc | apply pw_below_drewN | apply below_drew1 | refine below_set ?_ GE17002.out) | exact HB.out))) : w.heap.size ≤ gb17008)); have n5_ := Aside0.mk ((by rw [hg]; exact Nat.ne_of_lt (blk_lt (g := gb17002) (o := .cells #[.string ((rd_T40 l0 x13_1).f0), .string ((rd_T40 l0 x13_1).f1)] 40 (0, 0)) (by (with_reducible repeat (first | refine blk_drewN ?_ _ | refine blk_drew ?_ | refine blk_alloc ?_ _)); exact BK17002.out)) : gb17002 ≠ gb17008)); have n6_ := Aside0.mk ((by rw [hg]; exact Nat.ne_of_gt (blk_lt (g := gb17002) (o := .cells #[.string ((rd_T40 l0 x13_1).f0), .string ((rd_T40 l0 x13_1).f1)] 40 (0, 0)) (by (with_reducible repeat (first | refine blk_drewN ?_ _ | refine blk_drew ?_ | refine blk_alloc ?_ _)); exact BK17002.out)) : gb17008 ≠ gb17002)); clear BK17002; clear HB; have BK17002 := n0_; have HB := n1_; have BK17008 := n2_; have GW17008 := n3_; have GE17008 := n4_; have NB17002_17008 := n5_; have NB17008_17002 := n6_; clear n0_ n1_ n2_ n3_ n4_ n5_ n6_; clear hb hbox hg; have hnb24 := NB17008_17002.out; have hnc24 := NB17002_17008.out; have hcz25_0 : w23.cell? ⟨gb17008, 0, none⟩ = some (.string (⟨#[]⟩ : ByteArray)) := (blk_cell BK17008.out 0).trans rfl; have hcz25_1 : w23.cell? ⟨gb17008, 1, none⟩ = some (.int .i64 0) := (blk_cell BK17008.out 1).trans rfl; have hcz25_2 : w23.cell? ⟨gb17008, 2, none⟩ = some (.string (⟨#[]⟩ : ByteArray)) := (blk_cell BK17008.out 2).trans rfl; have hfz25_0 := blk_frozen BK17008.out 0; have hfz25_1 := blk_frozen BK17008.out 1; have hfz25_2 := blk_frozen BK17008.out 2; have hcz26_0 : w23.cell? ⟨gb17002, 0, none⟩ = some (.string ((rd_T40 l0 x13_1).f0)) := (blk_cell BK17002.out 0).trans rfl; have hcz26_1 : w23.cell? ⟨gb17002, 1, none⟩ = some (.string ((rd_T40 l0 x13_1).f1)) := (blk_cell BK17002.out 1).trans rfl; have hfz26_0 := blk_frozen BK17002.out 0; have hfz26_1 := blk_frozen BK17002.out 1) | ((with_reducible refine gate_callee (f := 45) rfl ?_); refine goesL_ (some 28) rfl rfl Tryd.func45 (by kernel_rfl) rfl #[.agg #[.string t17003, .int .i64 t17004, .string t17005], .string ((rd_T40 l0 x13_1).f1)] rfl (by (try simp only [List.map_toArray, List.map_cons, List.map_nil]); first | done | rfl | (simp only [List.length_drop, List.length_take]; rfl)) ?_; (with_reducible refine (vars_variable_form.calls k1 t17003 t17004 t17005 ((rd_T40 l0 x13_1).f1) t17009 true _ (Tabs.below ht (by repeat (first | (with_reducible first | exact HB.out | apply below_alloc | apply pw_below_drewN | apply below_drew1 | refine below_set ?_ (Aside0.out (by assumption))) | exact HB.out))) A6.out).mono ?_); rintro e w27 ⟨rfl, hb⟩; refine ⟨_, rfl, ?_⟩; have n0_ := Aside0.mk (blk_below (g := gb17002) (o := .cells #[.string ((rd_T40 l0 x13_1).f0), .string ((rd_T40 l0 x13_1).f1)] 40 (0, 0)) (by (with_reducible repeat (first | refine blk_drewN ?_ _ | refine blk_drew ?_ | refine blk_alloc ?_ _)); refine blk_far ?_ NB17002_17008.out _; (with_reducible repeat (first | refine blk_drewN ?_ _ | refine blk_drew ?_ | refine blk_alloc ?_ _)); refine blk_far ?_ NB17002_17008.out _; (with_reducible repeat (first | refine blk_drewN ?_ _ | refine blk_drew ?_ | refine blk_alloc ?_ _)); refine blk_far ?_ NB17002_17008.out _; (with_reducible repeat (first | refine blk_drewN ?_ _ | refine blk_drew ?_ | refine blk_alloc ?_ _)); exact BK17002.out) hb); have n1_ := Aside0.mk (blk_below (g := gb17008) (o := .cells #[.string t17003, .int .i64 t17004, .string t17005] 57 (0, 0)) (by (with_reducible repeat (first | refine blk_drewN ?_ _ | refine blk_drew ?_ | refine blk_alloc ?_ _)); refine blk_put (cs := #[.string t17003, .int .i64 t17004, .string (⟨#[]⟩ : ByteArray)]) ?_ 2 _ rfl; (with_reducible repeat (first | refine blk_drewN ?_ _ | refine blk_drew ?_ | refine blk_alloc ?_ _)); refine blk_put (cs := #[.string t17003, .int .i64 0, .string (⟨#[]⟩ : ByteArray)]) ?_ 1 _ rfl; (with_reducible repeat (first | refine blk_drewN ?_ _ | refine blk_drew ?_ | refine blk_alloc ?_ _)); refine blk_put (cs := #[.string (⟨#[]⟩ : ByteArray), .int .i64 0, .string (⟨#[]⟩ : ByteArray)]) ?_ 0 _ rfl; (with_reducible repeat (first | refine blk_drewN ?_ _ | refine blk_drew ?_ | refine blk_alloc ?_ _)); exact BK17008.out) hb); have n2_ := Aside0.mk (below_step (by repeat (first | (with_reducible first | exact HB.out | apply below_alloc | apply pw_below_drewN | apply below_drew1 | refine below_set ?_ GE17002.out | refine below_set ?_ GE17008.out) | exact HB.out)) hb); clear BK17002; clear BK17008; clear HB; have BK17002 := n0_; have BK17008 := n1_; have HB := n2_; clear n0_ n1_ n2_; (try clear hb); (try clear hb2); (try clear hk); (try clear hi); have hcz28_0 : w27.cell? ⟨gb17002, 0, none⟩ = some (.string ((rd_T40 l0 x13_1).f0)) := (blk_cell BK17002.out 0).trans rfl; have hcz28_1 : w27.cell? ⟨gb17002, 1, none⟩ = some (.string ((rd_T40 l0 x13_1).f1)) := (blk_cell BK17002.out 1).trans rfl; have hfz28_0 := blk_frozen BK17002.out 0; have hfz28_1 := blk_frozen BK17002.out 1; have hcz29_0 : w27.cell? ⟨gb17008, 0, none⟩ = some (.string t17003) := (blk_cell BK17008.out 0).trans rfl; have hcz29_1 : w27.cell? ⟨gb17008, 1, none⟩ = some (.int .i64 t17004) := (blk_cell BK17008.out 1).trans rfl; have hcz29_2 : w27.cell? ⟨gb17008, 2, none⟩ = some (.string t17005) := (blk_cell BK17008.out 2).trans rfl; have hfz29_0 := blk_frozen BK17008.out 0; have hfz29_1 := blk_frozen BK17008.out 1; have hfz29_2 := blk_frozen BK17008.out 2))
                      go_ret
                      exact ⟨by first | rfl | (simp [errW_none, errW_some] <;> rfl) | (simp [*, errW_none, errW_some] <;> rfl), by repeat (first | (with_reducible first | exact HB.out | apply below_alloc | apply pw_below_drewN | apply below_drew1 | refine below_set ?_ GE17002.out | refine below_set ?_ GE17008.out) | exact HB.out)⟩
                    · rw [if_neg c19] at H
                      have c19b0 : (t17009.toList == t17005.toList) = false := beq_eq_false_iff_ne.mpr c19
                      have c19b1 : (t17009.toList != t17005.toList) = true := bne_iff_ne.mpr c19
                      have H' := Aside0.mk H
                      clear H
                      have p17001 : 0 ≤ (x13_1 : Int) := of_decide_eq_true (by first | (with_reducible assumption) | assumption)
                      have q17001 : x13_1 < (l0.length : Int) := of_decide_eq_true (by first | (with_reducible assumption) | assumption)
                      obtain ⟨ad17001, e17001, hx17001_0, hx17001_1⟩ := at_T40 HR0.out x13_1 p17001 q17001
                      cases e17001
                      replace hx17001_0 := (HB.out.cell (World.block_lt_of_cell? w _ hx17001_0)).trans hx17001_0
                      replace hx17001_1 := (HB.out.cell (World.block_lt_of_cell? w _ hx17001_1)).trans hx17001_1
                      replace p17001 := eq_true p17001
                      replace q17001 := eq_true q17001
                      go_wp2_with (first | ((with_reducible refine gate_dst (N := 5) rfl ?_); refine box_event ?hg (N := 5) ?hd (cs := #[.string (⟨#[]⟩ : ByteArray), .string (⟨#[]⟩ : ByteArray)]) (t := 40) ?hr ?_; (case hd => rfl); (case hg => rfl); (case hr => first | (go_simp; done) | (go_simp; rfl)); intro gb17002 hg w30 hbox hb; have n0_ := Aside0.mk (below_step (by repeat (first | (with_reducible first | exact HB.out | apply below_alloc | apply pw_below_drewN | apply below_drew1) | exact HB.out)) hb); have n1_ := Aside0.mk (hbox); have n2_ := Aside0.mk ((by rw [hg]; exact (below_size (by repeat (first | (with_reducible first | exact HB.out | apply below_alloc | apply pw_below_drewN | apply below_drew1) | exact HB.out))) : w.heap.size ≤ gb17002)); have n3_ := Aside0.mk ((by rw [hg]; exact (below_size (by repeat (first | (with_reducible first | exact HB.out | apply below_alloc | apply pw_below_drewN | apply below_drew1) | exact HB.out))) : w.heap.size ≤ gb17002)); clear HB; have HB := n0_; have BK17002 := n1_; have GW17002 := n2_; have GE17002 := n3_; clear n0_ n1_ n2_ n3_; clear hb hbox hg; have hcz31_0 : w30.cell? ⟨gb17002, 0, none⟩ = some (.string (⟨#[]⟩ : ByteArray)) := (blk_cell BK17002.out 0).trans rfl; have hcz31_1 : w30.cell? ⟨gb17002, 1, none⟩ = some (.string (⟨#[]⟩ : ByteArray)) := (blk_cell BK17002.out 1).trans rfl; have hfz31_0 := blk_frozen BK17002.out 0; have hfz31_1 := blk_frozen BK17002.out 1) | ((with_reducible refine gate_callee (f := 37) rfl ?_); refine goesL_ (some 20) rfl rfl Tryd.func37 (by kernel_rfl) rfl #[.string ((rd_T40 l0 x13_1).f0)] rfl (by (try simp only [List.map_toArray, List.map_cons, List.map_nil]); first | done | rfl | (simp only [List.length_drop, List.length_take]; rfl)) ?_; (with_reducible refine (vars_find.calls k1 ((rd_T40 l0 x13_1).f0) t17003 t17004 t17005 t17006 true _ A5.out).mono ?_); rintro e w32 ⟨rfl, hb⟩; refine ⟨_, rfl, ?_⟩; have n0_ := Aside0.mk (blk_below (g := gb17002) (o := .cells #[.string ((rd_T40 l0 x13_1).f0), .string ((rd_T40 l0 x13_1).f1)] 40 (0, 0)) (by (with_reducible repeat (first | refine blk_drewN ?_ _ | refine blk_drew ?_ | refine blk_alloc ?_ _)); refine blk_put (cs := #[.string ((rd_T40 l0 x13_1).f0), .string (⟨#[]⟩ : ByteArray)]) ?_ 1 _ rfl; (with_reducible repeat (first | refine blk_drewN ?_ _ | refine blk_drew ?_ | refine blk_alloc ?_ _)); refine blk_put (cs := #[.string (⟨#[]⟩ : ByteArray), .string (⟨#[]⟩ : ByteArray)]) ?_ 0 _ rfl; (with_reducible repeat (first | refine blk_drewN ?_ _ | refine blk_drew ?_ | refine blk_alloc ?_ _)); exact BK17002.out) hb); have n1_ := Aside0.mk (below_step (by repeat (first | (with_reducible first | exact HB.out | apply below_alloc | apply pw_below_drewN | apply below_drew1 | refine below_set ?_ GE17002.out) | exact HB.out)) hb); clear BK17002; clear HB; have BK17002 := n0_; have HB := n1_; clear n0_ n1_; (try clear hb); (try clear hb2); (try clear hk); (try clear hi)) | ((with_reducible refine gate_dst (N := 6) rfl ?_); refine box_event ?hg (N := 6) ?hd (cs := #[.string (⟨#[]⟩ : ByteArray), .int .i64 0, .string (⟨#[]⟩ : ByteArray)]) (t := 57) ?hr ?_; (case hd => rfl); (case hg => rfl); (case hr => first | (go_simp; done) | (go_simp; rfl)); intro gb17008 hg w33 hbox hb; have n0_ := Aside0.mk (blk_below (g := gb17002) (o := .cells #[.string ((rd_T40 l0 x13_1).f0), .string ((rd_T40 l0 x13_1).f1)] 40 (0, 0)) (by (with_reducible repeat (first | refine blk_drewN ?_ _ | refine blk_drew ?_ | refine blk_alloc ?_ _)); exact BK17002.out) hb); have n1_ := Aside0.mk (below_step (by repeat (first | (with_reducible first | exact HB.out | apply below_alloc | apply pw_below_drewN | apply below_drew1 | refine below_set ?_ GE17002.out) | exact HB.out)) hb); have n2_ := Aside0.mk (hbox); have n3_ := Aside0.mk ((by rw [hg]; exact (below_size (by repeat (first | (with_reducible first | exact HB.out | apply below_alloc | apply pw_below_drewN | apply below_drew1 | refine below_set ?_ GE17002.out) | exact HB.out))) : w.heap.size ≤ gb17008)); have n4_ := Aside0.mk ((by rw [hg]; exact (below_size (by repeat (first | (with_reducible first | exact HB.out | apply below_alloc | apply pw_below_drewN | apply below_drew1 | refine below_set ?_ GE17002.out) | exact HB.out))) : w.heap.size ≤ gb17008)); have n5_ := Aside0.mk ((by rw [hg]; exact Nat.ne_of_lt (blk_lt (g := gb17002) (o := .cells #[.string ((rd_T40 l0 x13_1).f0), .string ((rd_T40 l0 x13_1).f1)] 40 (0, 0)) (by (with_reducible repeat (first | refine blk_drewN ?_ _ | refine blk_drew ?_ | refine blk_alloc ?_ _)); exact BK17002.out)) : gb17002 ≠ gb17008)); have n6_ := Aside0.mk ((by rw [hg]; exact Nat.ne_of_gt (blk_lt (g := gb17002) (o := .cells #[.string ((rd_T40 l0 x13_1).f0), .string ((rd_T40 l0 x13_1).f1)] 40 (0, 0)) (by (with_reducible repeat (first | refine blk_drewN ?_ _ | refine blk_drew ?_ | refine blk_alloc ?_ _)); exact BK17002.out)) : gb17008 ≠ gb17002)); clear BK17002; clear HB; have BK17002 := n0_; have HB := n1_; have BK17008 := n2_; have GW17008 := n3_; have GE17008 := n4_; have NB17002_17008 := n5_; have NB17008_17002 := n6_; clear n0_ n1_ n2_ n3_ n4_ n5_ n6_; clear hb hbox hg; have hnb34 := NB17008_17002.out; have hnc34 := NB17002_17008.out; have hcz35_0 : w33.cell? ⟨gb17008, 0, none⟩ = some (.string (⟨#[]⟩ : ByteArray)) := (blk_cell BK17008.out 0).trans rfl; have hcz35_1 : w33.cell? ⟨gb17008, 1, none⟩ = some (.int .i64 0) := (blk_cell BK17008.out 1).trans rfl; have hcz35_2 : w33.cell? ⟨gb17008, 2, none⟩ = some (.string (⟨#[]⟩ : ByteArray)) := (blk_cell BK17008.out 2).trans rfl; have hfz35_0 := blk_frozen BK17008.out 0; have hfz35_1 := blk_frozen BK17008.out 1; have hfz35_2 := blk_frozen BK17008.out 2; have hcz36_0 : w33.cell? ⟨gb17002, 0, none⟩ = some (.string ((rd_T40 l0 x13_1).f0)) := (blk_cell BK17002.out 0).trans rfl; have hcz36_1 : w33.cell? ⟨gb17002, 1, none⟩ = some (.string ((rd_T40 l0 x13_1).f1)) := (blk_cell BK17002.out 1).trans rfl; have hfz36_0 := blk_frozen BK17002.out 0; have hfz36_1 := blk_frozen BK17002.out 1) | ((with_reducible refine gate_callee (f := 45) rfl ?_); refine goesL_ (some 28) rfl rfl Tryd.func45 (by kernel_rfl) rfl #[.agg #[.string t17003, .int .i64 t17004, .string t17005], .string ((rd_T40 l0 x13_1).f1)] rfl (by (try simp only [List.map_toArray, List.map_cons, List.map_nil]); first | done | rfl | (simp only [List.length_drop, List.length_take]; rfl)) ?_; (with_reducible refine (vars_variable_form.calls k1 t17003 t17004 t17005 ((rd_T40 l0 x13_1).f1) t17009 true _ (Tabs.below ht (by repeat (first | (with_reducible first | exact HB.out | apply below_alloc | apply pw_below_drewN | apply below_drew1 | refine below_set ?_ (Aside0.out (by assumption))) | exact HB.out))) A6.out).mono ?_); rintro e w37 ⟨rfl, hb⟩; refine ⟨_, rfl, ?_⟩; have n0_ := Aside0.mk (blk_below (g := gb17002) (o := .cells #[.string ((rd_T40 l0 x13_1).f0), .string ((rd_T40 l0 x13_1).f1)] 40 (0, 0)) (by (with_reducible repeat (first | refine blk_drewN ?_ _ | refine blk_drew ?_ | refine blk_alloc ?_ _)); refine blk_far ?_ NB17002_17008.out _; (with_reducible repeat (first | refine blk_drewN ?_ _ | refine blk_drew ?_ | refine blk_alloc ?_ _)); refine blk_far ?_ NB17002_17008.out _; (with_reducible repeat (first | refine blk_drewN ?_ _ | refine blk_drew ?_ | refine blk_alloc ?_ _)); refine blk_far ?_ NB17002_17008.out _; (with_reducible repeat (first | refine blk_drewN ?_ _ | refine blk_drew ?_ | refine blk_alloc ?_ _)); exact BK17002.out) hb); have n1_ := Aside0.mk (blk_below (g := gb17008) (o := .cells #[.string t17003, .int .i64 t17004, .string t17005] 57 (0, 0)) (by (with_reducible repeat (first | refine blk_drewN ?_ _ | refine blk_drew ?_ | refine blk_alloc ?_ _)); refine blk_put (cs := #[.string t17003, .int .i64 t17004, .string (⟨#[]⟩ : ByteArray)]) ?_ 2 _ rfl; (with_reducible repeat (first | refine blk_drewN ?_ _ | refine blk_drew ?_ | refine blk_alloc ?_ _)); refine blk_put (cs := #[.string t17003, .int .i64 0, .string (⟨#[]⟩ : ByteArray)]) ?_ 1 _ rfl; (with_reducible repeat (first | refine blk_drewN ?_ _ | refine blk_drew ?_ | refine blk_alloc ?_ _)); refine blk_put (cs := #[.string (⟨#[]⟩ : ByteArray), .int .i64 0, .string (⟨#[]⟩ : ByteArray)]) ?_ 0 _ rfl; (with_reducible repeat (first | refine blk_drewN ?_ _ | refine blk_drew ?_ | refine blk_alloc ?_ _)); exact BK17008.out) hb); have n2_ := Aside0.mk (below_step (by repeat (first | (with_reducible first | exact HB.out | apply below_alloc | apply pw_below_drewN | apply below_drew1 | refine below_set ?_ GE17002.out | refine below_set ?_ GE17008.out) | exact HB.out)) hb); clear BK17002; clear BK17008; clear HB; have BK17002 := n0_; have BK17008 := n1_; have HB := n2_; clear n0_ n1_ n2_; (try clear hb); (try clear hb2); (try clear hk); (try clear hi); have hcz38_0 : w37.cell? ⟨gb17002, 0, none⟩ = some (.string ((rd_T40 l0 x13_1).f0)) := (blk_cell BK17002.out 0).trans rfl; have hcz38_1 : w37.cell? ⟨gb17002, 1, none⟩ = some (.string ((rd_T40 l0 x13_1).f1)) := (blk_cell BK17002.out 1).trans rfl; have hfz38_0 := blk_frozen BK17002.out 0; have hfz38_1 := blk_frozen BK17002.out 1; have hcz39_0 : w37.cell? ⟨gb17008, 0, none⟩ = some (.string t17003) := (blk_cell BK17008.out 0).trans rfl; have hcz39_1 : w37.cell? ⟨gb17008, 1, none⟩ = some (.int .i64 t17004) := (blk_cell BK17008.out 1).trans rfl; have hcz39_2 : w37.cell? ⟨gb17008, 2, none⟩ = some (.string t17005) := (blk_cell BK17008.out 2).trans rfl; have hfz39_0 := blk_frozen BK17008.out 0; have hfz39_1 := blk_frozen BK17008.out 1; have hfz39_2 := blk_frozen BK17008.out 2))
                      go_roundg k1
                      case measure => have := HK1.out; omega
                      case rel => exact ⟨(t17006), (wrap64 (x13_1 + 1)), (by first | rfl | (simp; done) | (simp [*]; done)), (by first | rfl | (simp; done) | (simp [*]; done)), H', ⟨by have := HK1.out; omega⟩, ⟨by repeat (first | (with_reducible first | exact HB.out | apply below_alloc | apply pw_below_drewN | apply below_drew1 | refine below_set ?_ GE17002.out | refine below_set ?_ GE17008.out) | exact HB.out)⟩⟩
                  · rw [if_neg c18] at H
                    have c18b0 : (t17009.toList == ((rd_T40 l0 x13_1).f1).toList) = false := beq_eq_false_iff_ne.mpr c18
                    have c18b1 : (t17009.toList != ((rd_T40 l0 x13_1).f1).toList) = true := bne_iff_ne.mpr c18
                    obtain rfl := Option.some.inj H
                    have p17001 : 0 ≤ (x13_1 : Int) := of_decide_eq_true (by first | (with_reducible assumption) | assumption)
                    have q17001 : x13_1 < (l0.length : Int) := of_decide_eq_true (by first | (with_reducible assumption) | assumption)
                    obtain ⟨ad17001, e17001, hx17001_0, hx17001_1⟩ := at_T40 HR0.out x13_1 p17001 q17001
                    cases e17001
                    replace hx17001_0 := (HB.out.cell (World.block_lt_of_cell? w _ hx17001_0)).trans hx17001_0
                    replace hx17001_1 := (HB.out.cell (World.block_lt_of_cell? w _ hx17001_1)).trans hx17001_1
                    replace p17001 := eq_true p17001
                    replace q17001 := eq_true q17001
                    go_wp2_with (first | ((with_reducible refine gate_dst (N := 5) rfl ?_); refine box_event ?hg (N := 5) ?hd (cs := #[.string (⟨#[]⟩ : ByteArray), .string (⟨#[]⟩ : ByteArray)]) (t := 40) ?hr ?_; (case hd => rfl); (case hg => rfl); (case hr => first | (go_simp; done) | (go_simp; rfl)); intro gb17002 hg w40 hbox hb; have n0_ := Aside0.mk (below_step (by repeat (first | (with_reducible first | exact HB.out | apply below_alloc | apply pw_below_drewN | apply below_drew1) | exact HB.out)) hb); have n1_ := Aside0.mk (hbox); have n2_ := Aside0.mk ((by rw [hg]; exact (below_size (by repeat (first | (with_reducible first | exact HB.out | apply below_alloc | apply pw_below_drewN | apply below_drew1) | exact HB.out))) : w.heap.size ≤ gb17002)); have n3_ := Aside0.mk ((by rw [hg]; exact (below_size (by repeat (first | (with_reducible first | exact HB.out | apply below_alloc | apply pw_below_drewN | apply below_drew1) | exact HB.out))) : w.heap.size ≤ gb17002)); clear HB; have HB := n0_; have BK17002 := n1_; have GW17002 := n2_; have GE17002 := n3_; clear n0_ n1_ n2_ n3_; clear hb hbox hg; have hcz41_0 : w40.cell? ⟨gb17002, 0, none⟩ = some (.string (⟨#[]⟩ : ByteArray)) := (blk_cell BK17002.out 0).trans rfl; have hcz41_1 : w40.cell? ⟨gb17002, 1, none⟩ = some (.string (⟨#[]⟩ : ByteArray)) := (blk_cell BK17002.out 1).trans rfl; have hfz41_0 := blk_frozen BK17002.out 0; have hfz41_1 := blk_frozen BK17002.out 1) | ((with_reducible refine gate_callee (f := 37) rfl ?_); refine goesL_ (some 20) rfl rfl Tryd.func37 (by kernel_rfl) rfl #[.string ((rd_T40 l0 x13_1).f0)] rfl (by (try simp only [List.map_toArray, List.map_cons, List.map_nil]); first | done | rfl | (simp only [List.length_drop, List.length_take]; rfl)) ?_; (with_reducible refine (vars_find.calls k1 ((rd_T40 l0 x13_1).f0) t17003 t17004 t17005 t17006 true _ A5.out).mono ?_); rintro e w42 ⟨rfl, hb⟩; refine ⟨_, rfl, ?_⟩; have n0_ := Aside0.mk (blk_below (g := gb17002) (o := .cells #[.string ((rd_T40 l0 x13_1).f0), .string ((rd_T40 l0 x13_1).f1)] 40 (0, 0)) (by (with_reducible repeat (first | refine blk_drewN ?_ _ | refine blk_drew ?_ | refine blk_alloc ?_ _)); refine blk_put (cs := #[.string ((rd_T40 l0 x13_1).f0), .string (⟨#[]⟩ : ByteArray)]) ?_ 1 _ rfl; (with_reducible repeat (first | refine blk_drewN ?_ _ | refine blk_drew ?_ | refine blk_alloc ?_ _)); refine blk_put (cs := #[.string (⟨#[]⟩ : ByteArray), .string (⟨#[]⟩ : ByteArray)]) ?_ 0 _ rfl; (with_reducible repeat (first | refine blk_drewN ?_ _ | refine blk_drew ?_ | refine blk_alloc ?_ _)); exact BK17002.out) hb); have n1_ := Aside0.mk (below_step (by repeat (first | (with_reducible first | exact HB.out | apply below_alloc | apply pw_below_drewN | apply below_drew1 | refine below_set ?_ GE17002.out) | exact HB.out)) hb); clear BK17002; clear HB; have BK17002 := n0_; have HB := n1_; clear n0_ n1_; (try clear hb); (try clear hb2); (try clear hk); (try clear hi)) | ((with_reducible refine gate_dst (N := 6) rfl ?_); refine box_event ?hg (N := 6) ?hd (cs := #[.string (⟨#[]⟩ : ByteArray), .int .i64 0, .string (⟨#[]⟩ : ByteArray)]) (t := 57) ?hr ?_; (case hd => rfl); (case hg => rfl); (case hr => first | (go_simp; done) | (go_simp; rfl)); intro gb17008 hg w43 hbox hb; have n0_ := Aside0.mk (blk_below (g := gb17002) (o := .cells #[.string ((rd_T40 l0 x13_1).f0), .string ((rd_T40 l0 x13_1).f1)] 40 (0, 0)) (by (with_reducible repeat (first | refine blk_drewN ?_ _ | refine blk_drew ?_ | refine blk_alloc ?_ _)); exact BK17002.out) hb); have n1_ := Aside0.mk (below_step (by repeat (first | (with_reducible first | exact HB.out | apply below_alloc | apply pw_below_drewN | apply below_drew1 | refine below_set ?_ GE17002.out) | exact HB.out)) hb); have n2_ := Aside0.mk (hbox); have n3_ := Aside0.mk ((by rw [hg]; exact (below_size (by repeat (first | (with_reducible first | exact HB.out | apply below_alloc | apply pw_below_drewN | apply below_drew1 | refine below_set ?_ GE17002.out) | exact HB.out))) : w.heap.size ≤ gb17008)); have n4_ := Aside0.mk ((by rw [hg]; exact (below_size (by repeat (first | (with_reducible first | exact HB.out | apply below_alloc | apply pw_below_drewN | apply below_drew1 | refine below_set ?_ GE17002.out) | exact HB.out))) : w.heap.size ≤ gb17008)); have n5_ := Aside0.mk ((by rw [hg]; exact Nat.ne_of_lt (blk_lt (g := gb17002) (o := .cells #[.string ((rd_T40 l0 x13_1).f0), .string ((rd_T40 l0 x13_1).f1)] 40 (0, 0)) (by (with_reducible repeat (first | refine blk_drewN ?_ _ | refine blk_drew ?_ | refine blk_alloc ?_ _)); exact BK17002.out)) : gb17002 ≠ gb17008)); have n6_ := Aside0.mk ((by rw [hg]; exact Nat.ne_of_gt (blk_lt (g := gb17002) (o := .cells #[.string ((rd_T40 l0 x13_1).f0), .string ((rd_T40 l0 x13_1).f1)] 40 (0, 0)) (by (with_reducible repeat (first | refine blk_drewN ?_ _ | refine blk_drew ?_ | refine blk_alloc ?_ _)); exact BK17002.out)) : gb17008 ≠ gb17002)); clear BK17002; clear HB; have BK17002 := n0_; have HB := n1_; have BK17008 := n2_; have GW17008 := n3_; have GE17008 := n4_; have NB17002_17008 := n5_; have NB17008_17002 := n6_; clear n0_ n1_ n2_ n3_ n4_ n5_ n6_; clear hb hbox hg; have hnb44 := NB17008_17002.out; have hnc44 := NB17002_17008.out; have hcz45_0 : w43.cell? ⟨gb17008, 0, none⟩ = some (.string (⟨#[]⟩ : ByteArray)) := (blk_cell BK17008.out 0).trans rfl; have hcz45_1 : w43.cell? ⟨gb17008, 1, none⟩ = some (.int .i64 0) := (blk_cell BK17008.out 1).trans rfl; have hcz45_2 : w43.cell? ⟨gb17008, 2, none⟩ = some (.string (⟨#[]⟩ : ByteArray)) := (blk_cell BK17008.out 2).trans rfl; have hfz45_0 := blk_frozen BK17008.out 0; have hfz45_1 := blk_frozen BK17008.out 1; have hfz45_2 := blk_frozen BK17008.out 2; have hcz46_0 : w43.cell? ⟨gb17002, 0, none⟩ = some (.string ((rd_T40 l0 x13_1).f0)) := (blk_cell BK17002.out 0).trans rfl; have hcz46_1 : w43.cell? ⟨gb17002, 1, none⟩ = some (.string ((rd_T40 l0 x13_1).f1)) := (blk_cell BK17002.out 1).trans rfl; have hfz46_0 := blk_frozen BK17002.out 0; have hfz46_1 := blk_frozen BK17002.out 1) | ((with_reducible refine gate_callee (f := 45) rfl ?_); refine goesL_ (some 28) rfl rfl Tryd.func45 (by kernel_rfl) rfl #[.agg #[.string t17003, .int .i64 t17004, .string t17005], .string ((rd_T40 l0 x13_1).f1)] rfl (by (try simp only [List.map_toArray, List.map_cons, List.map_nil]); first | done | rfl | (simp only [List.length_drop, List.length_take]; rfl)) ?_; (with_reducible refine (vars_variable_form.calls k1 t17003 t17004 t17005 ((rd_T40 l0 x13_1).f1) t17009 true _ (Tabs.below ht (by repeat (first | (with_reducible first | exact HB.out | apply below_alloc | apply pw_below_drewN | apply below_drew1 | refine below_set ?_ (Aside0.out (by assumption))) | exact HB.out))) A6.out).mono ?_); rintro e w47 ⟨rfl, hb⟩; refine ⟨_, rfl, ?_⟩; have n0_ := Aside0.mk (blk_below (g := gb17002) (o := .cells #[.string ((rd_T40 l0 x13_1).f0), .string ((rd_T40 l0 x13_1).f1)] 40 (0, 0)) (by (with_reducible repeat (first | refine blk_drewN ?_ _ | refine blk_drew ?_ | refine blk_alloc ?_ _)); refine blk_far ?_ NB17002_17008.out _; (with_reducible repeat (first | refine blk_drewN ?_ _ | refine blk_drew ?_ | refine blk_alloc ?_ _)); refine blk_far ?_ NB17002_17008.out _; (with_reducible repeat (first | refine blk_drewN ?_ _ | refine blk_drew ?_ | refine blk_alloc ?_ _)); refine blk_far ?_ NB17002_17008.out _; (with_reducible repeat (first | refine blk_drewN ?_ _ | refine blk_drew ?_ | refine blk_alloc ?_ _)); exact BK17002.out) hb); have n1_ := Aside0.mk (blk_below (g := gb17008) (o := .cells #[.string t17003, .int .i64 t17004, .string t17005] 57 (0, 0)) (by (with_reducible repeat (first | refine blk_drewN ?_ _ | refine blk_drew ?_ | refine blk_alloc ?_ _)); refine blk_put (cs := #[.string t17003, .int .i64 t17004, .string (⟨#[]⟩ : ByteArray)]) ?_ 2 _ rfl; (with_reducible repeat (first | refine blk_drewN ?_ _ | refine blk_drew ?_ | refine blk_alloc ?_ _)); refine blk_put (cs := #[.string t17003, .int .i64 0, .string (⟨#[]⟩ : ByteArray)]) ?_ 1 _ rfl; (with_reducible repeat (first | refine blk_drewN ?_ _ | refine blk_drew ?_ | refine blk_alloc ?_ _)); refine blk_put (cs := #[.string (⟨#[]⟩ : ByteArray), .int .i64 0, .string (⟨#[]⟩ : ByteArray)]) ?_ 0 _ rfl; (with_reducible repeat (first | refine blk_drewN ?_ _ | refine blk_drew ?_ | refine blk_alloc ?_ _)); exact BK17008.out) hb); have n2_ := Aside0.mk (below_step (by repeat (first | (with_reducible first | exact HB.out | apply below_alloc | apply pw_below_drewN | apply below_drew1 | refine below_set ?_ GE17002.out | refine below_set ?_ GE17008.out) | exact HB.out)) hb); clear BK17002; clear BK17008; clear HB; have BK17002 := n0_; have BK17008 := n1_; have HB := n2_; clear n0_ n1_ n2_; (try clear hb); (try clear hb2); (try clear hk); (try clear hi); have hcz48_0 : w47.cell? ⟨gb17002, 0, none⟩ = some (.string ((rd_T40 l0 x13_1).f0)) := (blk_cell BK17002.out 0).trans rfl; have hcz48_1 : w47.cell? ⟨gb17002, 1, none⟩ = some (.string ((rd_T40 l0 x13_1).f1)) := (blk_cell BK17002.out 1).trans rfl; have hfz48_0 := blk_frozen BK17002.out 0; have hfz48_1 := blk_frozen BK17002.out 1))
                    go_ret
                    exact ⟨by first | rfl | (simp [errW_none, errW_some] <;> rfl) | (simp [*, errW_none, errW_some] <;> rfl), by repeat (first | (with_reducible first | exact HB.out | apply below_alloc | apply pw_below_drewN | apply below_drew1 | refine below_set ?_ GE17002.out | refine below_set ?_ GE17008.out) | exact HB.out)⟩
              · replace c8 := Bool.eq_false_iff.mpr c8
                subst c8
                have H1 : (some false) = some r := by rw [if_neg (show ¬ (false = true) by decide)] at H; exact H
                clear H
                have H := H1
                clear H1
                obtain rfl := Option.some.inj H
                have p17001 : 0 ≤ (x13_1 : Int) := of_decide_eq_true (by first | (with_reducible assumption) | assumption)
                have q17001 : x13_1 < (l0.length : Int) := of_decide_eq_true (by first | (with_reducible assumption) | assumption)
                obtain ⟨ad17001, e17001, hx17001_0, hx17001_1⟩ := at_T40 HR0.out x13_1 p17001 q17001
                cases e17001
                replace hx17001_0 := (HB.out.cell (World.block_lt_of_cell? w _ hx17001_0)).trans hx17001_0
                replace hx17001_1 := (HB.out.cell (World.block_lt_of_cell? w _ hx17001_1)).trans hx17001_1
                replace p17001 := eq_true p17001
                replace q17001 := eq_true q17001
                go_wp2_with (first | ((with_reducible refine gate_dst (N := 5) rfl ?_); refine box_event ?hg (N := 5) ?hd (cs := #[.string (⟨#[]⟩ : ByteArray), .string (⟨#[]⟩ : ByteArray)]) (t := 40) ?hr ?_; (case hd => rfl); (case hg => rfl); (case hr => first | (go_simp; done) | (go_simp; rfl)); intro gb17002 hg w49 hbox hb; have n0_ := Aside0.mk (below_step (by repeat (first | (with_reducible first | exact HB.out | apply below_alloc | apply pw_below_drewN | apply below_drew1) | exact HB.out)) hb); have n1_ := Aside0.mk (hbox); have n2_ := Aside0.mk ((by rw [hg]; exact (below_size (by repeat (first | (with_reducible first | exact HB.out | apply below_alloc | apply pw_below_drewN | apply below_drew1) | exact HB.out))) : w.heap.size ≤ gb17002)); have n3_ := Aside0.mk ((by rw [hg]; exact (below_size (by repeat (first | (with_reducible first | exact HB.out | apply below_alloc | apply pw_below_drewN | apply below_drew1) | exact HB.out))) : w.heap.size ≤ gb17002)); clear HB; have HB := n0_; have BK17002 := n1_; have GW17002 := n2_; have GE17002 := n3_; clear n0_ n1_ n2_ n3_; clear hb hbox hg; have hcz50_0 : w49.cell? ⟨gb17002, 0, none⟩ = some (.string (⟨#[]⟩ : ByteArray)) := (blk_cell BK17002.out 0).trans rfl; have hcz50_1 : w49.cell? ⟨gb17002, 1, none⟩ = some (.string (⟨#[]⟩ : ByteArray)) := (blk_cell BK17002.out 1).trans rfl; have hfz50_0 := blk_frozen BK17002.out 0; have hfz50_1 := blk_frozen BK17002.out 1) | ((with_reducible refine gate_callee (f := 37) rfl ?_); refine goesL_ (some 20) rfl rfl Tryd.func37 (by kernel_rfl) rfl #[.string ((rd_T40 l0 x13_1).f0)] rfl (by (try simp only [List.map_toArray, List.map_cons, List.map_nil]); first | done | rfl | (simp only [List.length_drop, List.length_take]; rfl)) ?_; (with_reducible refine (vars_find.calls k1 ((rd_T40 l0 x13_1).f0) t17003 t17004 t17005 t17006 true _ A5.out).mono ?_); rintro e w51 ⟨rfl, hb⟩; refine ⟨_, rfl, ?_⟩; have n0_ := Aside0.mk (blk_below (g := gb17002) (o := .cells #[.string ((rd_T40 l0 x13_1).f0), .string ((rd_T40 l0 x13_1).f1)] 40 (0, 0)) (by (with_reducible repeat (first | refine blk_drewN ?_ _ | refine blk_drew ?_ | refine blk_alloc ?_ _)); refine blk_put (cs := #[.string ((rd_T40 l0 x13_1).f0), .string (⟨#[]⟩ : ByteArray)]) ?_ 1 _ rfl; (with_reducible repeat (first | refine blk_drewN ?_ _ | refine blk_drew ?_ | refine blk_alloc ?_ _)); refine blk_put (cs := #[.string (⟨#[]⟩ : ByteArray), .string (⟨#[]⟩ : ByteArray)]) ?_ 0 _ rfl; (with_reducible repeat (first | refine blk_drewN ?_ _ | refine blk_drew ?_ | refine blk_alloc ?_ _)); exact BK17002.out) hb); have n1_ := Aside0.mk (below_step (by repeat (first | (with_reducible first | exact HB.out | apply below_alloc | apply pw_below_drewN | apply below_drew1 | refine below_set ?_ GE17002.out) | exact HB.out)) hb); clear BK17002; clear HB; have BK17002 := n0_; have HB := n1_; clear n0_ n1_; (try clear hb); (try clear hb2); (try clear hk); (try clear hi)) | ((with_reducible refine gate_dst (N := 6) rfl ?_); refine box_event ?hg (N := 6) ?hd (cs := #[.string (⟨#[]⟩ : ByteArray), .int .i64 0, .string (⟨#[]⟩ : ByteArray)]) (t := 57) ?hr ?_; (case hd => rfl); (case hg => rfl); (case hr => first | (go_simp; done) | (go_simp; rfl)); intro gb17008 hg w52 hbox hb; have n0_ := Aside0.mk (blk_below (g := gb17002) (o := .cells #[.string ((rd_T40 l0 x13_1).f0), .string ((rd_T40 l0 x13_1).f1)] 40 (0, 0)) (by (with_reducible repeat (first | refine blk_drewN ?_ _ | refine blk_drew ?_ | refine blk_alloc ?_ _)); exact BK17002.out) hb); have n1_ := Aside0.mk (below_step (by repeat (first | (with_reducible first | exact HB.out | apply below_alloc | apply pw_below_drewN | apply below_drew1 | refine below_set ?_ GE17002.out) | exact HB.out)) hb); have n2_ := Aside0.mk (hbox); have n3_ := Aside0.mk ((by rw [hg]; exact (below_size (by repeat (first | (with_reducible first | exact HB.out | apply below_alloc | apply pw_below_drewN | apply below_drew1 | refine below_set ?_ GE17002.out) | exact HB.out))) : w.heap.size ≤ gb17008)); have n4_ := Aside0.mk ((by rw [hg]; exact (below_size (by repeat (first | (with_reducible first | exact HB.out | apply below_alloc | apply pw_below_drewN | apply below_drew1 | refine below_set ?_ GE17002.out) | exact HB.out))) : w.heap.size ≤ gb17008)); have n5_ := Aside0.mk ((by rw [hg]; exact Nat.ne_of_lt (blk_lt (g := gb17002) (o := .cells #[.string ((rd_T40 l0 x13_1).f0), .string ((rd_T40 l0 x13_1).f1)] 40 (0, 0)) (by (with_reducible repeat (first | refine blk_drewN ?_ _ | refine blk_drew ?_ | refine blk_alloc ?_ _)); exact BK17002.out)) : gb17002 ≠ gb17008)); have n6_ := Aside0.mk ((by rw [hg]; exact Nat.ne_of_gt (blk_lt (g := gb17002) (o := .cells #[.string ((rd_T40 l0 x13_1).f0), .string ((rd_T40 l0 x13_1).f1)] 40 (0, 0)) (by (with_reducible repeat (first | refine blk_drewN ?_ _ | refine blk_drew ?_ | refine blk_alloc ?_ _)); exact BK17002.out)) : gb17008 ≠ gb17002)); clear BK17002; clear HB; have BK17002 := n0_; have HB := n1_; have BK17008 := n2_; have GW17008 := n3_; have GE17008 := n4_; have NB17002_17008 := n5_; have NB17008_17002 := n6_; clear n0_ n1_ n2_ n3_ n4_ n5_ n6_; clear hb hbox hg; have hnb53 := NB17008_17002.out; have hnc53 := NB17002_17008.out; have hcz54_0 : w52.cell? ⟨gb17008, 0, none⟩ = some (.string (⟨#[]⟩ : ByteArray)) := (blk_cell BK17008.out 0).trans rfl; have hcz54_1 : w52.cell? ⟨gb17008, 1, none⟩ = some (.int .i64 0) := (blk_cell BK17008.out 1).trans rfl; have hcz54_2 : w52.cell? ⟨gb17008, 2, none⟩ = some (.string (⟨#[]⟩ : ByteArray)) := (blk_cell BK17008.out 2).trans rfl; have hfz54_0 := blk_frozen BK17008.out 0; have hfz54_1 := blk_frozen BK17008.out 1; have hfz54_2 := blk_frozen BK17008.out 2; have hcz55_0 : w52.cell? ⟨gb17002, 0, none⟩ = some (.string ((rd_T40 l0 x13_1).f0)) := (blk_cell BK17002.out 0).trans rfl; have hcz55_1 : w52.cell? ⟨gb17002, 1, none⟩ = some (.string ((rd_T40 l0 x13_1).f1)) := (blk_cell BK17002.out 1).trans rfl; have hfz55_0 := blk_frozen BK17002.out 0; have hfz55_1 := blk_frozen BK17002.out 1) | ((with_reducible refine gate_callee (f := 45) rfl ?_); refine goesL_ (some 28) rfl rfl Tryd.func45 (by kernel_rfl) rfl #[.agg #[.string t17003, .int .i64 t17004, .string t17005], .string ((rd_T40 l0 x13_1).f1)] rfl (by (try simp only [List.map_toArray, List.map_cons, List.map_nil]); first | done | rfl | (simp only [List.length_drop, List.length_take]; rfl)) ?_; (with_reducible refine (vars_variable_form.calls k1 t17003 t17004 t17005 ((rd_T40 l0 x13_1).f1) t17009 false _ (Tabs.below ht (by repeat (first | (with_reducible first | exact HB.out | apply below_alloc | apply pw_below_drewN | apply below_drew1 | refine below_set ?_ (Aside0.out (by assumption))) | exact HB.out))) A6.out).mono ?_); rintro e w56 ⟨rfl, hb⟩; refine ⟨_, rfl, ?_⟩; have n0_ := Aside0.mk (blk_below (g := gb17002) (o := .cells #[.string ((rd_T40 l0 x13_1).f0), .string ((rd_T40 l0 x13_1).f1)] 40 (0, 0)) (by (with_reducible repeat (first | refine blk_drewN ?_ _ | refine blk_drew ?_ | refine blk_alloc ?_ _)); refine blk_far ?_ NB17002_17008.out _; (with_reducible repeat (first | refine blk_drewN ?_ _ | refine blk_drew ?_ | refine blk_alloc ?_ _)); refine blk_far ?_ NB17002_17008.out _; (with_reducible repeat (first | refine blk_drewN ?_ _ | refine blk_drew ?_ | refine blk_alloc ?_ _)); refine blk_far ?_ NB17002_17008.out _; (with_reducible repeat (first | refine blk_drewN ?_ _ | refine blk_drew ?_ | refine blk_alloc ?_ _)); exact BK17002.out) hb); have n1_ := Aside0.mk (blk_below (g := gb17008) (o := .cells #[.string t17003, .int .i64 t17004, .string t17005] 57 (0, 0)) (by (with_reducible repeat (first | refine blk_drewN ?_ _ | refine blk_drew ?_ | refine blk_alloc ?_ _)); refine blk_put (cs := #[.string t17003, .int .i64 t17004, .string (⟨#[]⟩ : ByteArray)]) ?_ 2 _ rfl; (with_reducible repeat (first | refine blk_drewN ?_ _ | refine blk_drew ?_ | refine blk_alloc ?_ _)); refine blk_put (cs := #[.string t17003, .int .i64 0, .string (⟨#[]⟩ : ByteArray)]) ?_ 1 _ rfl; (with_reducible repeat (first | refine blk_drewN ?_ _ | refine blk_drew ?_ | refine blk_alloc ?_ _)); refine blk_put (cs := #[.string (⟨#[]⟩ : ByteArray), .int .i64 0, .string (⟨#[]⟩ : ByteArray)]) ?_ 0 _ rfl; (with_reducible repeat (first | refine blk_drewN ?_ _ | refine blk_drew ?_ | refine blk_alloc ?_ _)); exact BK17008.out) hb); have n2_ := Aside0.mk (below_step (by repeat (first | (with_reducible first | exact HB.out | apply below_alloc | apply pw_below_drewN | apply below_drew1 | refine below_set ?_ GE17002.out | refine below_set ?_ GE17008.out) | exact HB.out)) hb); clear BK17002; clear BK17008; clear HB; have BK17002 := n0_; have BK17008 := n1_; have HB := n2_; clear n0_ n1_ n2_; (try clear hb); (try clear hb2); (try clear hk); (try clear hi)))
                go_ret
                exact ⟨by first | rfl | (simp [errW_none, errW_some] <;> rfl) | (simp [*, errW_none, errW_some] <;> rfl), by repeat (first | (with_reducible first | exact HB.out | apply below_alloc | apply pw_below_drewN | apply below_drew1 | refine below_set ?_ GE17002.out | refine below_set ?_ GE17008.out) | exact HB.out)⟩
            · replace c7 := Bool.eq_false_iff.mpr c7
              subst c7
              have H1 : (some false) = some r := by rw [if_neg (show ¬ (false = true) by decide)] at H; exact H
              clear H
              have H := H1
              clear H1
              obtain rfl := Option.some.inj H
              have p17001 : 0 ≤ (x13_1 : Int) := of_decide_eq_true (by first | (with_reducible assumption) | assumption)
              have q17001 : x13_1 < (l0.length : Int) := of_decide_eq_true (by first | (with_reducible assumption) | assumption)
              obtain ⟨ad17001, e17001, hx17001_0, hx17001_1⟩ := at_T40 HR0.out x13_1 p17001 q17001
              cases e17001
              replace hx17001_0 := (HB.out.cell (World.block_lt_of_cell? w _ hx17001_0)).trans hx17001_0
              replace hx17001_1 := (HB.out.cell (World.block_lt_of_cell? w _ hx17001_1)).trans hx17001_1
              replace p17001 := eq_true p17001
              replace q17001 := eq_true q17001
              go_wp2_with (first | ((with_reducible refine gate_dst (N := 5) rfl ?_); refine box_event ?hg (N := 5) ?hd (cs := #[.string (⟨#[]⟩ : ByteArray), .string (⟨#[]⟩ : ByteArray)]) (t := 40) ?hr ?_; (case hd => rfl); (case hg => rfl); (case hr => first | (go_simp; done) | (go_simp; rfl)); intro gb17002 hg w57 hbox hb; have n0_ := Aside0.mk (below_step (by repeat (first | (with_reducible first | exact HB.out | apply below_alloc | apply pw_below_drewN | apply below_drew1) | exact HB.out)) hb); have n1_ := Aside0.mk (hbox); have n2_ := Aside0.mk ((by rw [hg]; exact (below_size (by repeat (first | (with_reducible first | exact HB.out | apply below_alloc | apply pw_below_drewN | apply below_drew1) | exact HB.out))) : w.heap.size ≤ gb17002)); have n3_ := Aside0.mk ((by rw [hg]; exact (below_size (by repeat (first | (with_reducible first | exact HB.out | apply below_alloc | apply pw_below_drewN | apply below_drew1) | exact HB.out))) : w.heap.size ≤ gb17002)); clear HB; have HB := n0_; have BK17002 := n1_; have GW17002 := n2_; have GE17002 := n3_; clear n0_ n1_ n2_ n3_; clear hb hbox hg; have hcz58_0 : w57.cell? ⟨gb17002, 0, none⟩ = some (.string (⟨#[]⟩ : ByteArray)) := (blk_cell BK17002.out 0).trans rfl; have hcz58_1 : w57.cell? ⟨gb17002, 1, none⟩ = some (.string (⟨#[]⟩ : ByteArray)) := (blk_cell BK17002.out 1).trans rfl; have hfz58_0 := blk_frozen BK17002.out 0; have hfz58_1 := blk_frozen BK17002.out 1) | ((with_reducible refine gate_callee (f := 37) rfl ?_); refine goesL_ (some 20) rfl rfl Tryd.func37 (by kernel_rfl) rfl #[.string ((rd_T40 l0 x13_1).f0)] rfl (by (try simp only [List.map_toArray, List.map_cons, List.map_nil]); first | done | rfl | (simp only [List.length_drop, List.length_take]; rfl)) ?_; (with_reducible refine (vars_find.calls k1 ((rd_T40 l0 x13_1).f0) t17003 t17004 t17005 t17006 false _ A5.out).mono ?_); rintro e w59 ⟨rfl, hb⟩; refine ⟨_, rfl, ?_⟩; have n0_ := Aside0.mk (blk_below (g := gb17002) (o := .cells #[.string ((rd_T40 l0 x13_1).f0), .string ((rd_T40 l0 x13_1).f1)] 40 (0, 0)) (by (with_reducible repeat (first | refine blk_drewN ?_ _ | refine blk_drew ?_ | refine blk_alloc ?_ _)); refine blk_put (cs := #[.string ((rd_T40 l0 x13_1).f0), .string (⟨#[]⟩ : ByteArray)]) ?_ 1 _ rfl; (with_reducible repeat (first | refine blk_drewN ?_ _ | refine blk_drew ?_ | refine blk_alloc ?_ _)); refine blk_put (cs := #[.string (⟨#[]⟩ : ByteArray), .string (⟨#[]⟩ : ByteArray)]) ?_ 0 _ rfl; (with_reducible repeat (first | refine blk_drewN ?_ _ | refine blk_drew ?_ | refine blk_alloc ?_ _)); exact BK17002.out) hb); have n1_ := Aside0.mk (below_step (by repeat (first | (with_reducible first | exact HB.out | apply below_alloc | apply pw_below_drewN | apply below_drew1 | refine below_set ?_ GE17002.out) | exact HB.out)) hb); clear BK17002; clear HB; have BK17002 := n0_; have HB := n1_; clear n0_ n1_; (try clear hb); (try clear hb2); (try clear hk); (try clear hi)) | ((with_reducible refine gate_dst (N := 6) rfl ?_); refine box_event ?hg (N := 6) ?hd (cs := #[.string (⟨#[]⟩ : ByteArray), .int .i64 0, .string (⟨#[]⟩ : ByteArray)]) (t := 57) ?hr ?_; (case hd => rfl); (case hg => rfl); (case hr => first | (go_simp; done) | (go_simp; rfl)); intro gb17008 hg w60 hbox hb; have n0_ := Aside0.mk (blk_below (g := gb17002) (o := .cells #[.string ((rd_T40 l0 x13_1).f0), .string ((rd_T40 l0 x13_1).f1)] 40 (0, 0)) (by (with_reducible repeat (first | refine blk_drewN ?_ _ | refine blk_drew ?_ | refine blk_alloc ?_ _)); exact BK17002.out) hb); have n1_ := Aside0.mk (below_step (by repeat (first | (with_reducible first | exact HB.out | apply below_alloc | apply pw_below_drewN | apply below_drew1 | refine below_set ?_ GE17002.out) | exact HB.out)) hb); have n2_ := Aside0.mk (hbox); have n3_ := Aside0.mk ((by rw [hg]; exact (below_size (by repeat (first | (with_reducible first | exact HB.out | apply below_alloc | apply pw_below_drewN | apply below_drew1 | refine below_set ?_ GE17002.out) | exact HB.out))) : w.heap.size ≤ gb17008)); have n4_ := Aside0.mk ((by rw [hg]; exact (below_size (by repeat (first | (with_reducible first | exact HB.out | apply below_alloc | apply pw_below_drewN | apply below_drew1 | refine below_set ?_ GE17002.out) | exact HB.out))) : w.heap.size ≤ gb17008)); have n5_ := Aside0.mk ((by rw [hg]; exact Nat.ne_of_lt (blk_lt (g := gb17002) (o := .cells #[.string ((rd_T40 l0 x13_1).f0), .string ((rd_T40 l0 x13_1).f1)] 40 (0, 0)) (by (with_reducible repeat (first | refine blk_drewN ?_ _ | refine blk_drew ?_ | refine blk_alloc ?_ _)); exact BK17002.out)) : gb17002 ≠ gb17008)); have n6_ := Aside0.mk ((by rw [hg]; exact Nat.ne_of_gt (blk_lt (g := gb17002) (o := .cells #[.string ((rd_T40 l0 x13_1).f0), .string ((rd_T40 l0 x13_1).f1)] 40 (0, 0)) (by (with_reducible repeat (first | refine blk_drewN ?_ _ | refine blk_drew ?_ | refine blk_alloc ?_ _)); exact BK17002.out)) : gb17008 ≠ gb17002)); clear BK17002; clear HB; have BK17002 := n0_; have HB := n1_; have BK17008 := n2_; have GW17008 := n3_; have GE17008 := n4_; have NB17002_17008 := n5_; have NB17008_17002 := n6_; clear n0_ n1_ n2_ n3_ n4_ n5_ n6_; clear hb hbox hg; have hnb61 := NB17008_17002.out; have hnc61 := NB17002_17008.out; have hcz62_0 : w60.cell? ⟨gb17008, 0, none⟩ = some (.string (⟨#[]⟩ : ByteArray)) := (blk_cell BK17008.out 0).trans rfl; have hcz62_1 : w60.cell? ⟨gb17008, 1, none⟩ = some (.int .i64 0) := (blk_cell BK17008.out 1).trans rfl; have hcz62_2 : w60.cell? ⟨gb17008, 2, none⟩ = some (.string (⟨#[]⟩ : ByteArray)) := (blk_cell BK17008.out 2).trans rfl; have hfz62_0 := blk_frozen BK17008.out 0; have hfz62_1 := blk_frozen BK17008.out 1; have hfz62_2 := blk_frozen BK17008.out 2; have hcz63_0 : w60.cell? ⟨gb17002, 0, none⟩ = some (.string ((rd_T40 l0 x13_1).f0)) := (blk_cell BK17002.out 0).trans rfl; have hcz63_1 : w60.cell? ⟨gb17002, 1, none⟩ = some (.string ((rd_T40 l0 x13_1).f1)) := (blk_cell BK17002.out 1).trans rfl; have hfz63_0 := blk_frozen BK17002.out 0; have hfz63_1 := blk_frozen BK17002.out 1) | ((with_reducible refine gate_callee (f := 45) rfl ?_); refine goesL_ (some 28) rfl rfl Tryd.func45 (by kernel_rfl) rfl #[.agg #[.string t17003, .int .i64 t17004, .string t17005], .string ((rd_T40 l0 x13_1).f1)] rfl (by (try simp only [List.map_toArray, List.map_cons, List.map_nil]); first | done | rfl | (simp only [List.length_drop, List.length_take]; rfl)) ?_; (with_reducible refine (vars_variable_form.calls k1 t17003 t17004 t17005 ((rd_T40 l0 x13_1).f1) t17009 t17010 _ (Tabs.below ht (by repeat (first | (with_reducible first | exact HB.out | apply below_alloc | apply pw_below_drewN | apply below_drew1 | refine below_set ?_ (Aside0.out (by assumption))) | exact HB.out))) A6.out).mono ?_); rintro e w64 ⟨rfl, hb⟩; refine ⟨_, rfl, ?_⟩; have n0_ := Aside0.mk (blk_below (g := gb17002) (o := .cells #[.string ((rd_T40 l0 x13_1).f0), .string ((rd_T40 l0 x13_1).f1)] 40 (0, 0)) (by (with_reducible repeat (first | refine blk_drewN ?_ _ | refine blk_drew ?_ | refine blk_alloc ?_ _)); refine blk_far ?_ NB17002_17008.out _; (with_reducible repeat (first | refine blk_drewN ?_ _ | refine blk_drew ?_ | refine blk_alloc ?_ _)); refine blk_far ?_ NB17002_17008.out _; (with_reducible repeat (first | refine blk_drewN ?_ _ | refine blk_drew ?_ | refine blk_alloc ?_ _)); refine blk_far ?_ NB17002_17008.out _; (with_reducible repeat (first | refine blk_drewN ?_ _ | refine blk_drew ?_ | refine blk_alloc ?_ _)); exact BK17002.out) hb); have n1_ := Aside0.mk (blk_below (g := gb17008) (o := .cells #[.string t17003, .int .i64 t17004, .string t17005] 57 (0, 0)) (by (with_reducible repeat (first | refine blk_drewN ?_ _ | refine blk_drew ?_ | refine blk_alloc ?_ _)); refine blk_put (cs := #[.string t17003, .int .i64 t17004, .string (⟨#[]⟩ : ByteArray)]) ?_ 2 _ rfl; (with_reducible repeat (first | refine blk_drewN ?_ _ | refine blk_drew ?_ | refine blk_alloc ?_ _)); refine blk_put (cs := #[.string t17003, .int .i64 0, .string (⟨#[]⟩ : ByteArray)]) ?_ 1 _ rfl; (with_reducible repeat (first | refine blk_drewN ?_ _ | refine blk_drew ?_ | refine blk_alloc ?_ _)); refine blk_put (cs := #[.string (⟨#[]⟩ : ByteArray), .int .i64 0, .string (⟨#[]⟩ : ByteArray)]) ?_ 0 _ rfl; (with_reducible repeat (first | refine blk_drewN ?_ _ | refine blk_drew ?_ | refine blk_alloc ?_ _)); exact BK17008.out) hb); have n2_ := Aside0.mk (below_step (by repeat (first | (with_reducible first | exact HB.out | apply below_alloc | apply pw_below_drewN | apply below_drew1 | refine below_set ?_ GE17002.out | refine below_set ?_ GE17008.out) | exact HB.out)) hb); clear BK17002; clear BK17008; clear HB; have BK17002 := n0_; have BK17008 := n1_; have HB := n2_; clear n0_ n1_ n2_; (try clear hb); (try clear hb2); (try clear hk); (try clear hi)))
              go_ret
              exact ⟨by first | rfl | (simp [errW_none, errW_some] <;> rfl) | (simp [*, errW_none, errW_some] <;> rfl), by repeat (first | (with_reducible first | exact HB.out | apply below_alloc | apply pw_below_drewN | apply below_drew1 | refine below_set ?_ GE17002.out | refine below_set ?_ GE17008.out) | exact HB.out)⟩
          · rw [if_neg c4] at H
            exact absurd H (by simp)
        · rw [if_neg c3] at H
          exact absurd H (by simp)
      · rw [if_neg c2] at H
        have c2b0 : decide (x13_1 < (l0.length : Int)) = false := decide_eq_false c2
        clear c2
        obtain rfl := Option.some.inj H
        go_wp2
        go_ret
        exact ⟨by first | rfl | (simp [errW_none, errW_some] <;> rfl) | (simp [*, errW_none, errW_some] <;> rfl), by repeat (first | (with_reducible first | exact HB.out | apply below_alloc | apply pw_below_drewN | apply below_drew1) | exact HB.out)⟩

end Go.Proofs.YtefhngadeimklaaDoor.Q
end
section
namespace Go.Proofs.YtefhngadeimklaaDoor.Q
open Go.RowKit Go.Proofs.YtefhngadeimklaaDoorW.PrintWords Go.Proofs.YtefhngadeimklaaDoorW.PrintLast Go.Proofs.YtefhngadeimklaaDoorW.PrintMore
set_option linter.unusedVariables false
set_option linter.unusedSimpArgs false

attribute [local go_sem] max2_int min2_int max_two min_two max_three min_three max_four min_four
/-! ### vars_Form: function 17 -/
def vars_Form.f (k : Nat) (a0 : ByteArray) (a1 : ByteArray) : Option (ByteArray × Int) := (vars_find.f k a0).bind fun bt18001 => (if bt18001.2.2.2.2 = true then ((vars_variable_form.f k bt18001.1 bt18001.2.1 bt18001.2.2.1 a1).bind fun bt18007 => (if bt18007.2 = true then (some (bt18007.1, 0)) else (some ((⟨#[]⟩ : ByteArray), 27)))) else (some ((⟨#[]⟩ : ByteArray), 2)))
set_option maxHeartbeats 8000000 in
set_option maxRecDepth 100000 in
theorem vars_Form.calls (k : Nat) (a0 : ByteArray) (a1 : ByteArray) (r1 : ByteArray) (r2 : Int) (w : World) (ht : Tabs w) (h : vars_Form.f k a0 a1 = some (r1, r2)) :
    Calls Tryd.prog 17 #[.string a0, .string a1] w fun e w' => e = .returned (.tuple #[.string r1, .int .i64 r2]) ∧ Below w.heap.size w w' := by
  have hu57 := Tryd.underlying57
  have HB := Aside0.mk (Below.refl w.heap.size w)
  have H : ((vars_find.f k a0).bind fun bt18001 => (if bt18001.2.2.2.2 = true then ((vars_variable_form.f k bt18001.1 bt18001.2.1 bt18001.2.2.1 a1).bind fun bt18007 => (if bt18007.2 = true then (some (bt18007.1, 0)) else (some ((⟨#[]⟩ : ByteArray), 27)))) else (some ((⟨#[]⟩ : ByteArray), 2)))) = some (r1, r2) := h
  clear h
  replace H := Option.bind_eq_some_iff.mp H
  obtain ⟨⟨t18001, t18002, t18003, t18004, t18005⟩, A30, H⟩ := H
  replace H : (if t18005 = true then ((vars_variable_form.f k t18001 t18002 t18003 a1).bind fun bt18007 => (if bt18007.2 = true then (some (bt18007.1, 0)) else (some ((⟨#[]⟩ : ByteArray), 27)))) else (some ((⟨#[]⟩ : ByteArray), 2))) = some (r1, r2) := H
  have A3 := Aside0.mk A30
  clear A30
  by_cases c4 : t18005 = true
  · subst c4
    have H1 : ((vars_variable_form.f k t18001 t18002 t18003 a1).bind fun bt18007 => (if bt18007.2 = true then (some (bt18007.1, 0)) else (some ((⟨#[]⟩ : ByteArray), 27)))) = some (r1, r2) := by rw [if_pos rfl] at H; exact H
    clear H
    have H := H1
    clear H1
    replace H := Option.bind_eq_some_iff.mp H
    obtain ⟨⟨t18007, t18008⟩, A50, H⟩ := H
    replace H : (if t18008 = true then (some (t18007, 0)) else (some ((⟨#[]⟩ : ByteArray), 27))) = some (r1, r2) := H
    have A5 := Aside0.mk A50
    clear A50
    by_cases c6 : t18008 = true
    · subst c6
      have H1 : (some (t18007, 0)) = some (r1, r2) := by rw [if_pos rfl] at H; exact H
      clear H
      have H := H1
      clear H1
      simp only [Option.some.injEq, Prod.mk.injEq] at H
      obtain ⟨rfl, rfl⟩ := H
      go_enter Tryd.func17, Tryd.ntmps17
      go_wp2_with (first | ((with_reducible refine gate_callee (f := 37) rfl ?_); refine goesL_ (some 12) rfl rfl Tryd.func37 (by kernel_rfl) rfl #[.string a0] rfl (by (try simp only [List.map_toArray, List.map_cons, List.map_nil]); first | done | rfl | (simp only [List.length_drop, List.length_take]; rfl)) ?_; (with_reducible refine (vars_find.calls k a0 t18001 t18002 t18003 t18004 true _ A3.out).mono ?_); rintro e w7 ⟨rfl, hb⟩; refine ⟨_, rfl, ?_⟩; have n0_ := Aside0.mk (below_step (by repeat (first | (with_reducible first | exact HB.out | apply below_alloc | apply pw_below_drewN | apply below_drew1) | exact HB.out)) hb); clear HB; have HB := n0_; clear n0_; (try clear hb); (try clear hb2); (try clear hk); (try clear hi)) | ((with_reducible refine gate_dst (N := 6) rfl ?_); refine box_event ?hg (N := 6) ?hd (cs := #[.string (⟨#[]⟩ : ByteArray), .int .i64 0, .string (⟨#[]⟩ : ByteArray)]) (t := 57) ?hr ?_; (case hd => rfl); (case hg => rfl); (case hr => first | (go_simp; done) | (go_simp; rfl)); intro gb18006 hg w8 hbox hb; have n0_ := Aside0.mk (below_step (by repeat (first | (with_reducible first | exact HB.out | apply below_alloc | apply pw_below_drewN | apply below_drew1) | exact HB.out)) hb); have n1_ := Aside0.mk (hbox); have n2_ := Aside0.mk ((by rw [hg]; exact (below_size (by repeat (first | (with_reducible first | exact HB.out | apply below_alloc | apply pw_below_drewN | apply below_drew1) | exact HB.out))) : w.heap.size ≤ gb18006)); have n3_ := Aside0.mk ((by rw [hg]; exact (below_size (by repeat (first | (with_reducible first | exact HB.out | apply below_alloc | apply pw_below_drewN | apply below_drew1) | exact HB.out))) : w.heap.size ≤ gb18006)); clear HB; have HB := n0_; have BK18006 := n1_; have GW18006 := n2_; have GE18006 := n3_; clear n0_ n1_ n2_ n3_; clear hb hbox hg; have hcz9_0 : w8.cell? ⟨gb18006, 0, none⟩ = some (.string (⟨#[]⟩ : ByteArray)) := (blk_cell BK18006.out 0).trans rfl; have hcz9_1 : w8.cell? ⟨gb18006, 1, none⟩ = some (.int .i64 0) := (blk_cell BK18006.out 1).trans rfl; have hcz9_2 : w8.cell? ⟨gb18006, 2, none⟩ = some (.string (⟨#[]⟩ : ByteArray)) := (blk_cell BK18006.out 2).trans rfl; have hfz9_0 := blk_frozen BK18006.out 0; have hfz9_1 := blk_frozen BK18006.out 1; have hfz9_2 := blk_frozen BK18006.out 2) | ((with_reducible refine gate_callee (f := 45) rfl ?_); refine goesL_ (some 21) rfl rfl Tryd.func45 (by kernel_rfl) rfl #[.agg #[.string t18001, .int .i64 t18002, .string t18003], .string a1] rfl (by (try simp only [List.map_toArray, List.map_cons, List.map_nil]); first | done | rfl | (simp only [List.length_drop, List.length_take]; rfl)) ?_; (with_reducible refine (vars_variable_form.calls k t18001 t18002 t18003 a1 t18007 true _ (Tabs.below ht (by repeat (first | (with_reducible first | exact HB.out | apply below_alloc | apply pw_below_drewN | apply below_drew1 | refine below_set ?_ (Aside0.out (by assumption))) | exact HB.out))) A5.out).mono ?_); rintro e w10 ⟨rfl, hb⟩; refine ⟨_, rfl, ?_⟩; have n0_ := Aside0.mk (blk_below (g := gb18006) (o := .cells #[.string t18001, .int .i64 t18002, .string t18003] 57 (0, 0)) (by (with_reducible repeat (first | refine blk_drewN ?_ _ | refine blk_drew ?_ | refine blk_alloc ?_ _)); refine blk_put (cs := #[.string t18001, .int .i64 t18002, .string (⟨#[]⟩ : ByteArray)]) ?_ 2 _ rfl; (with_reducible repeat (first | refine blk_drewN ?_ _ | refine blk_drew ?_ | refine blk_alloc ?_ _)); refine blk_put (cs := #[.string t18001, .int .i64 0, .string (⟨#[]⟩ : ByteArray)]) ?_ 1 _ rfl; (with_reducible repeat (first | refine blk_drewN ?_ _ | refine blk_drew ?_ | refine blk_alloc ?_ _)); refine blk_put (cs := #[.string (⟨#[]⟩ : ByteArray), .int .i64 0, .string (⟨#[]⟩ : ByteArray)]) ?_ 0 _ rfl; (with_reducible repeat (first | refine blk_drewN ?_ _ | refine blk_drew ?_ | refine blk_alloc ?_ _)); exact BK18006.out) hb); have n1_ := Aside0.mk (below_step (by repeat (first | (with_reducible first | exact HB.out | apply below_alloc | apply pw_below_drewN | apply below_drew1 | refine below_set ?_ GE18006.out) | exact HB.out)) hb); clear BK18006; clear HB; have BK18006 := n0_; have HB := n1_; clear n0_ n1_; (try clear hb); (try clear hb2); (try clear hk); (try clear hi)))
      go_ret2
      exact ⟨by first | rfl | (simp [errW_none, errW_some] <;> rfl) | (simp [*, errW_none, errW_some] <;> rfl), by repeat (first | (with_reducible first | exact HB.out | apply below_alloc | apply pw_below_drewN | apply below_drew1 | refine below_set ?_ GE18006.out) | exact HB.out)⟩
    · replace c6 := Bool.eq_false_iff.mpr c6
      subst c6
      have H1 : (some ((⟨#[]⟩ : ByteArray), 27)) = some (r1, r2) := by rw [if_neg (show ¬ (false = true) by decide)] at H; exact H
      clear H
      have H := H1
      clear H1
      simp only [Option.some.injEq, Prod.mk.injEq] at H
      obtain ⟨rfl, rfl⟩ := H
      go_enter Tryd.func17, Tryd.ntmps17
      go_wp2_with (first | ((with_reducible refine gate_callee (f := 37) rfl ?_); refine goesL_ (some 12) rfl rfl Tryd.func37 (by kernel_rfl) rfl #[.string a0] rfl (by (try simp only [List.map_toArray, List.map_cons, List.map_nil]); first | done | rfl | (simp only [List.length_drop, List.length_take]; rfl)) ?_; (with_reducible refine (vars_find.calls k a0 t18001 t18002 t18003 t18004 true _ A3.out).mono ?_); rintro e w11 ⟨rfl, hb⟩; refine ⟨_, rfl, ?_⟩; have n0_ := Aside0.mk (below_step (by repeat (first | (with_reducible first | exact HB.out | apply below_alloc | apply pw_below_drewN | apply below_drew1) | exact HB.out)) hb); clear HB; have HB := n0_; clear n0_; (try clear hb); (try clear hb2); (try clear hk); (try clear hi)) | ((with_reducible refine gate_dst (N := 6) rfl ?_); refine box_event ?hg (N := 6) ?hd (cs := #[.string (⟨#[]⟩ : ByteArray), .int .i64 0, .string (⟨#[]⟩ : ByteArray)]) (t := 57) ?hr ?_; (case hd => rfl); (case hg => rfl); (case hr => first | (go_simp; done) | (go_simp; rfl)); intro gb18006 hg w12 hbox hb; have n0_ := Aside0.mk (below_step (by repeat (first | (with_reducible first | exact HB.out | apply below_alloc | apply pw_below_drewN | apply below_drew1) | exact HB.out)) hb); have n1_ := Aside0.mk (hbox); have n2_ := Aside0.mk ((by rw [hg]; exact (below_size (by repeat (first | (with_reducible first | exact HB.out | apply below_alloc | apply pw_below_drewN | apply below_drew1) | exact HB.out))) : w.heap.size ≤ gb18006)); have n3_ := Aside0.mk ((by rw [hg]; exact (below_size (by repeat (first | (with_reducible first | exact HB.out | apply below_alloc | apply pw_below_drewN | apply below_drew1) | exact HB.out))) : w.heap.size ≤ gb18006)); clear HB; have HB := n0_; have BK18006 := n1_; have GW18006 := n2_; have GE18006 := n3_; clear n0_ n1_ n2_ n3_; clear hb hbox hg; have hcz13_0 : w12.cell? ⟨gb18006, 0, none⟩ = some (.string (⟨#[]⟩ : ByteArray)) := (blk_cell BK18006.out 0).trans rfl; have hcz13_1 : w12.cell? ⟨gb18006, 1, none⟩ = some (.int .i64 0) := (blk_cell BK18006.out 1).trans rfl; have hcz13_2 : w12.cell? ⟨gb18006, 2, none⟩ = some (.string (⟨#[]⟩ : ByteArray)) := (blk_cell BK18006.out 2).trans rfl; have hfz13_0 := blk_frozen BK18006.out 0; have hfz13_1 := blk_frozen BK18006.out 1; have hfz13_2 := blk_frozen BK18006.out 2) | ((with_reducible refine gate_callee (f := 45) rfl ?_); refine goesL_ (some 21) rfl rfl Tryd.func45 (by kernel_rfl) rfl #[.agg #[.string t18001, .int .i64 t18002, .string t18003], .string a1] rfl (by (try simp only [List.map_toArray, List.map_cons, List.map_nil]); first | done | rfl | (simp only [List.length_drop, List.length_take]; rfl)) ?_; (with_reducible refine (vars_variable_form.calls k t18001 t18002 t18003 a1 t18007 false _ (Tabs.below ht (by repeat (first | (with_reducible first | exact HB.out | apply below_alloc | apply pw_below_drewN | apply below_drew1 | refine below_set ?_ (Aside0.out (by assumption))) | exact HB.out))) A5.out).mono ?_); rintro e w14 ⟨rfl, hb⟩; refine ⟨_, rfl, ?_⟩; have n0_ := Aside0.mk (blk_below (g := gb18006) (o := .cells #[.string t18001, .int .i64 t18002, .string t18003] 57 (0, 0)) (by (with_reducible repeat (first | refine blk_drewN ?_ _ | refine blk_drew ?_ | refine blk_alloc ?_ _)); refine blk_put (cs := #[.string t18001, .int .i64 t18002, .string (⟨#[]⟩ : ByteArray)]) ?_ 2 _ rfl; (with_reducible repeat (first | refine blk_drewN ?_ _ | refine blk_drew ?_ | refine blk_alloc ?_ _)); refine blk_put (cs := #[.string t18001, .int .i64 0, .string (⟨#[]⟩ : ByteArray)]) ?_ 1 _ rfl; (with_reducible repeat (first | refine blk_drewN ?_ _ | refine blk_drew ?_ | refine blk_alloc ?_ _)); refine blk_put (cs := #[.string (⟨#[]⟩ : ByteArray), .int .i64 0, .string (⟨#[]⟩ : ByteArray)]) ?_ 0 _ rfl; (with_reducible repeat (first | refine blk_drewN ?_ _ | refine blk_drew ?_ | refine blk_alloc ?_ _)); exact BK18006.out) hb); have n1_ := Aside0.mk (below_step (by repeat (first | (with_reducible first | exact HB.out | apply below_alloc | apply pw_below_drewN | apply below_drew1 | refine below_set ?_ GE18006.out) | exact HB.out)) hb); clear BK18006; clear HB; have BK18006 := n0_; have HB := n1_; clear n0_ n1_; (try clear hb); (try clear hb2); (try clear hk); (try clear hi)))
      go_ret2
      exact ⟨by first | rfl | (simp [errW_none, errW_some] <;> rfl) | (simp [*, errW_none, errW_some] <;> rfl), by repeat (first | (with_reducible first | exact HB.out | apply below_alloc | apply pw_below_drewN | apply below_drew1 | refine below_set ?_ GE18006.out) | exact HB.out)⟩
  · replace c4 := Bool.eq_false_iff.mpr c4
    subst c4
    have H1 : (some ((⟨#[]⟩ : ByteArray), 2)) = some (r1, r2) := by rw [if_neg (show ¬ (false = true) by decide)] at H; exact H
    clear H
    have H := H1
    clear H1
    simp only [Option.some.injEq, Prod.mk.injEq] at H
    obtain ⟨rfl, rfl⟩ := H
    go_enter Tryd.func17, Tryd.ntmps17
    go_wp2_with (first | ((with_reducible refine gate_callee (f := 37) rfl ?_); refine goesL_ (some 12) rfl rfl Tryd.func37 (by kernel_rfl) rfl #[.string a0] rfl (by (try simp only [List.map_toArray, List.map_cons, List.map_nil]); first | done | rfl | (simp only [List.length_drop, List.length_take]; rfl)) ?_; (with_reducible refine (vars_find.calls k a0 t18001 t18002 t18003 t18004 false _ A3.out).mono ?_); rintro e w15 ⟨rfl, hb⟩; refine ⟨_, rfl, ?_⟩; have n0_ := Aside0.mk (below_step (by repeat (first | (with_reducible first | exact HB.out | apply below_alloc | apply pw_below_drewN | apply below_drew1) | exact HB.out)) hb); clear HB; have HB := n0_; clear n0_; (try clear hb); (try clear hb2); (try clear hk); (try clear hi)) | ((with_reducible refine gate_dst (N := 6) rfl ?_); refine box_event ?hg (N := 6) ?hd (cs := #[.string (⟨#[]⟩ : ByteArray), .int .i64 0, .string (⟨#[]⟩ : ByteArray)]) (t := 57) ?hr ?_; (case hd => rfl); (case hg => rfl); (case hr => first | (go_simp; done) | (go_simp; rfl)); intro gb18006 hg w16 hbox hb; have n0_ := Aside0.mk (below_step (by repeat (first | (with_reducible first | exact HB.out | apply below_alloc | apply pw_below_drewN | apply below_drew1) | exact HB.out)) hb); have n1_ := Aside0.mk (hbox); have n2_ := Aside0.mk ((by rw [hg]; exact (below_size (by repeat (first | (with_reducible first | exact HB.out | apply below_alloc | apply pw_below_drewN | apply below_drew1) | exact HB.out))) : w.heap.size ≤ gb18006)); have n3_ := Aside0.mk ((by rw [hg]; exact (below_size (by repeat (first | (with_reducible first | exact HB.out | apply below_alloc | apply pw_below_drewN | apply below_drew1) | exact HB.out))) : w.heap.size ≤ gb18006)); clear HB; have HB := n0_; have BK18006 := n1_; have GW18006 := n2_; have GE18006 := n3_; clear n0_ n1_ n2_ n3_; clear hb hbox hg; have hcz17_0 : w16.cell? ⟨gb18006, 0, none⟩ = some (.string (⟨#[]⟩ : ByteArray)) := (blk_cell BK18006.out 0).trans rfl; have hcz17_1 : w16.cell? ⟨gb18006, 1, none⟩ = some (.int .i64 0) := (blk_cell BK18006.out 1).trans rfl; have hcz17_2 : w16.cell? ⟨gb18006, 2, none⟩ = some (.string (⟨#[]⟩ : ByteArray)) := (blk_cell BK18006.out 2).trans rfl; have hfz17_0 := blk_frozen BK18006.out 0; have hfz17_1 := blk_frozen BK18006.out 1; have hfz17_2 := blk_frozen BK18006.out 2))
    go_ret2
    exact ⟨by first | rfl | (simp [errW_none, errW_some] <;> rfl) | (simp [*, errW_none, errW_some] <;> rfl), by repeat (first | (with_reducible first | exact HB.out | apply below_alloc | apply pw_below_drewN | apply below_drew1 | refine below_set ?_ GE18006.out) | exact HB.out)⟩

end Go.Proofs.YtefhngadeimklaaDoor.Q
end
section
namespace Go.Proofs.YtefhngadeimklaaDoor.Q
open Go.RowKit Go.Proofs.YtefhngadeimklaaDoorW.PrintWords Go.Proofs.YtefhngadeimklaaDoorW.PrintLast Go.Proofs.YtefhngadeimklaaDoorW.PrintMore
set_option linter.unusedVariables false
set_option linter.unusedSimpArgs false

attribute [local go_sem] max2_int min2_int max_two min_two max_three min_three max_four min_four
/-! ### vars_Default: function 19 -/
def vars_Default.f (k : Nat) (a0 : ByteArray) : Option (ByteArray × Int) := (vars_find.f k a0).bind fun bt20001 => (if bt20001.2.2.2.2 = true then (some (bt20001.2.2.1, 0)) else (some ((⟨#[]⟩ : ByteArray), 2)))

end Go.Proofs.YtefhngadeimklaaDoor.Q
end
section
namespace Go.Proofs.YtefhngadeimklaaDoor.Q
open Go.RowKit Go.Proofs.YtefhngadeimklaaDoorW.PrintWords Go.Proofs.YtefhngadeimklaaDoorW.PrintLast Go.Proofs.YtefhngadeimklaaDoorW.PrintMore
set_option linter.unusedVariables false
set_option linter.unusedSimpArgs false

attribute [local go_sem] max2_int min2_int max_two min_two max_three min_three max_four min_four
/-! ### tinderref19_Variable: function 47 -/
def tinderref19_Variable.f (a0 : Int) : Option (ByteArray × Int × ByteArray) := if a0 = 0 then (some ((⟨#[97, 117, 116, 111, 45, 98, 111, 111, 116, 63]⟩ : ByteArray), 98, (⟨#[116, 114, 117, 101]⟩ : ByteArray))) else (if a0 = 1 then (some ((⟨#[98, 111, 111, 116, 45, 100, 101, 118, 105, 99, 101]⟩ : ByteArray), 116, (⟨#[100, 105, 115, 107, 32, 110, 101, 116]⟩ : ByteArray))) else (if a0 = 2 then (some ((⟨#[98, 111, 111, 116, 45, 102, 105, 108, 101]⟩ : ByteArray), 116, (⟨#[]⟩ : ByteArray))) else (if a0 = 3 then (some ((⟨#[98, 111, 111, 116, 45, 108, 105, 109, 105, 116]⟩ : ByteArray), 110, (⟨#[53, 48, 48, 48]⟩ : ByteArray))) else (if a0 = 4 then (some ((⟨#[105, 110, 112, 117, 116, 45, 100, 101, 118, 105, 99, 101]⟩ : ByteArray), 116, (⟨#[107, 101, 121, 98, 111, 97, 114, 100]⟩ : ByteArray))) else (if a0 = 5 then (some ((⟨#[110, 118, 114, 97, 109, 114, 99]⟩ : ByteArray), 116, (⟨#[]⟩ : ByteArray))) else (if a0 = 6 then (some ((⟨#[111, 101, 109, 45, 98, 97, 110, 110, 101, 114]⟩ : ByteArray), 116, (⟨#[]⟩ : ByteArray))) else (if a0 = 7 then (some ((⟨#[115, 99, 114, 101, 101, 110, 45, 116, 117, 114, 110]⟩ : ByteArray), 110, (⟨#[48]⟩ : ByteArray))) else (if a0 = 8 then (some ((⟨#[117, 115, 101, 45, 110, 118, 114, 97, 109, 114, 99, 63]⟩ : ByteArray), 98, (⟨#[102, 97, 108, 115, 101]⟩ : ByteArray))) else (some ((⟨#[]⟩ : ByteArray), 0, (⟨#[]⟩ : ByteArray)))))))))))
set_option maxHeartbeats 8000000 in
set_option maxRecDepth 100000 in
theorem tinderref19_Variable.calls (a0 : Int) (r1 : ByteArray) (r2 : Int) (r3 : ByteArray) (w : World) (h : tinderref19_Variable.f a0 = some (r1, r2, r3)) :
    Calls Tryd.prog 47 #[.int .i64 a0] w fun e w' => e = .returned (.tuple #[.string r1, .int .u8 r2, .string r3]) ∧ Drawn0 w w' := by
  have H : (if a0 = 0 then (some ((⟨#[97, 117, 116, 111, 45, 98, 111, 111, 116, 63]⟩ : ByteArray), 98, (⟨#[116, 114, 117, 101]⟩ : ByteArray))) else (if a0 = 1 then (some ((⟨#[98, 111, 111, 116, 45, 100, 101, 118, 105, 99, 101]⟩ : ByteArray), 116, (⟨#[100, 105, 115, 107, 32, 110, 101, 116]⟩ : ByteArray))) else (if a0 = 2 then (some ((⟨#[98, 111, 111, 116, 45, 102, 105, 108, 101]⟩ : ByteArray), 116, (⟨#[]⟩ : ByteArray))) else (if a0 = 3 then (some ((⟨#[98, 111, 111, 116, 45, 108, 105, 109, 105, 116]⟩ : ByteArray), 110, (⟨#[53, 48, 48, 48]⟩ : ByteArray))) else (if a0 = 4 then (some ((⟨#[105, 110, 112, 117, 116, 45, 100, 101, 118, 105, 99, 101]⟩ : ByteArray), 116, (⟨#[107, 101, 121, 98, 111, 97, 114, 100]⟩ : ByteArray))) else (if a0 = 5 then (some ((⟨#[110, 118, 114, 97, 109, 114, 99]⟩ : ByteArray), 116, (⟨#[]⟩ : ByteArray))) else (if a0 = 6 then (some ((⟨#[111, 101, 109, 45, 98, 97, 110, 110, 101, 114]⟩ : ByteArray), 116, (⟨#[]⟩ : ByteArray))) else (if a0 = 7 then (some ((⟨#[115, 99, 114, 101, 101, 110, 45, 116, 117, 114, 110]⟩ : ByteArray), 110, (⟨#[48]⟩ : ByteArray))) else (if a0 = 8 then (some ((⟨#[117, 115, 101, 45, 110, 118, 114, 97, 109, 114, 99, 63]⟩ : ByteArray), 98, (⟨#[102, 97, 108, 115, 101]⟩ : ByteArray))) else (some ((⟨#[]⟩ : ByteArray), 0, (⟨#[]⟩ : ByteArray)))))))))))) = some (r1, r2, r3) := h
  clear h
  by_cases c2 : a0 = 0
  · rw [if_pos c2] at H
    have c2b0 : (a0 == 0) = true := beq_iff_eq.mpr c2
    have c2b1 : (a0 != 0) = false := bne_eq_false_iff_eq.mpr c2
    clear c2
    simp only [Option.some.injEq, Prod.mk.injEq] at H
    obtain ⟨rfl, rfl, rfl⟩ := H
    go_enter Tryd.func47, Tryd.ntmps47
    go_wp2
    go_ret3
    exact ⟨by first | rfl | (simp; done) | (simp [*]; done), by repeat (first | exact Drawn0.refl _ | apply Drawn0.step)⟩
  · rw [if_neg c2] at H
    have c2b0 : (a0 == 0) = false := beq_eq_false_iff_ne.mpr c2
    have c2b1 : (a0 != 0) = true := bne_iff_ne.mpr c2
    by_cases c3 : a0 = 1
    · rw [if_pos c3] at H
      have c3b0 : (a0 == 1) = true := beq_iff_eq.mpr c3
      have c3b1 : (a0 != 1) = false := bne_eq_false_iff_eq.mpr c3
      clear c3
      simp only [Option.some.injEq, Prod.mk.injEq] at H
      obtain ⟨rfl, rfl, rfl⟩ := H
      go_enter Tryd.func47, Tryd.ntmps47
      go_wp2
      go_ret3
      exact ⟨by first | rfl | (simp; done) | (simp [*]; done), by repeat (first | exact Drawn0.refl _ | apply Drawn0.step)⟩
    · rw [if_neg c3] at H
      have c3b0 : (a0 == 1) = false := beq_eq_false_iff_ne.mpr c3
      have c3b1 : (a0 != 1) = true := bne_iff_ne.mpr c3
      by_cases c4 : a0 = 2
      · rw [if_pos c4] at H
        have c4b0 : (a0 == 2) = true := beq_iff_eq.mpr c4
        have c4b1 : (a0 != 2) = false := bne_eq_false_iff_eq.mpr c4
        clear c4
        simp only [Option.some.injEq, Prod.mk.injEq] at H
        obtain ⟨rfl, rfl, rfl⟩ := H
        go_enter Tryd.func47, Tryd.ntmps47
        go_wp2
        go_ret3
        exact ⟨by first | rfl | (simp; done) | (simp [*]; done), by repeat (first | exact Drawn0.refl _ | apply Drawn0.step)⟩
      · rw [if_neg c4] at H
        have c4b0 : (a0 == 2) = false := beq_eq_false_iff_ne.mpr c4
        have c4b1 : (a0 != 2) = true := bne_iff_ne.mpr c4
        by_cases c5 : a0 = 3
        · rw [if_pos c5] at H
          have c5b0 : (a0 == 3) = true := beq_iff_eq.mpr c5
          have c5b1 : (a0 != 3) = false := bne_eq_false_iff_eq.mpr c5
          clear c5
          simp only [Option.some.injEq, Prod.mk.injEq] at H
          obtain ⟨rfl, rfl, rfl⟩ := H
          go_enter Tryd.func47, Tryd.ntmps47
          go_wp2
          go_ret3
          exact ⟨by first | rfl | (simp; done) | (simp [*]; done), by repeat (first | exact Drawn0.refl _ | apply Drawn0.step)⟩
        · rw [if_neg c5] at H
          have c5b0 : (a0 == 3) = false := beq_eq_false_iff_ne.mpr c5
          have c5b1 : (a0 != 3) = true := bne_iff_ne.mpr c5
          by_cases c6 : a0 = 4
          · rw [if_pos c6] at H
            have c6b0 : (a0 == 4) = true := beq_iff_eq.mpr c6
            have c6b1 : (a0 != 4) = false := bne_eq_false_iff_eq.mpr c6
            clear c6
            simp only [Option.some.injEq, Prod.mk.injEq] at H
            obtain ⟨rfl, rfl, rfl⟩ := H
            go_enter Tryd.func47, Tryd.ntmps47
            go_wp2
            go_ret3
            exact ⟨by first | rfl | (simp; done) | (simp [*]; done), by repeat (first | exact Drawn0.refl _ | apply Drawn0.step)⟩
          · rw [if_neg c6] at H
            have c6b0 : (a0 == 4) = false := beq_eq_false_iff_ne.mpr c6
            have c6b1 : (a0 != 4) = true := bne_iff_ne.mpr c6
            by_cases c7 : a0 = 5
            · rw [if_pos c7] at H
              have c7b0 : (a0 == 5) = true := beq_iff_eq.mpr c7
              have c7b1 : (a0 != 5) = false := bne_eq_false_iff_eq.mpr c7
              clear c7
              simp only [Option.some.injEq, Prod.mk.injEq] at H
              obtain ⟨rfl, rfl, rfl⟩ := H
              go_enter Tryd.func47, Tryd.ntmps47
              go_wp2
              go_ret3
              exact ⟨by first | rfl | (simp; done) | (simp [*]; done), by repeat (first | exact Drawn0.refl _ | apply Drawn0.step)⟩
            · rw [if_neg c7] at H
              have c7b0 : (a0 == 5) = false := beq_eq_false_iff_ne.mpr c7
              have c7b1 : (a0 != 5) = true := bne_iff_ne.mpr c7
              by_cases c8 : a0 = 6
              · rw [if_pos c8] at H
                have c8b0 : (a0 == 6) = true := beq_iff_eq.mpr c8
                have c8b1 : (a0 != 6) = false := bne_eq_false_iff_eq.mpr c8
                clear c8
                simp only [Option.some.injEq, Prod.mk.injEq] at H
                obtain ⟨rfl, rfl, rfl⟩ := H
                go_enter Tryd.func47, Tryd.ntmps47
                go_wp2
                go_ret3
                exact ⟨by first | rfl | (simp; done) | (simp [*]; done), by repeat (first | exact Drawn0.refl _ | apply Drawn0.step)⟩
              · rw [if_neg c8] at H
                have c8b0 : (a0 == 6) = false := beq_eq_false_iff_ne.mpr c8
                have c8b1 : (a0 != 6) = true := bne_iff_ne.mpr c8
                by_cases c9 : a0 = 7
                · rw [if_pos c9] at H
                  have c9b0 : (a0 == 7) = true := beq_iff_eq.mpr c9
                  have c9b1 : (a0 != 7) = false := bne_eq_false_iff_eq.mpr c9
                  clear c9
                  simp only [Option.some.injEq, Prod.mk.injEq] at H
                  obtain ⟨rfl, rfl, rfl⟩ := H
                  go_enter Tryd.func47, Tryd.ntmps47
                  go_wp2
                  go_ret3
                  exact ⟨by first | rfl | (simp; done) | (simp [*]; done), by repeat (first | exact Drawn0.refl _ | apply Drawn0.step)⟩
                · rw [if_neg c9] at H
                  have c9b0 : (a0 == 7) = false := beq_eq_false_iff_ne.mpr c9
                  have c9b1 : (a0 != 7) = true := bne_iff_ne.mpr c9
                  by_cases c10 : a0 = 8
                  · rw [if_pos c10] at H
                    have c10b0 : (a0 == 8) = true := beq_iff_eq.mpr c10
                    have c10b1 : (a0 != 8) = false := bne_eq_false_iff_eq.mpr c10
                    clear c10
                    simp only [Option.some.injEq, Prod.mk.injEq] at H
                    obtain ⟨rfl, rfl, rfl⟩ := H
                    go_enter Tryd.func47, Tryd.ntmps47
                    go_wp2
                    go_ret3
                    exact ⟨by first | rfl | (simp; done) | (simp [*]; done), by repeat (first | exact Drawn0.refl _ | apply Drawn0.step)⟩
                  · rw [if_neg c10] at H
                    have c10b0 : (a0 == 8) = false := beq_eq_false_iff_ne.mpr c10
                    have c10b1 : (a0 != 8) = true := bne_iff_ne.mpr c10
                    simp only [Option.some.injEq, Prod.mk.injEq] at H
                    obtain ⟨rfl, rfl, rfl⟩ := H
                    go_enter Tryd.func47, Tryd.ntmps47
                    go_wp2
                    go_ret3
                    exact ⟨by first | rfl | (simp; done) | (simp [*]; done), by repeat (first | exact Drawn0.refl _ | apply Drawn0.step)⟩

end Go.Proofs.YtefhngadeimklaaDoor.Q
end
section
namespace Go.Proofs.YtefhngadeimklaaDoor.Q
open Go.RowKit Go.Proofs.YtefhngadeimklaaDoorW.PrintWords Go.Proofs.YtefhngadeimklaaDoorW.PrintLast Go.Proofs.YtefhngadeimklaaDoorW.PrintMore
set_option linter.unusedVariables false
set_option linter.unusedSimpArgs false

attribute [local go_sem] max2_int min2_int max_two min_two max_three min_three max_four min_four
/-! ### tinderref19_find: function 46 -/
def tinderref19_find.l0 : Nat → ByteArray → Int → Option (Int)
  | 0, _, _ => none
  | k + 1, x0, x3 => if x3 < 9 then ((tinderref19_Variable.f x3).bind fun bt47001 => (if bt47001.1.toList = x0.toList then (some x3) else (tinderref19_find.l0 k x0 (wrap64 (x3 + 1))))) else (some (-1))
def tinderref19_find.f (k : Nat) (a0 : ByteArray) : Option (Int) := tinderref19_find.l0 k a0 0
theorem tinderref19_find.mono_l : ∀ k, (∀ y0 y1, LeO (tinderref19_find.l0 k y0 y1) (tinderref19_find.l0 (k + 1) y0 y1))
  | 0 => fun _ _ r h => by simp [tinderref19_find.l0] at h
  | k + 1 => by
    have ih0 := tinderref19_find.mono_l k
    · intro y0 y1
      unfold tinderref19_find.l0
      repeat' first
      | (with_reducible exact ih0 _ _)
      | (with_reducible exact LeO.refl _)
      | (with_reducible exact LeO.none _)
      | (with_reducible refine LeO.ite ?_ ?_)
      | (with_reducible refine LeO.bind ?_ (fun _ => ?_))
      | exact ih0 _ _
      | exact LeO.none _
      | refine LeO.ite ?_ ?_
      | refine LeO.bind ?_ (fun _ => ?_)
theorem tinderref19_find.mono : ∀ a0 k, LeO (tinderref19_find.f k a0) (tinderref19_find.f (k + 1) a0) := by
  intro a0 k
  have ih0 := tinderref19_find.mono_l k
  unfold tinderref19_find.f
  repeat' first
      | (with_reducible exact ih0 _ _)
      | (with_reducible exact LeO.refl _)
      | (with_reducible exact LeO.none _)
      | (with_reducible refine LeO.ite ?_ ?_)
      | (with_reducible refine LeO.bind ?_ (fun _ => ?_))
      | exact ih0 _ _
      | exact LeO.none _
      | refine LeO.ite ?_ ?_
      | refine LeO.bind ?_ (fun _ => ?_)
set_option maxHeartbeats 8000000 in
set_option maxRecDepth 100000 in
theorem tinderref19_find.calls (k : Nat) (a0 : ByteArray) (r : Int) (w : World) (h : tinderref19_find.f k a0 = some r) :
    Calls Tryd.prog 46 #[.string a0] w fun e w' => e = .returned (.int .i64 r) ∧ Drawn0 w w' := by
  have H : (tinderref19_find.l0 k a0 0) = some r := h
  clear h
  have H' := Aside0.mk H
  clear H
  go_enter Tryd.func46, Tryd.ntmps46
  go_wp2
  go_loopg [3] k (fun kq v3 w' => ∃ (x3_1 : Int), v3 = .int .i64 x3_1 ∧ Aside0 (tinderref19_find.l0 kq a0 x3_1 = some r) ∧ Aside0 (kq ≤ k) ∧ Drawn0 w w')
  case atStart => exact ⟨(0), (by first | rfl | (simp; done) | (simp [*]; done)), H', ⟨Nat.le_refl _⟩, by repeat (first | exact Drawn0.refl _ | apply Drawn0.step)⟩
  case round =>
    clear H'
    obtain ⟨x3_1, rfl, HA, HK1, ⟨m1, rfl⟩⟩ := hrel
    cases gk with
    | zero => exact absurd HA.out (by simp [tinderref19_find.l0])
    | succ k1 =>
      have H := HA.out
      clear HA
      simp only [tinderref19_find.l0] at H
      by_cases c2 : x3_1 < 9
      · rw [if_pos c2] at H
        have c2b0 : decide (x3_1 < 9) = true := decide_eq_true c2
        clear c2
        replace H := Option.bind_eq_some_iff.mp H
        obtain ⟨⟨t47001, t47002, t47003⟩, A30, H⟩ := H
        replace H : (if t47001.toList = a0.toList then (some x3_1) else (tinderref19_find.l0 k1 a0 (wrap64 (x3_1 + 1)))) = some r := H
        have A3 := Aside0.mk A30
        clear A30
        by_cases c4 : t47001.toList = a0.toList
        · rw [if_pos c4] at H
          have c4b0 : (t47001.toList == a0.toList) = true := beq_iff_eq.mpr c4
          have c4b1 : (t47001.toList != a0.toList) = false := bne_eq_false_iff_eq.mpr c4
          clear c4
          obtain rfl := Option.some.inj H
          go_wp2_with (first | ((with_reducible refine gate_callee (f := 47) rfl ?_); refine goesL_ (some 13) rfl rfl Tryd.func47 (by kernel_rfl) rfl #[.int .i64 x3_1] rfl (by (try simp only [List.map_toArray, List.map_cons, List.map_nil]); first | done | rfl | (simp only [List.length_drop, List.length_take]; rfl)) ?_; (with_reducible refine (tinderref19_Variable.calls x3_1 t47001 t47002 t47003 _ A3.out).mono ?_); rintro e w' ⟨rfl, ⟨nd, rfl⟩⟩; refine ⟨_, rfl, ?_⟩))
          go_ret
          exact ⟨by first | rfl | (simp; done) | (simp [*]; done), by repeat (first | exact Drawn0.refl _ | apply Drawn0.step)⟩
        · rw [if_neg c4] at H
          have c4b0 : (t47001.toList == a0.toList) = false := beq_eq_false_iff_ne.mpr c4
          have c4b1 : (t47001.toList != a0.toList) = true := bne_iff_ne.mpr c4
          have H' := Aside0.mk H
          clear H
          go_wp2_with (first | ((with_reducible refine gate_callee (f := 47) rfl ?_); refine goesL_ (some 13) rfl rfl Tryd.func47 (by kernel_rfl) rfl #[.int .i64 x3_1] rfl (by (try simp only [List.map_toArray, List.map_cons, List.map_nil]); first | done | rfl | (simp only [List.length_drop, List.length_take]; rfl)) ?_; (with_reducible refine (tinderref19_Variable.calls x3_1 t47001 t47002 t47003 _ A3.out).mono ?_); rintro e w' ⟨rfl, ⟨nd, rfl⟩⟩; refine ⟨_, rfl, ?_⟩))
          go_roundg k1
          case measure => have := HK1.out; omega
          case rel => exact ⟨(wrap64 (x3_1 + 1)), (by first | rfl | (simp; done) | (simp [*]; done)), H', ⟨by have := HK1.out; omega⟩, by repeat (first | exact Drawn0.refl _ | apply Drawn0.step)⟩
      · rw [if_neg c2] at H
        have c2b0 : decide (x3_1 < 9) = false := decide_eq_false c2
        clear c2
        obtain rfl := Option.some.inj H
        go_wp2
        go_ret
        exact ⟨by first | rfl | (simp; done) | (simp [*]; done), by repeat (first | exact Drawn0.refl _ | apply Drawn0.step)⟩

end Go.Proofs.YtefhngadeimklaaDoor.Q
end
section
namespace Go.Proofs.YtefhngadeimklaaDoor.Q
open Go.RowKit Go.Proofs.YtefhngadeimklaaDoorW.PrintWords Go.Proofs.YtefhngadeimklaaDoorW.PrintLast Go.Proofs.YtefhngadeimklaaDoorW.PrintMore
set_option linter.unusedVariables false
set_option linter.unusedSimpArgs false

attribute [local go_sem] max2_int min2_int max_two min_two max_three min_three max_four min_four
/-! ### tinderref19_Default: function 20 -/
def tinderref19_Default.f (k : Nat) (a0 : ByteArray) : Option (ByteArray × Int) := (tinderref19_find.f k a0).bind fun t21001 => (if t21001 < 0 then (some ((⟨#[]⟩ : ByteArray), 2)) else ((tinderref19_Variable.f t21001).bind fun bt21002 => (some (bt21002.2.2, 0))))
theorem tinderref19_Default.mono : ∀ a0 k, LeO (tinderref19_Default.f k a0) (tinderref19_Default.f (k + 1) a0) := by
  intro a0 k
  unfold tinderref19_Default.f
  repeat' first
      | (with_reducible exact tinderref19_find.mono _ _)
      | (with_reducible exact LeO.refl _)
      | (with_reducible exact LeO.none _)
      | (with_reducible refine LeO.ite ?_ ?_)
      | (with_reducible refine LeO.bind ?_ (fun _ => ?_))
      | exact tinderref19_find.mono _ _
      | exact LeO.none _
      | refine LeO.ite ?_ ?_
      | refine LeO.bind ?_ (fun _ => ?_)
set_option maxHeartbeats 8000000 in
set_option maxRecDepth 100000 in
theorem tinderref19_Default.calls (k : Nat) (a0 : ByteArray) (r1 : ByteArray) (r2 : Int) (w : World) (h : tinderref19_Default.f k a0 = some (r1, r2)) :
    Calls Tryd.prog 20 #[.string a0] w fun e w' => e = .returned (.tuple #[.string r1, .int .i64 r2]) ∧ Drawn0 w w' := by
  have H : ((tinderref19_find.f k a0).bind fun t21001 => (if t21001 < 0 then (some ((⟨#[]⟩ : ByteArray), 2)) else ((tinderref19_Variable.f t21001).bind fun bt21002 => (some (bt21002.2.2, 0))))) = some (r1, r2) := h
  clear h
  replace H := Option.bind_eq_some_iff.mp H
  obtain ⟨t21001, A20, H⟩ := H
  replace H : (if t21001 < 0 then (some ((⟨#[]⟩ : ByteArray), 2)) else ((tinderref19_Variable.f t21001).bind fun bt21002 => (some (bt21002.2.2, 0)))) = some (r1, r2) := H
  have A2 := Aside0.mk A20
  clear A20
  by_cases c3 : t21001 < 0
  · rw [if_pos c3] at H
    have c3b0 : decide (t21001 < 0) = true := decide_eq_true c3
    clear c3
    simp only [Option.some.injEq, Prod.mk.injEq] at H
    obtain ⟨rfl, rfl⟩ := H
    go_enter Tryd.func20, Tryd.ntmps20
    go_wp2_with (first | ((with_reducible refine gate_callee (f := 46) rfl ?_); refine goesL_ (some 9) rfl rfl Tryd.func46 (by kernel_rfl) rfl #[.string a0] rfl (by (try simp only [List.map_toArray, List.map_cons, List.map_nil]); first | done | rfl | (simp only [List.length_drop, List.length_take]; rfl)) ?_; (with_reducible refine (tinderref19_find.calls k a0 t21001 _ A2.out).mono ?_); rintro e w' ⟨rfl, ⟨nd, rfl⟩⟩; refine ⟨_, rfl, ?_⟩))
    go_ret2
    exact ⟨by first | rfl | (simp; done) | (simp [*]; done), by repeat (first | exact Drawn0.refl _ | apply Drawn0.step)⟩
  · rw [if_neg c3] at H
    have c3b0 : decide (t21001 < 0) = false := decide_eq_false c3
    clear c3
    replace H := Option.bind_eq_some_iff.mp H
    obtain ⟨⟨t21002, t21003, t21004⟩, A40, H⟩ := H
    replace H : (some (t21004, 0)) = some (r1, r2) := H
    have A4 := Aside0.mk A40
    clear A40
    simp only [Option.some.injEq, Prod.mk.injEq] at H
    obtain ⟨rfl, rfl⟩ := H
    go_enter Tryd.func20, Tryd.ntmps20
    go_wp2_with (first | ((with_reducible refine gate_callee (f := 46) rfl ?_); refine goesL_ (some 9) rfl rfl Tryd.func46 (by kernel_rfl) rfl #[.string a0] rfl (by (try simp only [List.map_toArray, List.map_cons, List.map_nil]); first | done | rfl | (simp only [List.length_drop, List.length_take]; rfl)) ?_; (with_reducible refine (tinderref19_find.calls k a0 t21001 _ A2.out).mono ?_); rintro e w' ⟨rfl, ⟨nd, rfl⟩⟩; refine ⟨_, rfl, ?_⟩) | ((with_reducible refine gate_callee (f := 47) rfl ?_); refine goesL_ (some 14) rfl rfl Tryd.func47 (by kernel_rfl) rfl #[.int .i64 t21001] rfl (by (try simp only [List.map_toArray, List.map_cons, List.map_nil]); first | done | rfl | (simp only [List.length_drop, List.length_take]; rfl)) ?_; (with_reducible refine (tinderref19_Variable.calls t21001 t21002 t21003 t21004 _ A4.out).mono ?_); rintro e w' ⟨rfl, ⟨nd, rfl⟩⟩; refine ⟨_, rfl, ?_⟩))
    go_ret2
    exact ⟨by first | rfl | (simp; done) | (simp [*]; done), by repeat (first | exact Drawn0.refl _ | apply Drawn0.step)⟩

end Go.Proofs.YtefhngadeimklaaDoor.Q
end
section
namespace Go.Proofs.YtefhngadeimklaaDoor.Q
open Go.RowKit Go.Proofs.YtefhngadeimklaaDoorW.PrintWords Go.Proofs.YtefhngadeimklaaDoorW.PrintLast Go.Proofs.YtefhngadeimklaaDoorW.PrintMore
set_option linter.unusedVariables false
set_option linter.unusedSimpArgs false

attribute [local go_sem] max2_int min2_int max_two min_two max_three min_three max_four min_four
/-! ### tinderref19_Form: function 18 -/
def tinderref19_Form.l0 : Nat → ByteArray → Int → Option (ByteArray × Int)
  | 0, _, _ => none
  | k + 1, x1, x14 => if x14 < (x1.size : Int) then (if 0 ≤ x14 then (if (bt x1 x14) < 32 then (some ((⟨#[]⟩ : ByteArray), 27)) else (if (bt x1 x14) > 126 then (some ((⟨#[]⟩ : ByteArray), 27)) else (tinderref19_Form.l0 k x1 (wrap64 (x14 + 1))))) else (none)) else (if (x1.size : Int) ≤ 128 then (some (x1, 0)) else (some ((⟨#[]⟩ : ByteArray), 27)))
def tinderref19_Form.f (k : Nat) (a0 : ByteArray) (a1 : ByteArray) : Option (ByteArray × Int) := (tinderref19_find.f k a0).bind fun t19001 => (if t19001 < 0 then (some ((⟨#[]⟩ : ByteArray), 2)) else ((tinderref19_Variable.f t19001).bind fun bt19002 => (if bt19002.2.1 = 98 then (if a1.toList = ([116, 114, 117, 101] : List UInt8) then (some (a1, 0)) else (if a1.toList = ([102, 97, 108, 115, 101] : List UInt8) then (some (a1, 0)) else (some ((⟨#[]⟩ : ByteArray), 27)))) else (if bt19002.2.1 = 110 then ((tinderref02_Parse.f k a1 10).bind fun bt19005 => (if bt19005.2 = 0 then ((tinderref02_Show.f bt19005.1 10).bind fun bt19007 => (some (bt19007.1, 0))) else (some ((⟨#[]⟩ : ByteArray), 27)))) else (tinderref19_Form.l0 k a1 0)))))
theorem tinderref19_Form.mono_l : ∀ k, (∀ y0 y1, LeO (tinderref19_Form.l0 k y0 y1) (tinderref19_Form.l0 (k + 1) y0 y1))
  | 0 => fun _ _ r h => by simp [tinderref19_Form.l0] at h
  | k + 1 => by
    have ih0 := tinderref19_Form.mono_l k
    · intro y0 y1
      unfold tinderref19_Form.l0
      repeat' first
      | (with_reducible exact ih0 _ _)
      | (with_reducible exact tinderref02_Parse.mono _ _ _)
      | (with_reducible exact tinderref19_find.mono _ _)
      | (with_reducible exact LeO.refl _)
      | (with_reducible exact LeO.none _)
      | (with_reducible refine LeO.ite ?_ ?_)
      | (with_reducible refine LeO.bind ?_ (fun _ => ?_))
      | exact ih0 _ _
      | exact tinderref02_Parse.mono _ _ _
      | exact tinderref19_find.mono _ _
      | exact LeO.none _
      | refine LeO.ite ?_ ?_
      | refine LeO.bind ?_ (fun _ => ?_)
theorem tinderref19_Form.mono : ∀ a0 a1 k, LeO (tinderref19_Form.f k a0 a1) (tinderref19_Form.f (k + 1) a0 a1) := by
  intro a0 a1 k
  have ih0 := tinderref19_Form.mono_l k
  unfold tinderref19_Form.f
  repeat' first
      | (with_reducible exact ih0 _ _)
      | (with_reducible exact tinderref02_Parse.mono _ _ _)
      | (with_reducible exact tinderref19_find.mono _ _)
      | (with_reducible exact LeO.refl _)
      | (with_reducible exact LeO.none _)
      | (with_reducible refine LeO.ite ?_ ?_)
      | (with_reducible refine LeO.bind ?_ (fun _ => ?_))
      | exact ih0 _ _
      | exact tinderref02_Parse.mono _ _ _
      | exact tinderref19_find.mono _ _
      | exact LeO.none _
      | refine LeO.ite ?_ ?_
      | refine LeO.bind ?_ (fun _ => ?_)
set_option maxHeartbeats 8000000 in
set_option maxRecDepth 100000 in
theorem tinderref19_Form.calls (k : Nat) (a0 : ByteArray) (a1 : ByteArray) (r1 : ByteArray) (r2 : Int) (w : World) (h : tinderref19_Form.f k a0 a1 = some (r1, r2)) :
    Calls Tryd.prog 18 #[.string a0, .string a1] w fun e w' => e = .returned (.tuple #[.string r1, .int .i64 r2]) ∧ Below w.heap.size w w' := by
  have HB := Aside0.mk (Below.refl w.heap.size w)
  have H : ((tinderref19_find.f k a0).bind fun t19001 => (if t19001 < 0 then (some ((⟨#[]⟩ : ByteArray), 2)) else ((tinderref19_Variable.f t19001).bind fun bt19002 => (if bt19002.2.1 = 98 then (if a1.toList = ([116, 114, 117, 101] : List UInt8) then (some (a1, 0)) else (if a1.toList = ([102, 97, 108, 115, 101] : List UInt8) then (some (a1, 0)) else (some ((⟨#[]⟩ : ByteArray), 27)))) else (if bt19002.2.1 = 110 then ((tinderref02_Parse.f k a1 10).bind fun bt19005 => (if bt19005.2 = 0 then ((tinderref02_Show.f bt19005.1 10).bind fun bt19007 => (some (bt19007.1, 0))) else (some ((⟨#[]⟩ : ByteArray), 27)))) else (tinderref19_Form.l0 k a1 0)))))) = some (r1, r2) := h
  clear h
  replace H := Option.bind_eq_some_iff.mp H
  obtain ⟨t19001, A30, H⟩ := H
  replace H : (if t19001 < 0 then (some ((⟨#[]⟩ : ByteArray), 2)) else ((tinderref19_Variable.f t19001).bind fun bt19002 => (if bt19002.2.1 = 98 then (if a1.toList = ([116, 114, 117, 101] : List UInt8) then (some (a1, 0)) else (if a1.toList = ([102, 97, 108, 115, 101] : List UInt8) then (some (a1, 0)) else (some ((⟨#[]⟩ : ByteArray), 27)))) else (if bt19002.2.1 = 110 then ((tinderref02_Parse.f k a1 10).bind fun bt19005 => (if bt19005.2 = 0 then ((tinderref02_Show.f bt19005.1 10).bind fun bt19007 => (some (bt19007.1, 0))) else (some ((⟨#[]⟩ : ByteArray), 27)))) else (tinderref19_Form.l0 k a1 0))))) = some (r1, r2) := H
  have A3 := Aside0.mk A30
  clear A30
  by_cases c4 : t19001 < 0
  · rw [if_pos c4] at H
    have c4b0 : decide (t19001 < 0) = true := decide_eq_true c4
    clear c4
    simp only [Option.some.injEq, Prod.mk.injEq] at H
    obtain ⟨rfl, rfl⟩ := H
    go_enter Tryd.func18, Tryd.ntmps18
    go_wp2_with (first | ((with_reducible refine gate_callee (f := 46) rfl ?_); refine goesL_ (some 16) rfl rfl Tryd.func46 (by kernel_rfl) rfl #[.string a0] rfl (by (try simp only [List.map_toArray, List.map_cons, List.map_nil]); first | done | rfl | (simp only [List.length_drop, List.length_take]; rfl)) ?_; (with_reducible refine (tinderref19_find.calls k a0 t19001 _ A3.out).mono ?_); rintro e w' ⟨rfl, ⟨nd, rfl⟩⟩; refine ⟨_, rfl, ?_⟩))
    go_ret2
    exact ⟨by first | rfl | (simp [errW_none, errW_some] <;> rfl) | (simp [*, errW_none, errW_some] <;> rfl), by repeat (first | (with_reducible first | exact HB.out | apply below_alloc | apply pw_below_drewN | apply below_drew1) | exact HB.out)⟩
  · rw [if_neg c4] at H
    have c4b0 : decide (t19001 < 0) = false := decide_eq_false c4
    clear c4
    replace H := Option.bind_eq_some_iff.mp H
    obtain ⟨⟨t19002, t19003, t19004⟩, A50, H⟩ := H
    replace H : (if t19003 = 98 then (if a1.toList = ([116, 114, 117, 101] : List UInt8) then (some (a1, 0)) else (if a1.toList = ([102, 97, 108, 115, 101] : List UInt8) then (some (a1, 0)) else (some ((⟨#[]⟩ : ByteArray), 27)))) else (if t19003 = 110 then ((tinderref02_Parse.f k a1 10).bind fun bt19005 => (if bt19005.2 = 0 then ((tinderref02_Show.f bt19005.1 10).bind fun bt19007 => (some (bt19007.1, 0))) else (some ((⟨#[]⟩ : ByteArray), 27)))) else (tinderref19_Form.l0 k a1 0))) = some (r1, r2) := H
    have A5 := Aside0.mk A50
    clear A50
    by_cases c6 : t19003 = 98
    · rw [if_pos c6] at H
      have c6b0 : (t19003 == 98) = true := beq_iff_eq.mpr c6
      have c6b1 : (t19003 != 98) = false := bne_eq_false_iff_eq.mpr c6
      clear c6
      by_cases c7 : a1.toList = ([116, 114, 117, 101] : List UInt8)
      · rw [if_pos c7] at H
        have c7b0 : (a1.toList == ([116, 114, 117, 101] : List UInt8)) = true := beq_iff_eq.mpr c7
        have c7b1 : (a1.toList != ([116, 114, 117, 101] : List UInt8)) = false := bne_eq_false_iff_eq.mpr c7
        clear c7
        simp only [Option.some.injEq, Prod.mk.injEq] at H
        obtain ⟨rfl, rfl⟩ := H
        go_enter Tryd.func18, Tryd.ntmps18
        go_wp2_with (first | ((with_reducible refine gate_callee (f := 46) rfl ?_); refine goesL_ (some 16) rfl rfl Tryd.func46 (by kernel_rfl) rfl #[.string a0] rfl (by (try simp only [List.map_toArray, List.map_cons, List.map_nil]); first | done | rfl | (simp only [List.length_drop, List.length_take]; rfl)) ?_; (with_reducible refine (tinderref19_find.calls k a0 t19001 _ A3.out).mono ?_); rintro e w' ⟨rfl, ⟨nd, rfl⟩⟩; refine ⟨_, rfl, ?_⟩) | ((with_reducible refine gate_callee (f := 47) rfl ?_); refine goesL_ (some 21) rfl rfl Tryd.func47 (by kernel_rfl) rfl #[.int .i64 t19001] rfl (by (try simp only [List.map_toArray, List.map_cons, List.map_nil]); first | done | rfl | (simp only [List.length_drop, List.length_take]; rfl)) ?_; (with_reducible refine (tinderref19_Variable.calls t19001 t19002 t19003 t19004 _ A5.out).mono ?_); rintro e w' ⟨rfl, ⟨nd, rfl⟩⟩; refine ⟨_, rfl, ?_⟩))
        go_ret2
        exact ⟨by first | rfl | (simp [errW_none, errW_some] <;> rfl) | (simp [*, errW_none, errW_some] <;> rfl), by repeat (first | (with_reducible first | exact HB.out | apply below_alloc | apply pw_below_drewN | apply below_drew1) | exact HB.out)⟩
      · rw [if_neg c7] at H
        have c7b0 : (a1.toList == ([116, 114, 117, 101] : List UInt8)) = false := beq_eq_false_iff_ne.mpr c7
        have c7b1 : (a1.toList != ([116, 114, 117, 101] : List UInt8)) = true := bne_iff_ne.mpr c7
        by_cases c8 : a1.toList = ([102, 97, 108, 115, 101] : List UInt8)
        · rw [if_pos c8] at H
          have c8b0 : (a1.toList == ([102, 97, 108, 115, 101] : List UInt8)) = true := beq_iff_eq.mpr c8
          have c8b1 : (a1.toList != ([102, 97, 108, 115, 101] : List UInt8)) = false := bne_eq_false_iff_eq.mpr c8
          clear c8
          simp only [Option.some.injEq, Prod.mk.injEq] at H
          obtain ⟨rfl, rfl⟩ := H
          go_enter Tryd.func18, Tryd.ntmps18
          go_wp2_with (first | ((with_reducible refine gate_callee (f := 46) rfl ?_); refine goesL_ (some 16) rfl rfl Tryd.func46 (by kernel_rfl) rfl #[.string a0] rfl (by (try simp only [List.map_toArray, List.map_cons, List.map_nil]); first | done | rfl | (simp only [List.length_drop, List.length_take]; rfl)) ?_; (with_reducible refine (tinderref19_find.calls k a0 t19001 _ A3.out).mono ?_); rintro e w' ⟨rfl, ⟨nd, rfl⟩⟩; refine ⟨_, rfl, ?_⟩) | ((with_reducible refine gate_callee (f := 47) rfl ?_); refine goesL_ (some 21) rfl rfl Tryd.func47 (by kernel_rfl) rfl #[.int .i64 t19001] rfl (by (try simp only [List.map_toArray, List.map_cons, List.map_nil]); first | done | rfl | (simp only [List.length_drop, List.length_take]; rfl)) ?_; (with_reducible refine (tinderref19_Variable.calls t19001 t19002 t19003 t19004 _ A5.out).mono ?_); rintro e w' ⟨rfl, ⟨nd, rfl⟩⟩; refine ⟨_, rfl, ?_⟩))
          go_ret2
          exact ⟨by first | rfl | (simp [errW_none, errW_some] <;> rfl) | (simp [*, errW_none, errW_some] <;> rfl), by repeat (first | (with_reducible first | exact HB.out | apply below_alloc | apply pw_below_drewN | apply below_drew1) | exact HB.out)⟩
        · rw [if_neg c8] at H
          have c8b0 : (a1.toList == ([102, 97, 108, 115, 101] : List UInt8)) = false := beq_eq_false_iff_ne.mpr c8
          have c8b1 : (a1.toList != ([102, 97, 108, 115, 101] : List UInt8)) = true := bne_iff_ne.mpr c8
          simp only [Option.some.injEq, Prod.mk.injEq] at H
          obtain ⟨rfl, rfl⟩ := H
          go_enter Tryd.func18, Tryd.ntmps18
          go_wp2_with (first | ((with_reducible refine gate_callee (f := 46) rfl ?_); refine goesL_ (some 16) rfl rfl Tryd.func46 (by kernel_rfl) rfl #[.string a0] rfl (by (try simp only [List.map_toArray, List.map_cons, List.map_nil]); first | done | rfl | (simp only [List.length_drop, List.length_take]; rfl)) ?_; (with_reducible refine (tinderref19_find.calls k a0 t19001 _ A3.out).mono ?_); rintro e w' ⟨rfl, ⟨nd, rfl⟩⟩; refine ⟨_, rfl, ?_⟩) | ((with_reducible refine gate_callee (f := 47) rfl ?_); refine goesL_ (some 21) rfl rfl Tryd.func47 (by kernel_rfl) rfl #[.int .i64 t19001] rfl (by (try simp only [List.map_toArray, List.map_cons, List.map_nil]); first | done | rfl | (simp only [List.length_drop, List.length_take]; rfl)) ?_; (with_reducible refine (tinderref19_Variable.calls t19001 t19002 t19003 t19004 _ A5.out).mono ?_); rintro e w' ⟨rfl, ⟨nd, rfl⟩⟩; refine ⟨_, rfl, ?_⟩))
          go_ret2
          exact ⟨by first | rfl | (simp [errW_none, errW_some] <;> rfl) | (simp [*, errW_none, errW_some] <;> rfl), by repeat (first | (with_reducible first | exact HB.out | apply below_alloc | apply pw_below_drewN | apply below_drew1) | exact HB.out)⟩
    · rw [if_neg c6] at H
      have c6b0 : (t19003 == 98) = false := beq_eq_false_iff_ne.mpr c6
      have c6b1 : (t19003 != 98) = true := bne_iff_ne.mpr c6
      by_cases c9 : t19003 = 110
      · rw [if_pos c9] at H
        have c9b0 : (t19003 == 110) = true := beq_iff_eq.mpr c9
        have c9b1 : (t19003 != 110) = false := bne_eq_false_iff_eq.mpr c9
        clear c9
        replace H := Option.bind_eq_some_iff.mp H
        obtain ⟨⟨t19005, t19006⟩, A100, H⟩ := H
        replace H : (if t19006 = 0 then ((tinderref02_Show.f t19005 10).bind fun bt19007 => (some (bt19007.1, 0))) else (some ((⟨#[]⟩ : ByteArray), 27))) = some (r1, r2) := H
        have A10 := Aside0.mk A100
        clear A100
        by_cases c11 : t19006 = 0
        · rw [if_pos c11] at H
          have c11b0 : (t19006 == 0) = true := beq_iff_eq.mpr c11
          have c11b1 : (t19006 != 0) = false := bne_eq_false_iff_eq.mpr c11
          clear c11
          replace H := Option.bind_eq_some_iff.mp H
          obtain ⟨⟨t19007, t19008⟩, A120, H⟩ := H
          replace H : (some (t19007, 0)) = some (r1, r2) := H
          have A12 := Aside0.mk A120
          clear A120
          simp only [Option.some.injEq, Prod.mk.injEq] at H
          obtain ⟨rfl, rfl⟩ := H
          go_enter Tryd.func18, Tryd.ntmps18
          go_wp2_with (first | ((with_reducible refine gate_callee (f := 46) rfl ?_); refine goesL_ (some 16) rfl rfl Tryd.func46 (by kernel_rfl) rfl #[.string a0] rfl (by (try simp only [List.map_toArray, List.map_cons, List.map_nil]); first | done | rfl | (simp only [List.length_drop, List.length_take]; rfl)) ?_; (with_reducible refine (tinderref19_find.calls k a0 t19001 _ A3.out).mono ?_); rintro e w' ⟨rfl, ⟨nd, rfl⟩⟩; refine ⟨_, rfl, ?_⟩) | ((with_reducible refine gate_callee (f := 47) rfl ?_); refine goesL_ (some 21) rfl rfl Tryd.func47 (by kernel_rfl) rfl #[.int .i64 t19001] rfl (by (try simp only [List.map_toArray, List.map_cons, List.map_nil]); first | done | rfl | (simp only [List.length_drop, List.length_take]; rfl)) ?_; (with_reducible refine (tinderref19_Variable.calls t19001 t19002 t19003 t19004 _ A5.out).mono ?_); rintro e w' ⟨rfl, ⟨nd, rfl⟩⟩; refine ⟨_, rfl, ?_⟩) | ((with_reducible refine gate_callee (f := 48) rfl ?_); refine goesL_ (some 59) rfl rfl Tryd.func48 (by kernel_rfl) rfl #[.string a1, .int .u32 10] rfl (by (try simp only [List.map_toArray, List.map_cons, List.map_nil]); first | done | rfl | (simp only [List.length_drop, List.length_take]; rfl)) ?_; (with_reducible refine (tinderref02_Parse.calls k a1 10 t19005 t19006 _ A10.out).mono ?_); rintro e w' ⟨rfl, ⟨nd, rfl⟩⟩; refine ⟨_, rfl, ?_⟩) | ((with_reducible refine gate_callee (f := 49) rfl ?_); refine goesL_ (some 66) rfl rfl Tryd.func49 (by kernel_rfl) rfl #[.int .u32 t19005, .int .u32 10] rfl (by (try simp only [List.map_toArray, List.map_cons, List.map_nil]); first | done | rfl | (simp only [List.length_drop, List.length_take]; rfl)) ?_; (with_reducible refine (tinderref02_Show.calls t19005 10 t19007 t19008 _ A12.out).mono ?_); rintro e w13 ⟨rfl, hb⟩; refine ⟨_, rfl, ?_⟩; have n0_ := Aside0.mk (below_step (by repeat (first | (with_reducible first | exact HB.out | apply below_alloc | apply pw_below_drewN | apply below_drew1) | exact HB.out)) hb); clear HB; have HB := n0_; clear n0_; (try clear hb); (try clear hb2); (try clear hk); (try clear hi)))
          go_ret2
          exact ⟨by first | rfl | (simp [errW_none, errW_some] <;> rfl) | (simp [*, errW_none, errW_some] <;> rfl), by repeat (first | (with_reducible first | exact HB.out | apply below_alloc | apply pw_below_drewN | apply below_drew1) | exact HB.out)⟩
        · rw [if_neg c11] at H
          have c11b0 : (t19006 == 0) = false := beq_eq_false_iff_ne.mpr c11
          have c11b1 : (t19006 != 0) = true := bne_iff_ne.mpr c11
          simp only [Option.some.injEq, Prod.mk.injEq] at H
          obtain ⟨rfl, rfl⟩ := H
          go_enter Tryd.func18, Tryd.ntmps18
          go_wp2_with (first | ((with_reducible refine gate_callee (f := 46) rfl ?_); refine goesL_ (some 16) rfl rfl Tryd.func46 (by kernel_rfl) rfl #[.string a0] rfl (by (try simp only [List.map_toArray, List.map_cons, List.map_nil]); first | done | rfl | (simp only [List.length_drop, List.length_take]; rfl)) ?_; (with_reducible refine (tinderref19_find.calls k a0 t19001 _ A3.out).mono ?_); rintro e w' ⟨rfl, ⟨nd, rfl⟩⟩; refine ⟨_, rfl, ?_⟩) | ((with_reducible refine gate_callee (f := 47) rfl ?_); refine goesL_ (some 21) rfl rfl Tryd.func47 (by kernel_rfl) rfl #[.int .i64 t19001] rfl (by (try simp only [List.map_toArray, List.map_cons, List.map_nil]); first | done | rfl | (simp only [List.length_drop, List.length_take]; rfl)) ?_; (with_reducible refine (tinderref19_Variable.calls t19001 t19002 t19003 t19004 _ A5.out).mono ?_); rintro e w' ⟨rfl, ⟨nd, rfl⟩⟩; refine ⟨_, rfl, ?_⟩) | ((with_reducible refine gate_callee (f := 48) rfl ?_); refine goesL_ (some 59) rfl rfl Tryd.func48 (by kernel_rfl) rfl #[.string a1, .int .u32 10] rfl (by (try simp only [List.map_toArray, List.map_cons, List.map_nil]); first | done | rfl | (simp only [List.length_drop, List.length_take]; rfl)) ?_; (with_reducible refine (tinderref02_Parse.calls k a1 10 t19005 t19006 _ A10.out).mono ?_); rintro e w' ⟨rfl, ⟨nd, rfl⟩⟩; refine ⟨_, rfl, ?_⟩))
          go_ret2
          exact ⟨by first | rfl | (simp [errW_none, errW_some] <;> rfl) | (simp [*, errW_none, errW_some] <;> rfl), by repeat (first | (with_reducible first | exact HB.out | apply below_alloc | apply pw_below_drewN | apply below_drew1) | exact HB.out)⟩
      · rw [if_neg c9] at H
        have c9b0 : (t19003 == 110) = false := beq_eq_false_iff_ne.mpr c9
        have c9b1 : (t19003 != 110) = true := bne_iff_ne.mpr c9
        have H' := Aside0.mk H
        clear H
        go_enter Tryd.func18, Tryd.ntmps18
        go_wp2_with (first | ((with_reducible refine gate_callee (f := 46) rfl ?_); refine goesL_ (some 16) rfl rfl Tryd.func46 (by kernel_rfl) rfl #[.string a0] rfl (by (try simp only [List.map_toArray, List.map_cons, List.map_nil]); first | done | rfl | (simp only [List.length_drop, List.length_take]; rfl)) ?_; (with_reducible refine (tinderref19_find.calls k a0 t19001 _ A3.out).mono ?_); rintro e w' ⟨rfl, ⟨nd, rfl⟩⟩; refine ⟨_, rfl, ?_⟩) | ((with_reducible refine gate_callee (f := 47) rfl ?_); refine goesL_ (some 21) rfl rfl Tryd.func47 (by kernel_rfl) rfl #[.int .i64 t19001] rfl (by (try simp only [List.map_toArray, List.map_cons, List.map_nil]); first | done | rfl | (simp only [List.length_drop, List.length_take]; rfl)) ?_; (with_reducible refine (tinderref19_Variable.calls t19001 t19002 t19003 t19004 _ A5.out).mono ?_); rintro e w' ⟨rfl, ⟨nd, rfl⟩⟩; refine ⟨_, rfl, ?_⟩))
        go_loopg [14] k (fun kq v14 w' => ∃ (x14_1 : Int), v14 = .int .i64 x14_1 ∧ Aside0 (tinderref19_Form.l0 kq a1 x14_1 = some (r1, r2)) ∧ Aside0 (kq ≤ k) ∧ Aside0 (Below w.heap.size w w'))
        case atStart => exact ⟨(0), (by first | rfl | (simp; done) | (simp [*]; done)), H', ⟨Nat.le_refl _⟩, ⟨by repeat (first | (with_reducible first | exact HB.out | apply below_alloc | apply pw_below_drewN | apply below_drew1) | exact HB.out)⟩⟩
        case round =>
          clear H'
          try clear c1
          try clear p2
          try clear c4
          try clear c4b0
          try clear c6
          try clear c6b0
          try clear c6b1
          try clear c7
          try clear c7b0
          try clear c7b1
          try clear c8
          try clear c8b0
          try clear c8b1
          try clear c9
          try clear c9b0
          try clear c9b1
          try clear c11
          try clear c11b0
          try clear c11b1
          obtain ⟨x14_1, rfl, HA, HK1, HB⟩ := hrel
          cases gk with
          | zero => exact absurd HA.out (by simp [tinderref19_Form.l0])
          | succ k1 =>
            have H := HA.out
            clear HA
            simp only [tinderref19_Form.l0] at H
            by_cases c14 : x14_1 < (a1.size : Int)
            · rw [if_pos c14] at H
              have c14b0 : decide (x14_1 < (a1.size : Int)) = true := decide_eq_true c14
              clear c14
              by_cases c15 : 0 ≤ x14_1
              · rw [if_pos c15] at H
                have c15b0 : decide (0 ≤ x14_1) = true := decide_eq_true c15
                clear c15
                by_cases c17 : (bt a1 x14_1) < 32
                · rw [if_pos c17] at H
                  have c17b0 : decide ((bt a1 x14_1) < 32) = true := decide_eq_true c17
                  clear c17
                  simp only [Option.some.injEq, Prod.mk.injEq] at H
                  obtain ⟨rfl, rfl⟩ := H
                  have p16 : 0 ≤ (x14_1 : Int) := of_decide_eq_true (by first | (with_reducible assumption) | assumption)
                  have q16 : x14_1 < (a1.size : Int) := of_decide_eq_true (by first | (with_reducible assumption) | assumption)
                  have hx16 := bt_at a1 x14_1
                  replace p16 := eq_true p16
                  replace q16 := eq_true q16
                  go_wp2
                  go_ret2
                  exact ⟨by first | rfl | (simp [errW_none, errW_some] <;> rfl) | (simp [*, errW_none, errW_some] <;> rfl), by repeat (first | (with_reducible first | exact HB.out | apply below_alloc | apply pw_below_drewN | apply below_drew1) | exact HB.out)⟩
                · rw [if_neg c17] at H
                  have c17b0 : decide ((bt a1 x14_1) < 32) = false := decide_eq_false c17
                  clear c17
                  by_cases c19 : (bt a1 x14_1) > 126
                  · rw [if_pos c19] at H
                    have c19b0 : decide (126 < (bt a1 x14_1)) = true := decide_eq_true c19
                    clear c19
                    simp only [Option.some.injEq, Prod.mk.injEq] at H
                    obtain ⟨rfl, rfl⟩ := H
                    have p16 : 0 ≤ (x14_1 : Int) := of_decide_eq_true (by first | (with_reducible assumption) | assumption)
                    have q16 : x14_1 < (a1.size : Int) := of_decide_eq_true (by first | (with_reducible assumption) | assumption)
                    have hx16 := bt_at a1 x14_1
                    replace p16 := eq_true p16
                    replace q16 := eq_true q16
                    have p18 : 0 ≤ (x14_1 : Int) := of_decide_eq_true (by first | (with_reducible assumption) | assumption)
                    have q18 : x14_1 < (a1.size : Int) := of_decide_eq_true (by first | (with_reducible assumption) | assumption)
                    have hx18 := bt_at a1 x14_1
                    replace p18 := eq_true p18
                    replace q18 := eq_true q18
                    go_wp2
                    go_ret2
                    exact ⟨by first | rfl | (simp [errW_none, errW_some] <;> rfl) | (simp [*, errW_none, errW_some] <;> rfl), by repeat (first | (with_reducible first | exact HB.out | apply below_alloc | apply pw_below_drewN | apply below_drew1) | exact HB.out)⟩
                  · rw [if_neg c19] at H
                    have c19b0 : decide (126 < (bt a1 x14_1)) = false := decide_eq_false c19
                    clear c19
                    have H' := Aside0.mk H
                    clear H
                    have p16 : 0 ≤ (x14_1 : Int) := of_decide_eq_true (by first | (with_reducible assumption) | assumption)
                    have q16 : x14_1 < (a1.size : Int) := of_decide_eq_true (by first | (with_reducible assumption) | assumption)
                    have hx16 := bt_at a1 x14_1
                    replace p16 := eq_true p16
                    replace q16 := eq_true q16
                    have p18 : 0 ≤ (x14_1 : Int) := of_decide_eq_true (by first | (with_reducible assumption) | assumption)
                    have q18 : x14_1 < (a1.size : Int) := of_decide_eq_true (by first | (with_reducible assumption) | assumption)
                    have hx18 := bt_at a1 x14_1
                    replace p18 := eq_true p18
                    replace q18 := eq_true q18
                    go_wp2
                    go_roundg k1
                    case measure => have := HK1.out; omega
                    case rel => exact ⟨(wrap64 (x14_1 + 1)), (by first | rfl | (simp; done) | (simp [*]; done)), H', ⟨by have := HK1.out; omega⟩, ⟨by repeat (first | (with_reducible first | exact HB.out | apply below_alloc | apply pw_below_drewN | apply below_drew1) | exact HB.out)⟩⟩
              · rw [if_neg c15] at H
                exact absurd H (by simp)
            · rw [if_neg c14] at H
              have c14b0 : decide (x14_1 < (a1.size : Int)) = false := decide_eq_false c14
              clear c14
              by_cases c20 : (a1.size : Int) ≤ 128
              · rw [if_pos c20] at H
                have c20b0 : decide ((a1.size : Int) ≤ 128) = true := decide_eq_true c20
                have c20b1 : decide (a1.size ≤ 128) = true := decide_eq_true (by omega)
                clear c20
                simp only [Option.some.injEq, Prod.mk.injEq] at H
                obtain ⟨rfl, rfl⟩ := H
                go_wp2
                go_ret2
                exact ⟨by first | rfl | (simp [errW_none, errW_some] <;> rfl) | (simp [*, errW_none, errW_some] <;> rfl), by repeat (first | (with_reducible first | exact HB.out | apply below_alloc | apply pw_below_drewN | apply below_drew1) | exact HB.out)⟩
              · rw [if_neg c20] at H
                have c20b0 : decide ((a1.size : Int) ≤ 128) = false := decide_eq_false c20
                have c20b1 : decide (a1.size ≤ 128) = false := decide_eq_false (by omega)
                clear c20
                simp only [Option.some.injEq, Prod.mk.injEq] at H
                obtain ⟨rfl, rfl⟩ := H
                go_wp2
                go_ret2
                exact ⟨by first | rfl | (simp [errW_none, errW_some] <;> rfl) | (simp [*, errW_none, errW_some] <;> rfl), by repeat (first | (with_reducible first | exact HB.out | apply below_alloc | apply pw_below_drewN | apply below_drew1) | exact HB.out)⟩

end Go.Proofs.YtefhngadeimklaaDoor.Q
end
