/- Contracts of Go functions and plain facts, of several texts, one behind the other; no condition. -/
import Derived.Test.YtefhngadeimklaaDoorMVarsKeeps2
section
namespace Go.Proofs.YtefhngadeimklaaDoor.Q
open Go.RowKit Go.Proofs.YtefhngadeimklaaDoorW.PrintWords Go.Proofs.YtefhngadeimklaaDoorW.PrintLast Go.Proofs.YtefhngadeimklaaDoorW.PrintMore
set_option linter.unusedVariables false
set_option linter.unusedSimpArgs false

attribute [local go_sem] max2_int min2_int max_two min_two max_three min_three max_four min_four
/-! ### vars_find: function 37 -/
def vars_find.l0 : Nat → ByteArray → List (S57) → Int → Int → Option (ByteArray × Int × ByteArray × Int × Bool)
  | 0, _, _, _, _ => none
  | k + 1, x0, x7, x8, x9 => if x9 < x8 then (if 0 ≤ x9 then (if x9 < (x7.length : Int) then (if ((rd_T57 x7 x9).f0).toList = x0.toList then (some ((rd_T57 x7 x9).f0, (rd_T57 x7 x9).f1, (rd_T57 x7 x9).f2, x9, true)) else (vars_find.l0 k x0 x7 x8 (wrap64 (x9 + 1)))) else (none)) else (none)) else (some ((⟨#[]⟩ : ByteArray), 0, (⟨#[]⟩ : ByteArray), (-1), false))
def vars_find.f (k : Nat) (a0 : ByteArray) : Option (ByteArray × Int × ByteArray × Int × Bool) := (vars_all.f).bind fun t38002 => (vars_find.l0 k a0 t38002 (t38002.length : Int) 0)
set_option maxHeartbeats 8000000 in
set_option maxRecDepth 100000 in
theorem vars_find.calls (k : Nat) (a0 : ByteArray) (r1 : ByteArray) (r2 : Int) (r3 : ByteArray) (r4 : Int) (r5 : Bool) (w : World) (h : vars_find.f k a0 = some (r1, r2, r3, r4, r5)) :
    Calls Tryd.prog 37 #[.string a0] w fun e w' => e = .returned (.tuple #[.agg #[.string r1, .int .i64 r2, .string r3], .int .i64 r4, .bool r5]) ∧ Below w.heap.size w w' := by
  have hu57 := Tryd.underlying57
  have HB := Aside0.mk (Below.refl w.heap.size w)
  have H : ((vars_all.f).bind fun t38002 => (vars_find.l0 k a0 t38002 (t38002.length : Int) 0)) = some (r1, r2, r3, r4, r5) := h
  clear h
  replace H := Option.bind_eq_some_iff.mp H
  obtain ⟨t38002, A20, H⟩ := H
  replace H : (vars_find.l0 k a0 t38002 (t38002.length : Int) 0) = some (r1, r2, r3, r4, r5) := H
  have A2 := Aside0.mk A20
  clear A20
  have H' := Aside0.mk H
  clear H
  go_enter Tryd.func37, Tryd.ntmps37
  go_wp2_with (first | ((with_reducible refine gate_dst (N := 2) rfl ?_); refine box_event ?hg (N := 2) ?hd (cs := #[.string (⟨#[]⟩ : ByteArray), .int .i64 0, .string (⟨#[]⟩ : ByteArray)]) (t := 57) ?hr ?_; (case hd => rfl); (case hg => rfl); (case hr => first | (go_simp; done) | (go_simp; rfl)); intro gb38001 hg w3 hbox hb; have n0_ := Aside0.mk (below_step (by repeat (first | (with_reducible first | exact HB.out | apply below_alloc | apply pw_below_drewN | apply below_drew1) | exact HB.out)) hb); have n1_ := Aside0.mk (hbox); have n2_ := Aside0.mk ((by rw [hg]; exact (below_size (by repeat (first | (with_reducible first | exact HB.out | apply below_alloc | apply pw_below_drewN | apply below_drew1) | exact HB.out))) : w.heap.size ≤ gb38001)); have n3_ := Aside0.mk ((by rw [hg]; exact (below_size (by repeat (first | (with_reducible first | exact HB.out | apply below_alloc | apply pw_below_drewN | apply below_drew1) | exact HB.out))) : w.heap.size ≤ gb38001)); clear HB; have HB := n0_; have BK38001 := n1_; have GW38001 := n2_; have GE38001 := n3_; clear n0_ n1_ n2_ n3_; clear hb hbox hg) | ((with_reducible refine gate_callee (f := 50) rfl ?_); refine goesL_ (some 7) rfl rfl Tryd.func50 (by kernel_rfl) rfl #[] rfl (by (try simp only [List.map_toArray, List.map_cons, List.map_nil]); first | done | rfl | (simp only [List.length_drop, List.length_take]; rfl)) ?_; (with_reducible refine (vars_all.calls  t38002 _ A2.out).mono ?_); rintro e w4 ⟨v38003, rfl, ho0, hb⟩; refine ⟨_, rfl, ?_⟩; have n0_ := Aside0.mk (Kd.R_lower (Kd.R_newB ho0 (g := gb38001) (o := .cells #[.string (⟨#[]⟩ : ByteArray), .int .i64 0, .string (⟨#[]⟩ : ByteArray)] 57 (0, 0)) (by (with_reducible repeat (first | refine blk_drewN ?_ _ | refine blk_drew ?_ | refine blk_alloc ?_ _)); exact BK38001.out)) (below_size (by repeat (first | (with_reducible first | exact HB.out | apply below_alloc | apply pw_below_drewN | apply below_drew1 | refine below_set ?_ GE38001.out) | exact HB.out)))); have n1_ := Aside0.mk (blk_below (g := gb38001) (o := .cells #[.string (⟨#[]⟩ : ByteArray), .int .i64 0, .string (⟨#[]⟩ : ByteArray)] 57 (0, 0)) (by (with_reducible repeat (first | refine blk_drewN ?_ _ | refine blk_drew ?_ | refine blk_alloc ?_ _)); exact BK38001.out) hb); have n2_ := Aside0.mk (below_step (by repeat (first | (with_reducible first | exact HB.out | apply below_alloc | apply pw_below_drewN | apply below_drew1 | refine below_set ?_ GE38001.out) | exact HB.out)) hb); clear BK38001; clear HB; have HO38004 := n0_; have BK38001 := n1_; have HB := n2_; clear n0_ n1_ n2_; (try clear hb); (try clear hb2); (try clear hk); (try clear hi); (try clear ho0); obtain ⟨Ao5, co5, eo5⟩ := Kd.R_slice HO38004.out; subst eo5))
  go_loopg [9] k (fun kq v9 w' => ∃ (x9_1 : Int) (x38002000_1 : ByteArray) (x38002001_1 : Int) (x38002002_1 : ByteArray), v9 = .int .i64 x9_1 ∧ Aside0 (vars_find.l0 kq a0 t38002 (t38002.length : Int) x9_1 = some (r1, r2, r3, r4, r5)) ∧ Aside0 (kq ≤ k) ∧ Aside0 (Kd.R k57 57 w' w.heap.size (fun k_ => k_ ≠ gb38001) (.slice Ao5 t38002.length co5) t38002) ∧ Aside0 (w'.heap[gb38001]? = some (.cells #[.string x38002000_1, .int .i64 x38002001_1, .string x38002002_1] 57 (0, 0))) ∧ Aside0 (Below w.heap.size w w'))
  case atStart => exact ⟨(0), ((⟨#[]⟩ : ByteArray)), (0), ((⟨#[]⟩ : ByteArray)), (by first | rfl | (simp; done) | (simp [*]; done)), H', ⟨Nat.le_refl _⟩, ⟨by (with_reducible repeat (first | apply Kd.R_alloc | apply Kd.R_drewN | apply Kd.R_drew)); exact Kd.R_mono HO38004.out (fun _ hk => hk.2)⟩, ⟨by (with_reducible repeat (first | refine blk_drewN ?_ _ | refine blk_drew ?_ | refine blk_alloc ?_ _)); exact BK38001.out⟩, ⟨by repeat (first | (with_reducible first | exact HB.out | apply below_alloc | apply pw_below_drewN | apply below_drew1 | refine below_set ?_ GE38001.out) | exact HB.out)⟩⟩
  case round =>
    clear H'
    try clear p2
    try clear c3
    try clear c5
    obtain ⟨x9_1, x38002000_1, x38002001_1, x38002002_1, rfl, HA, HK1, HO_7, BK38001, HB⟩ := hrel
    cases gk with
    | zero => exact absurd HA.out (by simp [vars_find.l0])
    | succ k1 =>
      have H := HA.out
      clear HA
      simp only [vars_find.l0] at H
      by_cases c6 : x9_1 < (t38002.length : Int)
      · rw [if_pos c6] at H
        have c6b0 : decide (x9_1 < (t38002.length : Int)) = true := decide_eq_true c6
        clear c6
        by_cases c7 : 0 ≤ x9_1
        · rw [if_pos c7] at H
          have c7b0 : decide (0 ≤ x9_1) = true := decide_eq_true c7
          clear c7
          by_cases c8 : x9_1 < (t38002.length : Int)
          · rw [if_pos c8] at H
            have c8b0 : decide (x9_1 < (t38002.length : Int)) = true := decide_eq_true c8
            clear c8
            by_cases c9 : ((rd_T57 t38002 x9_1).f0).toList = a0.toList
            · rw [if_pos c9] at H
              have c9b0 : (((rd_T57 t38002 x9_1).f0).toList == a0.toList) = true := beq_iff_eq.mpr c9
              have c9b1 : (((rd_T57 t38002 x9_1).f0).toList != a0.toList) = false := bne_eq_false_iff_eq.mpr c9
              clear c9
              simp only [Option.some.injEq, Prod.mk.injEq] at H
              obtain ⟨rfl, rfl, rfl, rfl, rfl⟩ := H
              have p38005 : 0 ≤ (x9_1 : Int) := of_decide_eq_true (by first | (with_reducible assumption) | assumption)
              have q38005 : x9_1 < (t38002.length : Int) := of_decide_eq_true (by first | (with_reducible assumption) | assumption)
              obtain ⟨ad38005, e38005, hx38005_0, hx38005_1, hx38005_2⟩ := at_T57 (Kd.R_reads' HO_7.out).2.2 x9_1 p38005 q38005
              cases e38005
              replace p38005 := eq_true p38005
              replace q38005 := eq_true q38005
              go_wp2_with (first | ((with_reducible refine gate_dst (N := 6) rfl ?_); refine box_event ?hg (N := 6) ?hd (cs := #[.string (⟨#[]⟩ : ByteArray), .int .i64 0, .string (⟨#[]⟩ : ByteArray)]) (t := 57) ?hr ?_; (case hd => rfl); (case hg => rfl); (case hr => first | (go_simp; done) | (go_simp; rfl)); intro gb38006 hg w10 hbox hb; have n0_ := Aside0.mk (Kd.R_below (Kd.R_elderB (by (with_reducible repeat (first | apply Kd.R_alloc | apply Kd.R_drewN | apply Kd.R_drew)); exact HO_7.out) gb38006 (Nat.le_of_eq hg.symm)) hb); have n1_ := Aside0.mk (blk_below (g := gb38001) (o := .cells #[.string x38002000_1, .int .i64 x38002001_1, .string x38002002_1] 57 (0, 0)) (by (with_reducible repeat (first | refine blk_drewN ?_ _ | refine blk_drew ?_ | refine blk_alloc ?_ _)); exact BK38001.out) hb); have n2_ := Aside0.mk (below_step (by repeat (first | (with_reducible first | exact HB.out | apply below_alloc | apply pw_below_drewN | apply below_drew1 | refine below_set ?_ GE38001.out) | exact HB.out)) hb); have n3_ := Aside0.mk (hbox); have n4_ := Aside0.mk ((by rw [hg]; exact (below_size (by repeat (first | (with_reducible first | exact HB.out | apply below_alloc | apply pw_below_drewN | apply below_drew1 | refine below_set ?_ GE38001.out) | exact HB.out))) : w.heap.size ≤ gb38006)); have n5_ := Aside0.mk ((by rw [hg]; exact (below_size (by repeat (first | (with_reducible first | exact HB.out | apply below_alloc | apply pw_below_drewN | apply below_drew1 | refine below_set ?_ GE38001.out) | exact HB.out))) : w.heap.size ≤ gb38006)); have n6_ := Aside0.mk ((by rw [hg]; exact Nat.ne_of_lt (blk_lt (g := gb38001) (o := .cells #[.string x38002000_1, .int .i64 x38002001_1, .string x38002002_1] 57 (0, 0)) (by (with_reducible repeat (first | refine blk_drewN ?_ _ | refine blk_drew ?_ | refine blk_alloc ?_ _)); exact BK38001.out)) : gb38001 ≠ gb38006)); have n7_ := Aside0.mk ((by rw [hg]; exact Nat.ne_of_gt (blk_lt (g := gb38001) (o := .cells #[.string x38002000_1, .int .i64 x38002001_1, .string x38002002_1] 57 (0, 0)) (by (with_reducible repeat (first | refine blk_drewN ?_ _ | refine blk_drew ?_ | refine blk_alloc ?_ _)); exact BK38001.out)) : gb38006 ≠ gb38001)); clear HO_7; clear BK38001; clear HB; have HO_7 := n0_; have BK38001 := n1_; have HB := n2_; have BK38006 := n3_; have GW38006 := n4_; have GE38006 := n5_; have NB38001_38006 := n6_; have NB38006_38001 := n7_; clear n0_ n1_ n2_ n3_ n4_ n5_ n6_ n7_; clear hb hbox hg; have hnb11 := NB38006_38001.out; have hnc11 := NB38001_38006.out; have hcz12_0 : w10.cell? ⟨gb38006, 0, none⟩ = some (.string (⟨#[]⟩ : ByteArray)) := (blk_cell BK38006.out 0).trans rfl; have hcz12_1 : w10.cell? ⟨gb38006, 1, none⟩ = some (.int .i64 0) := (blk_cell BK38006.out 1).trans rfl; have hcz12_2 : w10.cell? ⟨gb38006, 2, none⟩ = some (.string (⟨#[]⟩ : ByteArray)) := (blk_cell BK38006.out 2).trans rfl; have hfz12_0 := blk_frozen BK38006.out 0; have hfz12_1 := blk_frozen BK38006.out 1; have hfz12_2 := blk_frozen BK38006.out 2; have hcz13_0 : w10.cell? ⟨gb38001, 0, none⟩ = some (.string x38002000_1) := (blk_cell BK38001.out 0).trans rfl; have hcz13_1 : w10.cell? ⟨gb38001, 1, none⟩ = some (.int .i64 x38002001_1) := (blk_cell BK38001.out 1).trans rfl; have hcz13_2 : w10.cell? ⟨gb38001, 2, none⟩ = some (.string x38002002_1) := (blk_cell BK38001.out 2).trans rfl; have hfz13_0 := blk_frozen BK38001.out 0; have hfz13_1 := blk_frozen BK38001.out 1; have hfz13_2 := blk_frozen BK38001.out 2))
              refine bodyPost_ret (results_ctt rfl _ _ gb38001 57 #[.string ((rd_T57 t38002 x9_1).f0), .int .i64 ((rd_T57 t38002 x9_1).f1), .string ((rd_T57 t38002 x9_1).f2)] (0, 0) _ rfl (by (with_reducible repeat (first | refine blk_drewN ?_ _ | refine blk_drew ?_ | refine blk_alloc ?_ _)); refine blk_put (cs := #[.string ((rd_T57 t38002 x9_1).f0), .int .i64 ((rd_T57 t38002 x9_1).f1), .string x38002002_1]) ?_ 2 _ rfl; (with_reducible repeat (first | refine blk_drewN ?_ _ | refine blk_drew ?_ | refine blk_alloc ?_ _)); refine blk_put (cs := #[.string ((rd_T57 t38002 x9_1).f0), .int .i64 x38002001_1, .string x38002002_1]) ?_ 1 _ rfl; (with_reducible repeat (first | refine blk_drewN ?_ _ | refine blk_drew ?_ | refine blk_alloc ?_ _)); refine blk_put (cs := #[.string x38002000_1, .int .i64 x38002001_1, .string x38002002_1]) ?_ 0 _ rfl; (with_reducible repeat (first | refine blk_drewN ?_ _ | refine blk_drew ?_ | refine blk_alloc ?_ _)); refine blk_far ?_ NB38001_38006.out _; (with_reducible repeat (first | refine blk_drewN ?_ _ | refine blk_drew ?_ | refine blk_alloc ?_ _)); refine blk_far ?_ NB38001_38006.out _; (with_reducible repeat (first | refine blk_drewN ?_ _ | refine blk_drew ?_ | refine blk_alloc ?_ _)); refine blk_far ?_ NB38001_38006.out _; (with_reducible repeat (first | refine blk_drewN ?_ _ | refine blk_drew ?_ | refine blk_alloc ?_ _)); exact BK38001.out) Tryd.underlying57 rfl (by kernel_rfl)) rfl ?_
              exact ⟨by first | rfl | (simp [errW_none, errW_some] <;> rfl) | (simp [*, errW_none, errW_some] <;> rfl), by repeat (first | (with_reducible first | exact HB.out | apply below_alloc | apply pw_below_drewN | apply below_drew1 | refine below_set ?_ GE38001.out | refine below_set ?_ GE38006.out) | exact HB.out)⟩
            · rw [if_neg c9] at H
              have c9b0 : (((rd_T57 t38002 x9_1).f0).toList == a0.toList) = false := beq_eq_false_iff_ne.mpr c9
              have c9b1 : (((rd_T57 t38002 x9_1).f0).toList != a0.toList) = true := bne_iff_ne.mpr c9
              have H' := Aside0.mk H
              clear H
              have p38005 : 0 ≤ (x9_1 : Int) := of_decide_eq_true (by first | (with_reducible assumption) | assumption)
              have q38005 : x9_1 < (t38002.length : Int) := of_decide_eq_true (by first | (with_reducible assumption) | assumption)
              obtain ⟨ad38005, e38005, hx38005_0, hx38005_1, hx38005_2⟩ := at_T57 (Kd.R_reads' HO_7.out).2.2 x9_1 p38005 q38005
              cases e38005
              replace p38005 := eq_true p38005
              replace q38005 := eq_true q38005
              go_wp2_with (first | ((with_reducible refine gate_dst (N := 6) rfl ?_); refine box_event ?hg (N := 6) ?hd (cs := #[.string (⟨#[]⟩ : ByteArray), .int .i64 0, .string (⟨#[]⟩ : ByteArray)]) (t := 57) ?hr ?_; (case hd => rfl); (case hg => rfl); (case hr => first | (go_simp; done) | (go_simp; rfl)); intro gb38006 hg w14 hbox hb; have n0_ := Aside0.mk (Kd.R_below (Kd.R_elderB (by (with_reducible repeat (first | apply Kd.R_alloc | apply Kd.R_drewN | apply Kd.R_drew)); exact HO_7.out) gb38006 (Nat.le_of_eq hg.symm)) hb); have n1_ := Aside0.mk (blk_below (g := gb38001) (o := .cells #[.string x38002000_1, .int .i64 x38002001_1, .string x38002002_1] 57 (0, 0)) (by (with_reducible repeat (first | refine blk_drewN ?_ _ | refine blk_drew ?_ | refine blk_alloc ?_ _)); exact BK38001.out) hb); have n2_ := Aside0.mk (below_step (by repeat (first | (with_reducible first | exact HB.out | apply below_alloc | apply pw_below_drewN | apply below_drew1 | refine below_set ?_ GE38001.out) | exact HB.out)) hb); have n3_ := Aside0.mk (hbox); have n4_ := Aside0.mk ((by rw [hg]; exact (below_size (by repeat (first | (with_reducible first | exact HB.out | apply below_alloc | apply pw_below_drewN | apply below_drew1 | refine below_set ?_ GE38001.out) | exact HB.out))) : w.heap.size ≤ gb38006)); have n5_ := Aside0.mk ((by rw [hg]; exact (below_size (by repeat (first | (with_reducible first | exact HB.out | apply below_alloc | apply pw_below_drewN | apply below_drew1 | refine below_set ?_ GE38001.out) | exact HB.out))) : w.heap.size ≤ gb38006)); have n6_ := Aside0.mk ((by rw [hg]; exact Nat.ne_of_lt (blk_lt (g := gb38001) (o := .cells #[.string x38002000_1, .int .i64 x38002001_1, .string x38002002_1] 57 (0, 0)) (by (with_reducible repeat (first | refine blk_drewN ?_ _ | refine blk_drew ?_ | refine blk_alloc ?_ _)); exact BK38001.out)) : gb38001 ≠ gb38006)); have n7_ := Aside0.mk ((by rw [hg]; exact Nat.ne_of_gt (blk_lt (g := gb38001) (o := .cells #[.string x38002000_1, .int .i64 x38002001_1, .string x38002002_1] 57 (0, 0)) (by (with_reducible repeat (first | refine blk_drewN ?_ _ | refine blk_drew ?_ | refine blk_alloc ?_ _)); exact BK38001.out)) : gb38006 ≠ gb38001)); clear HO_7; clear BK38001; clear HB; have HO_7 := n0_; have BK38001 := n1_; have HB := n2_; have BK38006 := n3_; have GW38006 := n4_; have GE38006 := n5_; have NB38001_38006 := n6_; have NB38006_38001 := n7_; clear n0_ n1_ n2_ n3_ n4_ n5_ n6_ n7_; clear hb hbox hg; have hnb15 := NB38006_38001.out; have hnc15 := NB38001_38006.out; have hcz16_0 : w14.cell? ⟨gb38006, 0, none⟩ = some (.string (⟨#[]⟩ : ByteArray)) := (blk_cell BK38006.out 0).trans rfl; have hcz16_1 : w14.cell? ⟨gb38006, 1, none⟩ = some (.int .i64 0) := (blk_cell BK38006.out 1).trans rfl; have hcz16_2 : w14.cell? ⟨gb38006, 2, none⟩ = some (.string (⟨#[]⟩ : ByteArray)) := (blk_cell BK38006.out 2).trans rfl; have hfz16_0 := blk_frozen BK38006.out 0; have hfz16_1 := blk_frozen BK38006.out 1; have hfz16_2 := blk_frozen BK38006.out 2))
              go_roundg k1
              case measure => have := HK1.out; omega
              case rel => exact ⟨(wrap64 (x9_1 + 1)), (x38002000_1), (x38002001_1), (x38002002_1), (by first | rfl | (simp; done) | (simp [*]; done)), H', ⟨by have := HK1.out; omega⟩, ⟨by (with_reducible repeat (first | apply Kd.R_alloc | apply Kd.R_drewN | apply Kd.R_drew)); exact Kd.R_mono (Kd.R_far (p := ⟨gb38006, 2, none⟩) (Kd.R_far (p := ⟨gb38006, 1, none⟩) (Kd.R_far (p := ⟨gb38006, 0, none⟩) (Kd.R_mono HO_7.out (fun k_ hk => (⟨hk, hk.2⟩ : _ ∧ k_ ≠ gb38006))) (fun _ hk => hk.2) (.string ((rd_T57 t38002 x9_1).f0))) (fun _ hk => hk.2) (.int .i64 ((rd_T57 t38002 x9_1).f1))) (fun _ hk => hk.2) (.string ((rd_T57 t38002 x9_1).f2))) (fun _ hk => hk.1.1)⟩, ⟨by (with_reducible repeat (first | refine blk_drewN ?_ _ | refine blk_drew ?_ | refine blk_alloc ?_ _)); refine blk_far ?_ NB38001_38006.out _; (with_reducible repeat (first | refine blk_drewN ?_ _ | refine blk_drew ?_ | refine blk_alloc ?_ _)); refine blk_far ?_ NB38001_38006.out _; (with_reducible repeat (first | refine blk_drewN ?_ _ | refine blk_drew ?_ | refine blk_alloc ?_ _)); refine blk_far ?_ NB38001_38006.out _; (with_reducible repeat (first | refine blk_drewN ?_ _ | refine blk_drew ?_ | refine blk_alloc ?_ _)); exact BK38001.out⟩, ⟨by repeat (first | (with_reducible first | exact HB.out | apply below_alloc | apply pw_below_drewN | apply below_drew1 | refine below_set ?_ GE38001.out | refine below_set ?_ GE38006.out) | exact HB.out)⟩⟩
          · rw [if_neg c8] at H
            exact absurd H (by simp)
        · rw [if_neg c7] at H
          exact absurd H (by simp)
      · rw [if_neg c6] at H
        have c6b0 : decide (x9_1 < (t38002.length : Int)) = false := decide_eq_false c6
        clear c6
        simp only [Option.some.injEq, Prod.mk.injEq] at H
        obtain ⟨rfl, rfl, rfl, rfl, rfl⟩ := H
        have hcz17_0 : wr.cell? ⟨gb38001, 0, none⟩ = some (.string x38002000_1) := (blk_cell BK38001.out 0).trans rfl
        have hcz17_1 : wr.cell? ⟨gb38001, 1, none⟩ = some (.int .i64 x38002001_1) := (blk_cell BK38001.out 1).trans rfl
        have hcz17_2 : wr.cell? ⟨gb38001, 2, none⟩ = some (.string x38002002_1) := (blk_cell BK38001.out 2).trans rfl
        have hfz17_0 := blk_frozen BK38001.out 0
        have hfz17_1 := blk_frozen BK38001.out 1
        have hfz17_2 := blk_frozen BK38001.out 2
        go_wp2
        refine bodyPost_ret (results_ctt rfl _ _ gb38001 57 #[.string (⟨#[]⟩ : ByteArray), .int .i64 0, .string (⟨#[]⟩ : ByteArray)] (0, 0) _ rfl (by (with_reducible repeat (first | refine blk_drewN ?_ _ | refine blk_drew ?_ | refine blk_alloc ?_ _)); refine blk_put (cs := #[.string (⟨#[]⟩ : ByteArray), .int .i64 0, .string x38002002_1]) ?_ 2 _ rfl; (with_reducible repeat (first | refine blk_drewN ?_ _ | refine blk_drew ?_ | refine blk_alloc ?_ _)); refine blk_put (cs := #[.string (⟨#[]⟩ : ByteArray), .int .i64 x38002001_1, .string x38002002_1]) ?_ 1 _ rfl; (with_reducible repeat (first | refine blk_drewN ?_ _ | refine blk_drew ?_ | refine blk_alloc ?_ _)); refine blk_put (cs := #[.string x38002000_1, .int .i64 x38002001_1, .string x38002002_1]) ?_ 0 _ rfl; (with_reducible repeat (first | refine blk_drewN ?_ _ | refine blk_drew ?_ | refine blk_alloc ?_ _)); exact BK38001.out) Tryd.underlying57 rfl (by kernel_rfl)) rfl ?_
        exact ⟨by first | rfl | (simp [errW_none, errW_some] <;> rfl) | (simp [*, errW_none, errW_some] <;> rfl), by repeat (first | (with_reducible first | exact HB.out | apply below_alloc | apply pw_below_drewN | apply below_drew1 | refine below_set ?_ GE38001.out) | exact HB.out)⟩

end Go.Proofs.YtefhngadeimklaaDoor.Q
end
section
namespace Go.Proofs.YtefhngadeimklaaDoor.Q
open Go.RowKit Go.Proofs.YtefhngadeimklaaDoorW.PrintWords Go.Proofs.YtefhngadeimklaaDoorW.PrintLast Go.Proofs.YtefhngadeimklaaDoorW.PrintMore
set_option linter.unusedVariables false
set_option linter.unusedSimpArgs false

attribute [local go_sem] max2_int min2_int max_two min_two max_three min_three max_four min_four
/-! ### vars_variable_form: function 45 -/
def vars_variable_form.l0 : Nat → ByteArray → Int → Int → Option (ByteArray × Bool)
  | 0, _, _, _ => none
  | k + 1, x1, x38, x39 => if x39 < x38 then (if 0 ≤ x39 then (if x39 < (x1.size : Int) then (if (bt x1 x39) < 32 then (some ((⟨#[]⟩ : ByteArray), false)) else (if (bt x1 x39) > 126 then (some ((⟨#[]⟩ : ByteArray), false)) else (vars_variable_form.l0 k x1 x38 (wrap64 (x39 + 1))))) else (none)) else (none)) else (some (x1, decide ((x1.size : Int) ≤ 128)))
def vars_variable_form.f (k : Nat) (a0_0 : ByteArray) (a0_1 : Int) (a0_2 : ByteArray) (a1 : ByteArray) : Option (ByteArray × Bool) := if a0_1 = 0 then (if a1.toList = ([116, 114, 117, 101] : List UInt8) then (some (a1, true)) else (some (a1, (a1.toList == ([102, 97, 108, 115, 101] : List UInt8))))) else (if a0_1 = 1 then ((digit_Parse.f k a1 10).bind fun bt46002 => (if bt46002.2 = 0 then ((digit_Show.f bt46002.1 10).bind fun bt46004 => (some (bt46004.1, (bt46004.2 == 0)))) else (some ((⟨#[]⟩ : ByteArray), false)))) else (vars_variable_form.l0 k a1 (a1.size : Int) 0))
set_option maxHeartbeats 8000000 in
set_option maxRecDepth 100000 in
theorem vars_variable_form.calls (k : Nat) (a0_0 : ByteArray) (a0_1 : Int) (a0_2 : ByteArray) (a1 : ByteArray) (r1 : ByteArray) (r2 : Bool) (w : World) (ht : Tabs w) (h : vars_variable_form.f k a0_0 a0_1 a0_2 a1 = some (r1, r2)) :
    Calls Tryd.prog 45 #[.agg #[.string a0_0, .int .i64 a0_1, .string a0_2], .string a1] w fun e w' => e = .returned (.tuple #[.string r1, .bool r2]) ∧ Below w.heap.size w w' := by
  have hu57 := Tryd.underlying57
  have HB := Aside0.mk (Below.refl w.heap.size w)
  have H : (if a0_1 = 0 then (if a1.toList = ([116, 114, 117, 101] : List UInt8) then (some (a1, true)) else (some (a1, (a1.toList == ([102, 97, 108, 115, 101] : List UInt8))))) else (if a0_1 = 1 then ((digit_Parse.f k a1 10).bind fun bt46002 => (if bt46002.2 = 0 then ((digit_Show.f bt46002.1 10).bind fun bt46004 => (some (bt46004.1, (bt46004.2 == 0)))) else (some ((⟨#[]⟩ : ByteArray), false)))) else (vars_variable_form.l0 k a1 (a1.size : Int) 0))) = some (r1, r2) := h
  clear h
  by_cases c3 : a0_1 = 0
  · rw [if_pos c3] at H
    have c3b0 : (a0_1 == 0) = true := beq_iff_eq.mpr c3
    have c3b1 : (a0_1 != 0) = false := bne_eq_false_iff_eq.mpr c3
    clear c3
    by_cases c4 : a1.toList = ([116, 114, 117, 101] : List UInt8)
    · rw [if_pos c4] at H
      have c4b0 : (a1.toList == ([116, 114, 117, 101] : List UInt8)) = true := beq_iff_eq.mpr c4
      have c4b1 : (a1.toList != ([116, 114, 117, 101] : List UInt8)) = false := bne_eq_false_iff_eq.mpr c4
      clear c4
      simp only [Option.some.injEq, Prod.mk.injEq] at H
      obtain ⟨rfl, rfl⟩ := H
      go_enter Tryd.func45, Tryd.ntmps45
      go_wp2_with (first | ((with_reducible refine gate_dst (N := 2) rfl ?_); refine box_event ?hg (N := 2) ?hd (cs := #[.string a0_0, .int .i64 a0_1, .string a0_2]) (t := 57) ?hr ?_; (case hd => rfl); (case hg => rfl); (case hr => first | (go_simp; done) | (go_simp; rfl)); intro gb46001 hg w5 hbox hb; have n0_ := Aside0.mk (below_step (by repeat (first | (with_reducible first | exact HB.out | apply below_alloc | apply pw_below_drewN | apply below_drew1) | exact HB.out)) hb); have n1_ := Aside0.mk (hbox); have n2_ := Aside0.mk ((by rw [hg]; exact (below_size (by repeat (first | (with_reducible first | exact HB.out | apply below_alloc | apply pw_below_drewN | apply below_drew1) | exact HB.out))) : w.heap.size ≤ gb46001)); have n3_ := Aside0.mk ((by rw [hg]; exact (below_size (by repeat (first | (with_reducible first | exact HB.out | apply below_alloc | apply pw_below_drewN | apply below_drew1) | exact HB.out))) : w.heap.size ≤ gb46001)); clear HB; have HB := n0_; have BK46001 := n1_; have GW46001 := n2_; have GE46001 := n3_; clear n0_ n1_ n2_ n3_; clear hb hbox hg; have hcz6_0 : w5.cell? ⟨gb46001, 0, none⟩ = some (.string a0_0) := (blk_cell BK46001.out 0).trans rfl; have hcz6_1 : w5.cell? ⟨gb46001, 1, none⟩ = some (.int .i64 a0_1) := (blk_cell BK46001.out 1).trans rfl; have hcz6_2 : w5.cell? ⟨gb46001, 2, none⟩ = some (.string a0_2) := (blk_cell BK46001.out 2).trans rfl; have hfz6_0 := blk_frozen BK46001.out 0; have hfz6_1 := blk_frozen BK46001.out 1; have hfz6_2 := blk_frozen BK46001.out 2))
      go_ret2
      exact ⟨by first | rfl | (simp [errW_none, errW_some] <;> rfl) | (simp [*, errW_none, errW_some] <;> rfl), by repeat (first | (with_reducible first | exact HB.out | apply below_alloc | apply pw_below_drewN | apply below_drew1 | refine below_set ?_ GE46001.out) | exact HB.out)⟩
    · rw [if_neg c4] at H
      have c4b0 : (a1.toList == ([116, 114, 117, 101] : List UInt8)) = false := beq_eq_false_iff_ne.mpr c4
      have c4b1 : (a1.toList != ([116, 114, 117, 101] : List UInt8)) = true := bne_iff_ne.mpr c4
      simp only [Option.some.injEq, Prod.mk.injEq] at H
      obtain ⟨rfl, rfl⟩ := H
      go_enter Tryd.func45, Tryd.ntmps45
      go_wp2_with (first | ((with_reducible refine gate_dst (N := 2) rfl ?_); refine box_event ?hg (N := 2) ?hd (cs := #[.string a0_0, .int .i64 a0_1, .string a0_2]) (t := 57) ?hr ?_; (case hd => rfl); (case hg => rfl); (case hr => first | (go_simp; done) | (go_simp; rfl)); intro gb46001 hg w7 hbox hb; have n0_ := Aside0.mk (below_step (by repeat (first | (with_reducible first | exact HB.out | apply below_alloc | apply pw_below_drewN | apply below_drew1) | exact HB.out)) hb); have n1_ := Aside0.mk (hbox); have n2_ := Aside0.mk ((by rw [hg]; exact (below_size (by repeat (first | (with_reducible first | exact HB.out | apply below_alloc | apply pw_below_drewN | apply below_drew1) | exact HB.out))) : w.heap.size ≤ gb46001)); have n3_ := Aside0.mk ((by rw [hg]; exact (below_size (by repeat (first | (with_reducible first | exact HB.out | apply below_alloc | apply pw_below_drewN | apply below_drew1) | exact HB.out))) : w.heap.size ≤ gb46001)); clear HB; have HB := n0_; have BK46001 := n1_; have GW46001 := n2_; have GE46001 := n3_; clear n0_ n1_ n2_ n3_; clear hb hbox hg; have hcz8_0 : w7.cell? ⟨gb46001, 0, none⟩ = some (.string a0_0) := (blk_cell BK46001.out 0).trans rfl; have hcz8_1 : w7.cell? ⟨gb46001, 1, none⟩ = some (.int .i64 a0_1) := (blk_cell BK46001.out 1).trans rfl; have hcz8_2 : w7.cell? ⟨gb46001, 2, none⟩ = some (.string a0_2) := (blk_cell BK46001.out 2).trans rfl; have hfz8_0 := blk_frozen BK46001.out 0; have hfz8_1 := blk_frozen BK46001.out 1; have hfz8_2 := blk_frozen BK46001.out 2))
      go_ret2
      exact ⟨by first | rfl | (simp [errW_none, errW_some] <;> rfl) | (simp [*, errW_none, errW_some] <;> rfl), by repeat (first | (with_reducible first | exact HB.out | apply below_alloc | apply pw_below_drewN | apply below_drew1 | refine below_set ?_ GE46001.out) | exact HB.out)⟩
  · rw [if_neg c3] at H
    have c3b0 : (a0_1 == 0) = false := beq_eq_false_iff_ne.mpr c3
    have c3b1 : (a0_1 != 0) = true := bne_iff_ne.mpr c3
    by_cases c9 : a0_1 = 1
    · rw [if_pos c9] at H
      have c9b0 : (a0_1 == 1) = true := beq_iff_eq.mpr c9
      have c9b1 : (a0_1 != 1) = false := bne_eq_false_iff_eq.mpr c9
      clear c9
      replace H := Option.bind_eq_some_iff.mp H
      obtain ⟨⟨t46002, t46003⟩, A100, H⟩ := H
      replace H : (if t46003 = 0 then ((digit_Show.f t46002 10).bind fun bt46004 => (some (bt46004.1, (bt46004.2 == 0)))) else (some ((⟨#[]⟩ : ByteArray), false))) = some (r1, r2) := H
      have A10 := Aside0.mk A100
      clear A100
      by_cases c11 : t46003 = 0
      · rw [if_pos c11] at H
        have c11b0 : (t46003 == 0) = true := beq_iff_eq.mpr c11
        have c11b1 : (t46003 != 0) = false := bne_eq_false_iff_eq.mpr c11
        clear c11
        replace H := Option.bind_eq_some_iff.mp H
        obtain ⟨⟨t46004, t46005⟩, A120, H⟩ := H
        replace H : (some (t46004, (t46005 == 0))) = some (r1, r2) := H
        have A12 := Aside0.mk A120
        clear A120
        simp only [Option.some.injEq, Prod.mk.injEq] at H
        obtain ⟨rfl, rfl⟩ := H
        go_enter Tryd.func45, Tryd.ntmps45
        go_wp2_with (first | ((with_reducible refine gate_dst (N := 2) rfl ?_); refine box_event ?hg (N := 2) ?hd (cs := #[.string a0_0, .int .i64 a0_1, .string a0_2]) (t := 57) ?hr ?_; (case hd => rfl); (case hg => rfl); (case hr => first | (go_simp; done) | (go_simp; rfl)); intro gb46001 hg w13 hbox hb; have n0_ := Aside0.mk (below_step (by repeat (first | (with_reducible first | exact HB.out | apply below_alloc | apply pw_below_drewN | apply below_drew1) | exact HB.out)) hb); have n1_ := Aside0.mk (hbox); have n2_ := Aside0.mk ((by rw [hg]; exact (below_size (by repeat (first | (with_reducible first | exact HB.out | apply below_alloc | apply pw_below_drewN | apply below_drew1) | exact HB.out))) : w.heap.size ≤ gb46001)); have n3_ := Aside0.mk ((by rw [hg]; exact (below_size (by repeat (first | (with_reducible first | exact HB.out | apply below_alloc | apply pw_below_drewN | apply below_drew1) | exact HB.out))) : w.heap.size ≤ gb46001)); clear HB; have HB := n0_; have BK46001 := n1_; have GW46001 := n2_; have GE46001 := n3_; clear n0_ n1_ n2_ n3_; clear hb hbox hg; have hcz14_0 : w13.cell? ⟨gb46001, 0, none⟩ = some (.string a0_0) := (blk_cell BK46001.out 0).trans rfl; have hcz14_1 : w13.cell? ⟨gb46001, 1, none⟩ = some (.int .i64 a0_1) := (blk_cell BK46001.out 1).trans rfl; have hcz14_2 : w13.cell? ⟨gb46001, 2, none⟩ = some (.string a0_2) := (blk_cell BK46001.out 2).trans rfl; have hfz14_0 := blk_frozen BK46001.out 0; have hfz14_1 := blk_frozen BK46001.out 1; have hfz14_2 := blk_frozen BK46001.out 2) | ((with_reducible refine gate_callee (f := 61) rfl ?_); refine goesL_ (some 24) rfl rfl Tryd.func61 (by kernel_rfl) rfl #[.string a1, .int .u32 10] rfl (by (try simp only [List.map_toArray, List.map_cons, List.map_nil]); first | done | rfl | (simp only [List.length_drop, List.length_take]; rfl)) ?_; (with_reducible refine (digit_Parse.calls k a1 10 t46002 t46003 _ A10.out).mono ?_); rintro e w' ⟨rfl, ⟨nd, rfl⟩⟩; refine ⟨_, rfl, ?_⟩) | ((with_reducible refine gate_callee (f := 62) rfl ?_); refine goesL_ (some 31) rfl rfl Tryd.func62 (by kernel_rfl) rfl #[.int .u32 t46002, .int .u32 10] rfl (by (try simp only [List.map_toArray, List.map_cons, List.map_nil]); first | done | rfl | (simp only [List.length_drop, List.length_take]; rfl)) ?_; (with_reducible refine (digit_Show.calls t46002 10 t46004 t46005 _ (Tabs.below ht (by repeat (first | (with_reducible first | exact HB.out | apply below_alloc | apply pw_below_drewN | apply below_drew1 | refine below_set ?_ (Aside0.out (by assumption))) | exact HB.out))) A12.out).mono ?_); rintro e w15 ⟨rfl, hb⟩; refine ⟨_, rfl, ?_⟩; have n0_ := Aside0.mk (blk_below (g := gb46001) (o := .cells #[.string a0_0, .int .i64 a0_1, .string a0_2] 57 (0, 0)) (by (with_reducible repeat (first | refine blk_drewN ?_ _ | refine blk_drew ?_ | refine blk_alloc ?_ _)); exact BK46001.out) hb); have n1_ := Aside0.mk (below_step (by repeat (first | (with_reducible first | exact HB.out | apply below_alloc | apply pw_below_drewN | apply below_drew1 | refine below_set ?_ GE46001.out) | exact HB.out)) hb); clear BK46001; clear HB; have BK46001 := n0_; have HB := n1_; clear n0_ n1_; (try clear hb); (try clear hb2); (try clear hk); (try clear hi)))
        go_ret2
        exact ⟨by first | rfl | (simp [errW_none, errW_some] <;> rfl) | (simp [*, errW_none, errW_some] <;> rfl), by repeat (first | (with_reducible first | exact HB.out | apply below_alloc | apply pw_below_drewN | apply below_drew1 | refine below_set ?_ GE46001.out) | exact HB.out)⟩
      · rw [if_neg c11] at H
        have c11b0 : (t46003 == 0) = false := beq_eq_false_iff_ne.mpr c11
        have c11b1 : (t46003 != 0) = true := bne_iff_ne.mpr c11
        simp only [Option.some.injEq, Prod.mk.injEq] at H
        obtain ⟨rfl, rfl⟩ := H
        go_enter Tryd.func45, Tryd.ntmps45
        go_wp2_with (first | ((with_reducible refine gate_dst (N := 2) rfl ?_); refine box_event ?hg (N := 2) ?hd (cs := #[.string a0_0, .int .i64 a0_1, .string a0_2]) (t := 57) ?hr ?_; (case hd => rfl); (case hg => rfl); (case hr => first | (go_simp; done) | (go_simp; rfl)); intro gb46001 hg w16 hbox hb; have n0_ := Aside0.mk (below_step (by repeat (first | (with_reducible first | exact HB.out | apply below_alloc | apply pw_below_drewN | apply below_drew1) | exact HB.out)) hb); have n1_ := Aside0.mk (hbox); have n2_ := Aside0.mk ((by rw [hg]; exact (below_size (by repeat (first | (with_reducible first | exact HB.out | apply below_alloc | apply pw_below_drewN | apply below_drew1) | exact HB.out))) : w.heap.size ≤ gb46001)); have n3_ := Aside0.mk ((by rw [hg]; exact (below_size (by repeat (first | (with_reducible first | exact HB.out | apply below_alloc | apply pw_below_drewN | apply below_drew1) | exact HB.out))) : w.heap.size ≤ gb46001)); clear HB; have HB := n0_; have BK46001 := n1_; have GW46001 := n2_; have GE46001 := n3_; clear n0_ n1_ n2_ n3_; clear hb hbox hg; have hcz17_0 : w16.cell? ⟨gb46001, 0, none⟩ = some (.string a0_0) := (blk_cell BK46001.out 0).trans rfl; have hcz17_1 : w16.cell? ⟨gb46001, 1, none⟩ = some (.int .i64 a0_1) := (blk_cell BK46001.out 1).trans rfl; have hcz17_2 : w16.cell? ⟨gb46001, 2, none⟩ = some (.string a0_2) := (blk_cell BK46001.out 2).trans rfl; have hfz17_0 := blk_frozen BK46001.out 0; have hfz17_1 := blk_frozen BK46001.out 1; have hfz17_2 := blk_frozen BK46001.out 2) | ((with_reducible refine gate_callee (f := 61) rfl ?_); refine goesL_ (some 24) rfl rfl Tryd.func61 (by kernel_rfl) rfl #[.string a1, .int .u32 10] rfl (by (try simp only [List.map_toArray, List.map_cons, List.map_nil]); first | done | rfl | (simp only [List.length_drop, List.length_take]; rfl)) ?_; (with_reducible refine (digit_Parse.calls k a1 10 t46002 t46003 _ A10.out).mono ?_); rintro e w' ⟨rfl, ⟨nd, rfl⟩⟩; refine ⟨_, rfl, ?_⟩))
        go_ret2
        exact ⟨by first | rfl | (simp [errW_none, errW_some] <;> rfl) | (simp [*, errW_none, errW_some] <;> rfl), by repeat (first | (with_reducible first | exact HB.out | apply below_alloc | apply pw_below_drewN | apply below_drew1 | refine below_set ?_ GE46001.out) | exact HB.out)⟩
    · rw [if_neg c9] at H
      have c9b0 : (a0_1 == 1) = false := beq_eq_false_iff_ne.mpr c9
      have c9b1 : (a0_1 != 1) = true := bne_iff_ne.mpr c9
      have H' := Aside0.mk H
      clear H
      go_enter Tryd.func45, Tryd.ntmps45
      go_wp2_with (first | ((with_reducible refine gate_dst (N := 2) rfl ?_); refine box_event ?hg (N := 2) ?hd (cs := #[.string a0_0, .int .i64 a0_1, .string a0_2]) (t := 57) ?hr ?_; (case hd => rfl); (case hg => rfl); (case hr => first | (go_simp; done) | (go_simp; rfl)); intro gb46001 hg w18 hbox hb; have n0_ := Aside0.mk (below_step (by repeat (first | (with_reducible first | exact HB.out | apply below_alloc | apply pw_below_drewN | apply below_drew1) | exact HB.out)) hb); have n1_ := Aside0.mk (hbox); have n2_ := Aside0.mk ((by rw [hg]; exact (below_size (by repeat (first | (with_reducible first | exact HB.out | apply below_alloc | apply pw_below_drewN | apply below_drew1) | exact HB.out))) : w.heap.size ≤ gb46001)); have n3_ := Aside0.mk ((by rw [hg]; exact (below_size (by repeat (first | (with_reducible first | exact HB.out | apply below_alloc | apply pw_below_drewN | apply below_drew1) | exact HB.out))) : w.heap.size ≤ gb46001)); clear HB; have HB := n0_; have BK46001 := n1_; have GW46001 := n2_; have GE46001 := n3_; clear n0_ n1_ n2_ n3_; clear hb hbox hg; have hcz19_0 : w18.cell? ⟨gb46001, 0, none⟩ = some (.string a0_0) := (blk_cell BK46001.out 0).trans rfl; have hcz19_1 : w18.cell? ⟨gb46001, 1, none⟩ = some (.int .i64 a0_1) := (blk_cell BK46001.out 1).trans rfl; have hcz19_2 : w18.cell? ⟨gb46001, 2, none⟩ = some (.string a0_2) := (blk_cell BK46001.out 2).trans rfl; have hfz19_0 := blk_frozen BK46001.out 0; have hfz19_1 := blk_frozen BK46001.out 1; have hfz19_2 := blk_frozen BK46001.out 2))
      go_loopg [39] k (fun kq v39 w' => ∃ (x39_1 : Int), v39 = .int .i64 x39_1 ∧ Aside0 (vars_variable_form.l0 kq a1 (a1.size : Int) x39_1 = some (r1, r2)) ∧ Aside0 (kq ≤ k) ∧ Aside0 (w'.heap[gb46001]? = some (.cells #[.string a0_0, .int .i64 a0_1, .string a0_2] 57 (0, 0))) ∧ Aside0 (Below w.heap.size w w'))
      case atStart => exact ⟨(0), (by first | rfl | (simp; done) | (simp [*]; done)), H', ⟨Nat.le_refl _⟩, ⟨by (with_reducible repeat (first | refine blk_drewN ?_ _ | refine blk_drew ?_ | refine blk_alloc ?_ _)); exact BK46001.out⟩, ⟨by repeat (first | (with_reducible first | exact HB.out | apply below_alloc | apply pw_below_drewN | apply below_drew1 | refine below_set ?_ GE46001.out) | exact HB.out)⟩⟩
      case round =>
        clear H'
        try clear c1
        try clear p2
        try clear c3
        try clear c3b0
        try clear c3b1
        try clear c4
        try clear c4b0
        try clear c4b1
        try clear c6
        try clear c9
        try clear c9b0
        try clear c9b1
        try clear c11
        try clear c11b0
        try clear c11b1
        try clear hcz14_0
        try clear hcz14_1
        try clear hcz14_2
        try clear hcz17_0
        try clear hcz17_1
        try clear hcz17_2
        try clear hcz19_0
        try clear hcz19_1
        try clear hcz19_2
        try clear hcz6_0
        try clear hcz6_1
        try clear hcz6_2
        try clear hcz8_0
        try clear hcz8_1
        try clear hcz8_2
        try clear hfz14_0
        try clear hfz14_1
        try clear hfz14_2
        try clear hfz17_0
        try clear hfz17_1
        try clear hfz17_2
        try clear hfz19_0
        try clear hfz19_1
        try clear hfz19_2
        try clear hfz6_0
        try clear hfz6_1
        try clear hfz6_2
        try clear hfz8_0
        try clear hfz8_1
        try clear hfz8_2
        obtain ⟨x39_1, rfl, HA, HK1, BK46001, HB⟩ := hrel
        cases gk with
        | zero => exact absurd HA.out (by simp [vars_variable_form.l0])
        | succ k1 =>
          have H := HA.out
          clear HA
          simp only [vars_variable_form.l0] at H
          by_cases c20 : x39_1 < (a1.size : Int)
          · rw [if_pos c20] at H
            have c20b0 : decide (x39_1 < (a1.size : Int)) = true := decide_eq_true c20
            clear c20
            by_cases c21 : 0 ≤ x39_1
            · rw [if_pos c21] at H
              have c21b0 : decide (0 ≤ x39_1) = true := decide_eq_true c21
              clear c21
              by_cases c22 : x39_1 < (a1.size : Int)
              · rw [if_pos c22] at H
                have c22b0 : decide (x39_1 < (a1.size : Int)) = true := decide_eq_true c22
                clear c22
                by_cases c24 : (bt a1 x39_1) < 32
                · rw [if_pos c24] at H
                  have c24b0 : decide ((bt a1 x39_1) < 32) = true := decide_eq_true c24
                  clear c24
                  simp only [Option.some.injEq, Prod.mk.injEq] at H
                  obtain ⟨rfl, rfl⟩ := H
                  have p23 : 0 ≤ (x39_1 : Int) := of_decide_eq_true (by first | (with_reducible assumption) | assumption)
                  have q23 : x39_1 < (a1.size : Int) := of_decide_eq_true (by first | (with_reducible assumption) | assumption)
                  have hx23 := bt_at a1 x39_1
                  replace p23 := eq_true p23
                  replace q23 := eq_true q23
                  go_wp2
                  go_ret2
                  exact ⟨by first | rfl | (simp [errW_none, errW_some] <;> rfl) | (simp [*, errW_none, errW_some] <;> rfl), by repeat (first | (with_reducible first | exact HB.out | apply below_alloc | apply pw_below_drewN | apply below_drew1 | refine below_set ?_ GE46001.out) | exact HB.out)⟩
                · rw [if_neg c24] at H
                  have c24b0 : decide ((bt a1 x39_1) < 32) = false := decide_eq_false c24
                  clear c24
                  by_cases c26 : (bt a1 x39_1) > 126
                  · rw [if_pos c26] at H
                    have c26b0 : decide (126 < (bt a1 x39_1)) = true := decide_eq_true c26
                    clear c26
                    simp only [Option.some.injEq, Prod.mk.injEq] at H
                    obtain ⟨rfl, rfl⟩ := H
                    have p23 : 0 ≤ (x39_1 : Int) := of_decide_eq_true (by first | (with_reducible assumption) | assumption)
                    have q23 : x39_1 < (a1.size : Int) := of_decide_eq_true (by first | (with_reducible assumption) | assumption)
                    have hx23 := bt_at a1 x39_1
                    replace p23 := eq_true p23
                    replace q23 := eq_true q23
                    have p25 : 0 ≤ (x39_1 : Int) := of_decide_eq_true (by first | (with_reducible assumption) | assumption)
                    have q25 : x39_1 < (a1.size : Int) := of_decide_eq_true (by first | (with_reducible assumption) | assumption)
                    have hx25 := bt_at a1 x39_1
                    replace p25 := eq_true p25
                    replace q25 := eq_true q25
                    go_wp2
                    go_ret2
                    exact ⟨by first | rfl | (simp [errW_none, errW_some] <;> rfl) | (simp [*, errW_none, errW_some] <;> rfl), by repeat (first | (with_reducible first | exact HB.out | apply below_alloc | apply pw_below_drewN | apply below_drew1 | refine below_set ?_ GE46001.out) | exact HB.out)⟩
                  · rw [if_neg c26] at H
                    have c26b0 : decide (126 < (bt a1 x39_1)) = false := decide_eq_false c26
                    clear c26
                    have H' := Aside0.mk H
                    clear H
                    have p23 : 0 ≤ (x39_1 : Int) := of_decide_eq_true (by first | (with_reducible assumption) | assumption)
                    have q23 : x39_1 < (a1.size : Int) := of_decide_eq_true (by first | (with_reducible assumption) | assumption)
                    have hx23 := bt_at a1 x39_1
                    replace p23 := eq_true p23
                    replace q23 := eq_true q23
                    have p25 : 0 ≤ (x39_1 : Int) := of_decide_eq_true (by first | (with_reducible assumption) | assumption)
                    have q25 : x39_1 < (a1.size : Int) := of_decide_eq_true (by first | (with_reducible assumption) | assumption)
                    have hx25 := bt_at a1 x39_1
                    replace p25 := eq_true p25
                    replace q25 := eq_true q25
                    go_wp2
                    go_roundg k1
                    case measure => have := HK1.out; omega
                    case rel => exact ⟨(wrap64 (x39_1 + 1)), (by first | rfl | (simp; done) | (simp [*]; done)), H', ⟨by have := HK1.out; omega⟩, ⟨by (with_reducible repeat (first | refine blk_drewN ?_ _ | refine blk_drew ?_ | refine blk_alloc ?_ _)); exact BK46001.out⟩, ⟨by repeat (first | (with_reducible first | exact HB.out | apply below_alloc | apply pw_below_drewN | apply below_drew1 | refine below_set ?_ GE46001.out) | exact HB.out)⟩⟩
              · rw [if_neg c22] at H
                exact absurd H (by simp)
            · rw [if_neg c21] at H
              exact absurd H (by simp)
          · rw [if_neg c20] at H
            have c20b0 : decide (x39_1 < (a1.size : Int)) = false := decide_eq_false c20
            clear c20
            simp only [Option.some.injEq, Prod.mk.injEq] at H
            obtain ⟨rfl, rfl⟩ := H
            go_wp2
            go_ret2
            exact ⟨by first | rfl | (simp [errW_none, errW_some] <;> rfl) | (simp [*, errW_none, errW_some] <;> rfl), by repeat (first | (with_reducible first | exact HB.out | apply below_alloc | apply pw_below_drewN | apply below_drew1 | refine below_set ?_ GE46001.out) | exact HB.out)⟩

end Go.Proofs.YtefhngadeimklaaDoor.Q
end
section
namespace Go.Proofs.YtefhngadeimklaaDoor.Q
open Go.RowKit Go.Proofs.YtefhngadeimklaaDoorW.PrintWords Go.Proofs.YtefhngadeimklaaDoorW.PrintLast Go.Proofs.YtefhngadeimklaaDoorW.PrintMore
set_option linter.unusedVariables false
set_option linter.unusedSimpArgs false

attribute [local go_sem] max2_int min2_int max_two min_two max_three min_three max_four min_four
/-! ### vars_Right: function 16 -/
def vars_Right.l0 : Nat → Int → List (S40) → Int → Int → Option (Bool)
  | 0, _, _, _, _ => none
  | k + 1, x3, x11, x12, x13 => if x13 < x12 then (if 0 ≤ x13 then (if x13 < (x11.length : Int) then ((vars_find.f k ((rd_T40 x11 x13).f0)).bind fun bt17003 => ((vars_variable_form.f k bt17003.1 bt17003.2.1 bt17003.2.2.1 ((rd_T40 x11 x13).f1)).bind fun bt17009 => (if bt17003.2.2.2.2 = true then (if bt17009.2 = true then (if bt17003.2.2.2.1 ≤ x3 then (some false) else (if bt17009.1.toList = ((rd_T40 x11 x13).f1).toList then (if bt17009.1.toList = bt17003.2.2.1.toList then (some false) else (vars_Right.l0 k bt17003.2.2.2.1 x11 x12 (wrap64 (x13 + 1)))) else (some false))) else (some false)) else (some false)))) else (none)) else (none)) else (some true)
def vars_Right.f (k : Nat) (l0 : List (S40)) : Option (Bool) := vars_Right.l0 k (-1) l0 (l0.length : Int) 0
set_option maxHeartbeats 8000000 in
set_option maxRecDepth 100000 in
theorem vars_Right.calls (k : Nat) (A0 : Option Addr) (c0 : Nat) (l0 : List (S40)) (r : Bool) (w : World) (ht : Tabs w) (hr0 : Kd.C k40 w A0 l0.length l0) (hc0 : l0.length ≤ c0) (h : vars_Right.f k l0 = some r) :
    Calls Tryd.prog 16 #[.slice A0 l0.length c0] w fun e w' => e = .returned (.bool r) ∧ Below w.heap.size w w' := by
  have hu40 := Tryd.underlying40
  have hu57 := Tryd.underlying57
  have HR0 := Aside0.mk hr0
  have HC0 := Aside0.mk hc0
  clear hr0 hc0
  have HB := Aside0.mk (Below.refl w.heap.size w)
  have H : (vars_Right.l0 k (-1) l0 (l0.length : Int) 0) = some r := h
  clear h
  have H' := Aside0.mk H
  clear H
  go_enter Tryd.func16, Tryd.ntmps16
  go_wp2
  go_loopg [3, 13] k (fun kq v3 v13 w' => ∃ (x3_1 : Int) (x13_1 : Int), v3 = .int .i64 x3_1 ∧ v13 = .int .i64 x13_1 ∧ Aside0 (vars_Right.l0 kq x3_1 l0 (l0.length : Int) x13_1 = some r) ∧ Aside0 (kq ≤ k) ∧ Aside0 (Below w.heap.size w w'))
  case atStart => exact ⟨((-1)), (0), (by first | rfl | (simp; done) | (simp [*]; done)), (by first | rfl | (simp; done) | (simp [*]; done)), H', ⟨Nat.le_refl _⟩, ⟨by repeat (first | (with_reducible first | exact HB.out | apply below_alloc | apply pw_below_drewN | apply below_drew1) | exact HB.out)⟩⟩
  case round =>
    clear H'
    try clear c1
    obtain ⟨x3_1, x13_1, rfl, rfl, HA, HK1, HB⟩ := hrel
    cases gk with
    | zero => exact absurd HA.out (by simp [vars_Right.l0])
    | succ k1 =>
      have H := HA.out
      clear HA
      simp only [vars_Right.l0] at H
      by_cases c2 : x13_1 < (l0.length : Int)
      · rw [if_pos c2] at H
        have c2b0 : decide (x13_1 < (l0.length : Int)) = true := decide_eq_true c2
        clear c2
        by_cases c3 : 0 ≤ x13_1
        · rw [if_pos c3] at H
          have c3b0 : decide (0 ≤ x13_1) = true := decide_eq_true c3
          clear c3
          by_cases c4 : x13_1 < (l0.length : Int)
          · rw [if_pos c4] at H
            have c4b0 : decide (x13_1 < (l0.length : Int)) = true := decide_eq_true c4
            clear c4
            replace H := Option.bind_eq_some_iff.mp H
            obtain ⟨⟨t17003, t17004, t17005, t17006, t17007⟩, A50, H⟩ := H
            replace H : ((vars_variable_form.f k1 t17003 t17004 t17005 ((rd_T40 l0 x13_1).f1)).bind fun bt17009 => (if t17007 = true then (if bt17009.2 = true then (if t17006 ≤ x3_1 then (some false) else (if bt17009.1.toList = ((rd_T40 l0 x13_1).f1).toList then (if bt17009.1.toList = t17005.toList then (some false) else (vars_Right.l0 k1 t17006 l0 (l0.length : Int) (wrap64 (x13_1 + 1)))) else (some false))) else (some false)) else (some false))) = some r := H
            have A5 := Aside0.mk A50
            clear A50
            replace H := Option.bind_eq_some_iff.mp H
            obtain ⟨⟨t17009, t17010⟩, A60, H⟩ := H
            replace H : (if t17007 = true then (if t17010 = true then (if t17006 ≤ x3_1 then (some false) else (if t17009.toList = ((rd_T40 l0 x13_1).f1).toList then (if t17009.toList = t17005.toList then (some false) else (vars_Right.l0 k1 t17006 l0 (l0.length : Int) (wrap64 (x13_1 + 1)))) else (some false))) else (some false)) else (some false)) = some r := H
            have A6 := Aside0.mk A60
            clear A60
            by_cases c7 : t17007 = true
            · subst c7
              have H1 : (if t17010 = true then (if t17006 ≤ x3_1 then (some false) else (if t17009.toList = ((rd_T40 l0 x13_1).f1).toList then (if t17009.toList = t17005.toList then (some false) else (vars_Right.l0 k1 t17006 l0 (l0.length : Int) (wrap64 (x13_1 + 1)))) else (some false))) else (some false)) = some r := by rw [if_pos rfl] at H; exact H
              clear H
              have H := H1
              clear H1
              by_cases c8 : t17010 = true
              · subst c8
                have H1 : (if t17006 ≤ x3_1 then (some false) else (if t17009.toList = ((rd_T40 l0 x13_1).f1).toList then (if t17009.toList = t17005.toList then (some false) else (vars_Right.l0 k1 t17006 l0 (l0.length : Int) (wrap64 (x13_1 + 1)))) else (some false))) = some r := by rw [if_pos rfl] at H; exact H
                clear H
                have H := H1
                clear H1
                by_cases c9 : t17006 ≤ x3_1
                · rw [if_pos c9] at H
                  have c9b0 : decide (t17006 ≤ x3_1) = true := decide_eq_true c9
                  clear c9
                  obtain rfl := Option.some.inj H
                  have p17001 : 0 ≤ (x13_1 : Int) := of_decide_eq_true (by first | (with_reducible assumption) | assumption)
                  have q17001 : x13_1 < (l0.length : Int) := of_decide_eq_true (by first | (with_reducible assumption) | assumption)
                  obtain ⟨ad17001, e17001, hx17001_0, hx17001_1⟩ := at_T40 HR0.out x13_1 p17001 q17001
                  cases e17001
                  replace hx17001_0 := (HB.out.cell (World.block_lt_of_cell? w _ hx17001_0)).trans hx17001_0
                  replace hx17001_1 := (HB.out.cell (World.block_lt_of_cell? w _ hx17001_1)).trans hx17001_1
                  replace p17001 := eq_true p17001
                  replace q17001 := eq_true q17001
                  go_wp2_with (first | ((with_reducible refine gate_dst (N := 5) rfl ?_); refine box_event ?hg (N := 5) ?hd (cs := #[.string (⟨#[]⟩ : ByteArray), .string (⟨#[]⟩ : ByteArray)]) (t := 40) ?hr ?_; (case hd => rfl); (case hg => rfl); (case hr => first | (go_simp; done) | (go_simp; rfl)); intro gb17002 hg w10 hbox hb; have n0_ := Aside0.mk (below_step (by repeat (first | (with_reducible first | exact HB.out | apply below_alloc | apply pw_below_drewN | apply below_drew1) | exact HB.out)) hb); have n1_ := Aside0.mk (hbox); have n2_ := Aside0.mk ((by rw [hg]; exact (below_size (by repeat (first | (with_reducible first | exact HB.out | apply below_alloc | apply pw_below_drewN | apply below_drew1) | exact HB.out))) : w.heap.size ≤ gb17002)); have n3_ := Aside0.mk ((by rw [hg]; exact (below_size (by repeat (first | (with_reducible first | exact HB.out | apply below_alloc | apply pw_below_drewN | apply below_drew1) | exact HB.out))) : w.heap.size ≤ gb17002)); clear HB; have HB := n0_; have BK17002 := n1_; have GW17002 := n2_; have GE17002 := n3_; clear n0_ n1_ n2_ n3_; clear hb hbox hg; have hcz11_0 : w10.cell? ⟨gb17002, 0, none⟩ = some (.string (⟨#[]⟩ : ByteArray)) := (blk_cell BK17002.out 0).trans rfl; have hcz11_1 : w10.cell? ⟨gb17002, 1, none⟩ = some (.string (⟨#[]⟩ : ByteArray)) := (blk_cell BK17002.out 1).trans rfl; have hfz11_0 := blk_frozen BK17002.out 0; have hfz11_1 := blk_frozen BK17002.out 1) | ((with_reducible refine gate_callee (f := 37) rfl ?_); refine goesL_ (some 20) rfl rfl Tryd.func37 (by kernel_rfl) rfl #[.string ((rd_T40 l0 x13_1).f0)] rfl (by (try simp only [List.map_toArray, List.map_cons, List.map_nil]); first | done | rfl | (simp only [List.length_drop, List.length_take]; rfl)) ?_; (with_reducible refine (vars_find.calls k1 ((rd_T40 l0 x13_1).f0) t17003 t17004 t17005 t17006 true _ A5.out).mono ?_); rintro e w12 ⟨rfl, hb⟩; refine ⟨_, rfl, ?_⟩; have n0_ := Aside0.mk (blk_below (g := gb17002) (o := .cells #[.string ((rd_T40 l0 x13_1).f0), .string ((rd_T40 l0 x13_1).f1)] 40 (0, 0)) (by (with_reducible repeat (first | refine blk_drewN ?_ _ | refine blk_drew ?_ | refine blk_alloc ?_ _)); refine blk_put (cs := #[.string ((rd_T40 l0 x13_1).f0), .string (⟨#[]⟩ : ByteArray)]) ?_ 1 _ rfl; (with_reducible repeat (first | refine blk_drewN ?_ _ | refine blk_drew ?_ | refine blk_alloc ?_ _)); refine blk_put (cs := #[.string (⟨#[]⟩ : ByteArray), .string (⟨#[]⟩ : ByteArray)]) ?_ 0 _ rfl; (with_reducible repeat (first | refine blk_drewN ?_ _ | refine blk_drew ?_ | refine blk_alloc ?_ _)); exact BK17002.out) hb); have n1_ := Aside0.mk (below_step (by repeat (first | (with_reducible first | exact HB.out | apply below_alloc | apply pw_below_drewN | apply below_drew1 | refine below_set ?_ GE17002.out) | exact HB.out)) hb); clear BK17002; clear HB; have BK17002 := n0_; have HB := n1_; clear n0_ n1_; (try clear hb); (try clear hb2); (try clear hk); (try clear hi)) | ((with_reducible refine gate_dst (N := 6) rfl ?_); refine box_event ?hg (N := 6) ?hd (cs := #[.string (⟨#[]⟩ : ByteArray), .int .i64 0, .string (⟨#[]⟩ : ByteArray)]) (t := 57) ?hr ?_; (case hd => rfl); (case hg => rfl); (case hr => first | (go_simp; done) | (go_simp; rfl)); intro gb17008 hg w13 hbox hb; have n0_ := Aside0.mk (blk_below (g := gb17002) (o := .cells #[.string ((rd_T40 l0 x13_1).f0), .string ((rd_T40 l0 x13_1).f1)] 40 (0, 0)) (by (with_reducible repeat (first | refine blk_drewN ?_ _ | refine blk_drew ?_ | refine blk_alloc ?_ _)); exact BK17002.out) hb); have n1_ := Aside0.mk (below_step (by repeat (first | (with_reducible first | exact HB.out | apply below_alloc | apply pw_below_drewN | apply below_drew1 | refine below_set ?_ GE17002.out) | exact HB.out)) hb); have n2_ := Aside0.mk (hbox); have n3_ := Aside0.mk ((by rw [hg]; exact (below_size (by repeat (first | (with_reducible first | exact HB.out | apply below_alloc | apply pw_below_drewN | apply below_drew1 | refine below_set ?_ GE17002.out) | exact HB.out))) : w.heap.size ≤ gb17008)); have n4_ := Aside0.mk ((by rw [hg]; exact (below_size (by repeat (first | (with_reducible first | exact HB.out | apply below_alloc | apply pw_below_drewN | apply below_drew1 | refine below_set ?_ GE17002.out) | exact HB.out))) : w.heap.size ≤ gb17008)); have n5_ := Aside0.mk ((by rw [hg]; exact Nat.ne_of_lt (blk_lt (g := gb17002) (o := .cells #[.string ((rd_T40 l0 x13_1).f0), .string ((rd_T40 l0 x13_1).f1)] 40 (0, 0)) (by (with_reducible repeat (first | refine blk_drewN ?_ _ | refine blk_drew ?_ | refine blk_alloc ?_ _)); exact BK17002.out)) : gb17002 ≠ gb17008)); have n6_ := Aside0.mk ((by rw [hg]; exact Nat.ne_of_gt (blk_lt (g := gb17002) (o := .cells #[.string ((rd_T40 l0 x13_1).f0), .string ((rd_T40 l0 x13_1).f1)] 40 (0, 0)) (by (with_reducible repeat (first | refine blk_drewN ?_ _ | refine blk_drew ?_ | refine blk_alloc ?_ _)); exact BK17002.out)) : gb17008 ≠ gb17002)); clear BK17002; clear HB; have BK17002 := n0_; have HB := n1_; have BK17008 := n2_; have GW17008 := n3_; have GE17008 := n4_; have NB17002_17008 := n5_; have NB17008_17002 := n6_; clear n0_ n1_ n2_ n3_ n4_ n5_ n6_; clear hb hbox hg; have hnb14 := NB17008_17002.out; have hnc14 := NB17002_17008.out; have hcz15_0 : w13.cell? ⟨gb17008, 0, none⟩ = some (.string (⟨#[]⟩ : ByteArray)) := (blk_cell BK17008.out 0).trans rfl; have hcz15_1 : w13.cell? ⟨gb17008, 1, none⟩ = some (.int .i64 0) := (blk_cell BK17008.out 1).trans rfl; have hcz15_2 : w13.cell? ⟨gb17008, 2, none⟩ = some (.string (⟨#[]⟩ : ByteArray)) := (blk_cell BK17008.out 2).trans rfl; have hfz15_0 := blk_frozen BK17008.out 0; have hfz15_1 := blk_frozen BK17008.out 1; have hfz15_2 := blk_frozen BK17008.out 2; have hcz16_0 : w13.cell? ⟨gb17002, 0, none⟩ = some (.string ((rd_T40 l0 x13_1).f0)) := (blk_cell BK17002.out 0).trans rfl; have hcz16_1 : w13.cell? ⟨gb17002, 1, none⟩ = some (.string ((rd_T40 l0 x13_1).f1)) := (blk_cell BK17002.out 1).trans rfl; have hfz16_0 := blk_frozen BK17002.out 0; have hfz16_1 := blk_frozen BK17002.out 1) | ((with_reducible refine gate_callee (f := 45) rfl ?_); refine goesL_ (some 28) rfl rfl Tryd.func45 (by kernel_rfl) rfl #[.agg #[.string t17003, .int .i64 t17004, .string t17005], .string ((rd_T40 l0 x13_1).f1)] rfl (by (try simp only [List.map_toArray, List.map_cons, List.map_nil]); first | done | rfl | (simp only [List.length_drop, List.length_take]; rfl)) ?_; (with_reducible refine (vars_variable_form.calls k1 t17003 t17004 t17005 ((rd_T40 l0 x13_1).f1) t17009 true _ (Tabs.below ht (by repeat (first | (with_reducible first | exact HB.out | apply below_alloc | apply pw_below_drewN | apply below_drew1 | refine below_set ?_ (Aside0.out (by assumption))) | exact HB.out))) A6.out).mono ?_); rintro e w17 ⟨rfl, hb⟩; refine ⟨_, rfl, ?_⟩; have n0_ := Aside0.mk (blk_below (g := gb17002) (o := .cells #[.string ((rd_T40 l0 x13_1).f0), .string ((rd_T40 l0 x13_1).f1)] 40 (0, 0)) (by (with_reducible repeat (first | refine blk_drewN ?_ _ | refine blk_drew ?_ | refine blk_alloc ?_ _)); refine blk_far ?_ NB17002_17008.out _; (with_reducible repeat (first | refine blk_drewN ?_ _ | refine blk_drew ?_ | refine blk_alloc ?_ _)); refine blk_far ?_ NB17002_17008.out _; (with_reducible repeat (first | refine blk_drewN ?_ _ | refine blk_drew ?_ | refine blk_alloc ?_ _)); refine blk_far ?_ NB17002_17008.out _; (with_reducible repeat (first | refine blk_drewN ?_ _ | refine blk_drew ?_ | refine blk_alloc ?_ _)); exact BK17002.out) hb); have n1_ := Aside0.mk (blk_below (g := gb17008) (o := .cells #[.string t17003, .int .i64 t17004, .string t17005] 57 (0, 0)) (by (with_reducible repeat (first | refine blk_drewN ?_ _ | refine blk_drew ?_ | refine blk_alloc ?_ _)); refine blk_put (cs := #[.string t17003, .int .i64 t17004, .string (⟨#[]⟩ : ByteArray)]) ?_ 2 _ rfl; (with_reducible repeat (first | refine blk_drewN ?_ _ | refine blk_drew ?_ | refine blk_alloc ?_ _)); refine blk_put (cs := #[.string t17003, .int .i64 0, .string (⟨#[]⟩ : ByteArray)]) ?_ 1 _ rfl; (with_reducible repeat (first | refine blk_drewN ?_ _ | refine blk_drew ?_ | refine blk_alloc ?_ _)); refine blk_put (cs := #[.string (⟨#[]⟩ : ByteArray), .int .i64 0, .string (⟨#[]⟩ : ByteArray)]) ?_ 0 _ rfl; (with_reducible repeat (first | refine blk_drewN ?_ _ | refine blk_drew ?_ | refine blk_alloc ?_ _)); exact BK17008.out) hb); have n2_ := Aside0.mk (below_step (by repeat (first | (with_reducible first | exact HB.out | apply below_alloc | apply pw_below_drewN | apply below_drew1 | refine below_set ?_ GE17002.out | refine below_set ?_ GE17008.out) | exact HB.out)) hb); clear BK17002; clear BK17008; clear HB; have BK17002 := n0_; have BK17008 := n1_; have HB := n2_; clear n0_ n1_ n2_; (try clear hb); (try clear hb2); (try clear hk); (try clear hi)))
                  go_ret
                  exact ⟨by first | rfl | (simp [errW_none, errW_some] <;> rfl) | (simp [*, errW_none, errW_some] <;> rfl), by repeat (first | (with_reducible first | exact HB.out | apply below_alloc | apply pw_below_drewN | apply below_drew1 | refine below_set ?_ GE17002.out | refine below_set ?_ GE17008.out) | exact HB.out)⟩
                · rw [if_neg c9] at H
                  have c9b0 : decide (t17006 ≤ x3_1) = false := decide_eq_false c9
                  clear c9
                  by_cases c18 : t17009.toList = ((rd_T40 l0 x13_1).f1).toList
                  · rw [if_pos c18] at H
                    have c18b0 : (t17009.toList == ((rd_T40 l0 x13_1).f1).toList) = true := beq_iff_eq.mpr c18
                    have c18b1 : (t17009.toList != ((rd_T40 l0 x13_1).f1).toList) = false := bne_eq_false_iff_eq.mpr c18
                    clear c18
                    by_cases c19 : t17009.toList = t17005.toList
                    · rw [if_pos c19] at H
                      have c19b0 : (t17009.toList == t17005.toList) = true := beq_iff_eq.mpr c19
                      have c19b1 : (t17009.toList != t17005.toList) = false := bne_eq_false_iff_eq.mpr c19
                      clear c19
                      obtain rfl := Option.some.inj H
                      have p17001 : 0 ≤ (x13_1 : Int) := of_decide_eq_true (by first | (with_reducible assumption) | assumption)
                      have q17001 : x13_1 < (l0.length : Int) := of_decide_eq_true (by first | (with_reducible assumption) | assumption)
                      obtain ⟨ad17001, e17001, hx17001_0, hx17001_1⟩ := at_T40 HR0.out x13_1 p17001 q17001
                      cases e17001
                      replace hx17001_0 := (HB.out.cell (World.block_lt_of_cell? w _ hx17001_0)).trans hx17001_0
                      replace hx17001_1 := (HB.out.cell (World.block_lt_of_cell? w _ hx17001_1)).trans hx17001_1
                      replace p17001 := eq_true p17001
                      replace q17001 := eq_true q17001
                      go_wp2_with (first | ((with_reducible refine gate_dst (N := 5) rfl ?_); refine box_event ?hg (N := 5) ?hd (cs := #[.string (⟨#[]⟩ : ByteArray), .string (⟨#[]⟩ : ByteArray)]) (t := 40) ?hr ?_; (case hd => rfl); (case hg => rfl); (case hr => first | (go_simp; done) | (go_simp; rfl)); intro gb17002 hg w20 hbox hb; have n0_ := Aside0.mk (below_step (by repeat (first | (with_reducible first | exact HB.out | apply below_alloc | apply pw_below_drewN | apply below_drew1) | exact HB.out)) hb); have n1_ := Aside0.mk (hbox); have n2_ := Aside0.mk ((by rw [hg]; exact (below_size (by repeat (first | (with_reducible first | exact HB.out | apply below_alloc | apply pw_below_drewN | apply below_drew1) | exact HB.out))) : w.heap.size ≤ gb17002)); have n3_ := Aside0.mk ((by rw [hg]; exact (below_size (by repeat (first | (with_reducible first | exact HB.out | apply below_alloc | apply pw_below_drewN | apply below_drew1) | exact HB.out))) : w.heap.size ≤ gb17002)); clear HB; have HB := n0_; have BK17002 := n1_; have GW17002 := n2_; have GE17002 := n3_; clear n0_ n1_ n2_ n3_; clear hb hbox hg; have hcz21_0 : w20.cell? ⟨gb17002, 0, none⟩ = some (.string (⟨#[]⟩ : ByteArray)) := (blk_cell BK17002.out 0).trans rfl; have hcz21_1 : w20.cell? ⟨gb17002, 1, none⟩ = some (.string (⟨#[]⟩ : ByteArray)) := (blk_cell BK17002.out 1).trans rfl; have hfz21_0 := blk_frozen BK17002.out 0; have hfz21_1 := blk_frozen BK17002.out 1) | ((with_reducible refine gate_callee (f := 37) rfl ?_); refine goesL_ (some 20) rfl rfl Tryd.func37 (by kernel_rfl) rfl #[.string ((rd_T40 l0 x13_1).f0)] rfl (by (try simp only [List.map_toArray, List.map_cons, List.map_nil]); first | done | rfl | (simp only [List.length_drop, List.length_take]; rfl)) ?_; (with_reducible refine (vars_find.calls k1 ((rd_T40 l0 x13_1).f0) t17003 t17004 t17005 t17006 true _ A5.out).mono ?_); rintro e w22 ⟨rfl, hb⟩; refine ⟨_, rfl, ?_⟩; have n0_ := Aside0.mk (blk_below (g := gb17002) (o := .cells #[.string ((rd_T40 l0 x13_1).f0), .string ((rd_T40 l0 x13_1).f1)] 40 (0, 0)) (by (with_reducible repeat (first | refine blk_drewN ?_ _ | refine blk_drew ?_ | refine blk_alloc ?_ _)); refine blk_put (cs := #[.string ((rd_T40 l0 x13_1).f0), .string (⟨#[]⟩ : ByteArray)]) ?_ 1 _ rfl; (with_reducible repeat (first | refine blk_drewN ?_ _ | refine blk_drew ?_ | refine blk_alloc ?_ _)); refine blk_put (cs := #[.string (⟨#[]⟩ : ByteArray), .string (⟨#[]⟩ : ByteArray)]) ?_ 0 _ rfl; (with_reducible repeat (first | refine blk_drewN ?_ _ | refine blk_drew ?_ | refine blk_alloc ?_ _)); exact BK17002.out) hb); have n1_ := Aside0.mk (below_step (by repeat (first | (with_reducible first | exact HB.out | apply below_alloc | apply pw_below_drewN | apply below_drew1 | refine below_set ?_ GE17002.out) | exact HB.out)) hb); clear BK17002; clear HB; have BK17002 := n0_; have HB := n1_; clear n0_ n1_; (try clear hb); (try clear hb2); (try clear hk); (try clear hi)) | ((with_reducible refine gate_dst (N := 6) rfl ?_); refine box_event ?hg (N := 6) ?hd (cs := #[.string (⟨#[]⟩ : ByteArray), .int .i64 0, .string (⟨#[]⟩ : ByteArray)]) (t := 57) ?hr ?_; (case hd => rfl); (case hg => rfl); (case hr => first | (go_simp; done) | (go_simp; rfl)); intro gb17008 hg w23 hbox hb; have n0_ := Aside0.mk (blk_below (g := gb17002) (o := .cells #[.string ((rd_T40 l0 x13_1).f0), .string ((rd_T40 l0 x13_1).f1)] 40 (0, 0)) (by (with_reducible repeat (first | refine blk_drewN ?_ _ | refine blk_drew ?_ | refine blk_alloc ?_ _)); exact BK17002.out) hb); have n1_ := Aside0.mk (below_step (by repeat (first | (with_reducible first | exact HB.out | apply below_alloc | apply pw_below_drewN | apply below_drew1 | refine below_set ?_ GE17002.out) | exact HB.out)) hb); have n2_ := Aside0.mk (hbox); have n3_ := Aside0.mk ((by rw [hg]; exact (below_size (by repeat (first | (with_reducible first | exact HB.out | apply below_alloc | apply pw_below_drewN | apply below_drew1 | refine below_set ?_ GE17002.out) | exact HB.out))) : w.heap.size ≤ gb17008)); have n4_ := Aside0.mk ((by rw [hg]; exact (below_size (by repeat (first | (with_reducible first | exact HB.out | apply below_alloc | apply pw_below_drewN | apply below_drew1 | refine below_set ?_ GE17002.out) | exact HB.out))) : w.heap.size ≤ gb17008)); have n5_ := Aside0.mk ((by rw [hg]; exact Nat.ne_of_lt (blk_lt (g := gb17002) (o := .cells #[.string ((rd_T40 l0 x13_1).f0), .string ((rd_T40 l0 x13_1).f1)] 40 (0, 0)) (by (with_reducible repeat (first | refine blk_drewN ?_ _ | refine blk_drew ?_ | refine blk_alloc ?_ _)); exact BK17002.out)) : gb17002 ≠ gb17008)); have n6_ := Aside0.mk ((by rw [hg]; exact Nat.ne_of_gt (blk_lt (g := gb17002) (o := .cells #[.string ((rd_T40 l0 x13_1).f0), .string ((rd_T40 l0 x13_1).f1)] 40 (0, 0)) (by (with_reducible repeat (first | refine blk_drewN ?_ _ | refine blk_drew ?_ | refine blk_alloc ?_ _)); exact BK17002.out)) : gb17008 ≠ gb17002)); clear BK17002; clear HB; have BK17002 := n0_; have HB := n1_; have BK17008 := n2_; have GW17008 := n3_; have GE17008 := n4_; have NB17002_17008 := n5_; have NB17008_17002 := n6_; clear n0_ n1_ n2_ n3_ n4_ n5_ n6_; clear hb hbox hg; have hnb24 := NB17008_17002.out; have hnc24 := NB17002_17008.out; have hcz25_0 : w23.cell? ⟨gb17008, 0, none⟩ = some (.string (⟨#[]⟩ : ByteArray)) := (blk_cell BK17008.out 0).trans rfl; have hcz25_1 : w23.cell? ⟨gb17008, 1, none⟩ = some (.int .i64 0) := (blk_cell BK17008.out 1).trans rfl; have hcz25_2 : w23.cell? ⟨gb17008, 2, none⟩ = some (.string (⟨#[]⟩ : ByteArray)) := (blk_cell BK17008.out 2).trans rfl; have hfz25_0 := blk_frozen BK17008.out 0; have hfz25_1 := blk_frozen BK17008.out 1; have hfz25_2 := blk_frozen BK17008.out 2; have hcz26_0 : w23.cell? ⟨gb17002, 0, none⟩ = some (.string ((rd_T40 l0 x13_1).f0)) := (blk_cell BK17002.out 0).trans rfl; have hcz26_1 : w23.cell? ⟨gb17002, 1, none⟩ = some (.string ((rd_T40 l0 x13_1).f1)) := (blk_cell BK17002.out 1).trans rfl; have hfz26_0 := blk_frozen BK17002.out 0; have hfz26_1 := blk_frozen BK17002.out 1) | ((with_reducible refine gate_callee (f := 45) rfl ?_); refine goesL_ (some 28) rfl rfl Tryd.func45 (by kernel_rfl) rfl #[.agg #[.string t17003, .int .i64 t17004, .string t17005], .string ((rd_T40 l0 x13_1).f1)] rfl (by (try simp only [List.map_toArray, List.map_cons, List.map_nil]); first | done | rfl | (simp only [List.length_drop, List.length_take]; rfl)) ?_; (with_reducible refine (vars_variable_form.calls k1 t17003 t17004 t17005 ((rd_T40 l0 x13_1).f1) t17009 true _ (Tabs.below ht (by repeat (first | (with_reducible first | exact HB.out | apply below_alloc | apply pw_below_drewN | apply below_drew1 | refine below_set ?_ (Aside0.out (by assumption))) | exact HB.out))) A6.out).mono ?_); rintro e w27 ⟨rfl, hb⟩; refine ⟨_, rfl, ?_⟩; have n0_ := Aside0.mk (blk_below (g := gb17002) (o := .cells #[.string ((rd_T40 l0 x13_1).f0), .string ((rd_T40 l0 x13_1).f1)] 40 (0, 0)) (by (with_reducible repeat (first | refine blk_drewN ?_ _ | refine blk_drew ?_ | refine blk_alloc ?_ _)); refine blk_far ?_ NB17002_17008.out _; (with_reducible repeat (first | refine blk_drewN ?_ _ | refine blk_drew ?_ | refine blk_alloc ?_ _)); refine blk_far ?_ NB17002_17008.out _; (with_reducible repeat (first | refine blk_drewN ?_ _ | refine blk_drew ?_ | refine blk_alloc ?_ _)); refine blk_far ?_ NB17002_17008.out _; (with_reducible repeat (first | refine blk_drewN ?_ _ | refine blk_drew ?_ | refine blk_alloc ?_ _)); exact BK17002.out) hb); have n1_ := Aside0.mk (blk_below (g := gb17008) (o := .cells #[.string t17003, .int .i64 t17004, .string t17005] 57 (0, 0)) (by (with_reducible repeat (first | refine blk_drewN ?_ _ | refine blk_drew ?_ | refine blk_alloc ?_ _)); refine blk_put (cs := #[.string t17003, .int .i64 t17004, .string (⟨#[]⟩ : ByteArray)]) ?_ 2 _ rfl; (with_reducible repeat (first | refine blk_drewN ?_ _ | refine blk_drew ?_ | refine blk_alloc ?_ _)); refine blk_put (cs := #[.string t17003, .int .i64 0, .string (⟨#[]⟩ : ByteArray)]) ?_ 1 _ rfl; (with_reducible repeat (first | refine blk_drewN ?_ _ | refine blk_drew ?_ | refine blk_alloc ?_ _)); refine blk_put (cs := #[.string (⟨#[]⟩ : ByteArray), .int .i64 0, .string (⟨#[]⟩ : ByteArray)]) ?_ 0 _ rfl; (with_reducible repeat (first | refine blk_drewN ?_ _ | refine blk_drew ?_ | refine blk_alloc ?_ _)); exact BK17008.out) hb); have n2_ := Aside0.mk (below_step (by repeat (first | (with_reducible first | exact HB.out | apply below_alloc | apply pw_below_drewN | apply below_drew1 | refine below_set ?_ GE17002.out | refine below_set ?_ GE17008.out) | exact HB.out)) hb); clear BK17002; clear BK17008; clear HB; have BK17002 := n0_; have BK17008 := n1_; have HB := n2_; clear n0_ n1_ n2_; (try clear hb); (try clear hb2); (try clear hk); (try clear hi); have hcz28_0 : w27.cell? ⟨gb17002, 0, none⟩ = some (.string ((rd_T40 l0 x13_1).f0)) := (blk_cell BK17002.out 0).trans rfl; have hcz28_1 : w27.cell? ⟨gb17002, 1, none⟩ = some (.string ((rd_T40 l0 x13_1).f1)) := (blk_cell BK17002.out 1).trans rfl; have hfz28_0 := blk_frozen BK17002.out 0; have hfz28_1 := blk_frozen BK17002.out 1; have hcz29_0 : w27.cell? ⟨gb17008, 0, none⟩ = some (.string t17003) := (blk_cell BK17008.out 0).trans rfl; have hcz29_1 : w27.cell? ⟨gb17008, 1, none⟩ = some (.int .i64 t17004) := (blk_cell BK17008.out 1).trans rfl; have hcz29_2 : w27.cell? ⟨gb17008, 2, none⟩ = some (.string t17005) := (blk_cell BK17008.out 2).trans rfl; have hfz29_0 := blk_frozen BK17008.out 0; have hfz29_1 := blk_frozen BK17008.out 1; have hfz29_2 := blk_frozen BK17008.out 2))
                      go_ret
                      exact ⟨by first | rfl | (simp [errW_none, errW_some] <;> rfl) | (simp [*, errW_none, errW_some] <;> rfl), by repeat (first | (with_reducible first | exact HB.out | apply below_alloc | apply pw_below_drewN | apply below_drew1 | refine below_set ?_ GE17002.out | refine below_set ?_ GE17008.out) | exact HB.out)⟩
                    · rw [if_neg c19] at H
                      have c19b0 : (t17009.toList == t17005.toList) = false := beq_eq_false_iff_ne.mpr c19
                      have c19b1 : (t17009.toList != t17005.toList) = true := bne_iff_ne.mpr c19
                      have H' := Aside0.mk H
                      clear H
                      have p17001 : 0 ≤ (x13_1 : Int) := of_decide_eq_true (by first | (with_reducible assumption) | assumption)
                      have q17001 : x13_1 < (l0.length : Int) := of_decide_eq_true (by first | (with_reducible assumption) | assumption)
                      obtain ⟨ad17001, e17001, hx17001_0, hx17001_1⟩ := at_T40 HR0.out x13_1 p17001 q17001
                      cases e17001
                      replace hx17001_0 := (HB.out.cell (World.block_lt_of_cell? w _ hx17001_0)).trans hx17001_0
                      replace hx17001_1 := (HB.out.cell (World.block_lt_of_cell? w _ hx17001_1)).trans hx17001_1
                      replace p17001 := eq_true p17001
                      replace q17001 := eq_true q17001
                      go_wp2_with (first | ((with_reducible refine gate_dst (N := 5) rfl ?_); refine box_event ?hg (N := 5) ?hd (cs := #[.string (⟨#[]⟩ : ByteArray), .string (⟨#[]⟩ : ByteArray)]) (t := 40) ?hr ?_; (case hd => rfl); (case hg => rfl); (case hr => first | (go_simp; done) | (go_simp; rfl)); intro gb17002 hg w30 hbox hb; have n0_ := Aside0.mk (below_step (by repeat (first | (with_reducible first | exact HB.out | apply below_alloc | apply pw_below_drewN | apply below_drew1) | exact HB.out)) hb); have n1_ := Aside0.mk (hbox); have n2_ := Aside0.mk ((by rw [hg]; exact (below_size (by repeat (first | (with_reducible first | exact HB.out | apply below_alloc | apply pw_below_drewN | apply below_drew1) | exact HB.out))) : w.heap.size ≤ gb17002)); have n3_ := Aside0.mk ((by rw [hg]; exact (below_size (by repeat (first | (with_reducible first | exact HB.out | apply below_alloc | apply pw_below_drewN | apply below_drew1) | exact HB.out))) : w.heap.size ≤ gb17002)); clear HB; have HB := n0_; have BK17002 := n1_; have GW17002 := n2_; have GE17002 := n3_; clear n0_ n1_ n2_ n3_; clear hb hbox hg; have hcz31_0 : w30.cell? ⟨gb17002, 0, none⟩ = some (.string (⟨#[]⟩ : ByteArray)) := (blk_cell BK17002.out 0).trans rfl; have hcz31_1 : w30.cell? ⟨gb17002, 1, none⟩ = some (.string (⟨#[]⟩ : ByteArray)) := (blk_cell BK17002.out 1).trans rfl; have hfz31_0 := blk_frozen BK17002.out 0; have hfz31_1 := blk_frozen BK17002.out 1) | ((with_reducible refine gate_callee (f := 37) rfl ?_); refine goesL_ (some 20) rfl rfl Tryd.func37 (by kernel_rfl) rfl #[.string ((rd_T40 l0 x13_1).f0)] rfl (by (try simp only [List.map_toArray, List.map_cons, List.map_nil]); first | done | rfl | (simp only [List.length_drop, List.length_take]; rfl)) ?_; (with_reducible refine (vars_find.calls k1 ((rd_T40 l0 x13_1).f0) t17003 t17004 t17005 t17006 true _ A5.out).mono ?_); rintro e w32 ⟨rfl, hb⟩; refine ⟨_, rfl, ?_⟩; have n0_ := Aside0.mk (blk_below (g := gb17002) (o := .cells #[.string ((rd_T40 l0 x13_1).f0), .string ((rd_T40 l0 x13_1).f1)] 40 (0, 0)) (by (with_reducible repeat (first | refine blk_drewN ?_ _ | refine blk_drew ?_ | refine blk_alloc ?_ _)); refine blk_put (cs := #[.string ((rd_T40 l0 x13_1).f0), .string (⟨#[]⟩ : ByteArray)]) ?_ 1 _ rfl; (with_reducible repeat (first | refine blk_drewN ?_ _ | refine blk_drew ?_ | refine blk_alloc ?_ _)); refine blk_put (cs := #[.string (⟨#[]⟩ : ByteArray), .string (⟨#[]⟩ : ByteArray)]) ?_ 0 _ rfl; (with_reducible repeat (first | refine blk_drewN ?_ _ | refine blk_drew ?_ | refine blk_alloc ?_ _)); exact BK17002.out) hb); have n1_ := Aside0.mk (below_step (by repeat (first | (with_reducible first | exact HB.out | apply below_alloc | apply pw_below_drewN | apply below_drew1 | refine below_set ?_ GE17002.out) | exact HB.out)) hb); clear BK17002; clear HB; have BK17002 := n0_; have HB := n1_; clear n0_ n1_; (try clear hb); (try clear hb2); (try clear hk); (try clear hi)) | ((with_reducible refine gate_dst (N := 6) rfl ?_); refine box_event ?hg (N := 6) ?hd (cs := #[.string (⟨#[]⟩ : ByteArray), .int .i64 0, .string (⟨#[]⟩ : ByteArray)]) (t := 57) ?hr ?_; (case hd => rfl); (case hg => rfl); (case hr => first | (go_simp; done) | (go_simp; rfl)); intro gb17008 hg w33 hbox hb; have n0_ := Aside0.mk (blk_below (g := gb17002) (o := .cells #[.string ((rd_T40 l0 x13_1).f0), .string ((rd_T40 l0 x13_1).f1)] 40 (0, 0)) (by (with_reducible repeat (first | refine blk_drewN ?_ _ | refine blk_drew ?_ | refine blk_alloc ?_ _)); exact BK17002.out) hb); have n1_ := Aside0.mk (below_step (by repeat (first | (with_reducible first | exact HB.out | apply below_alloc | apply pw_below_drewN | apply below_drew1 | refine below_set ?_ GE17002.out) | exact HB.out)) hb); have n2_ := Aside0.mk (hbox); have n3_ := Aside0.mk ((by rw [hg]; exact (below_size (by repeat (first | (with_reducible first | exact HB.out | apply below_alloc | apply pw_below_drewN | apply below_drew1 | refine below_set ?_ GE17002.out) | exact HB.out))) : w.heap.size ≤ gb17008)); have n4_ := Aside0.mk ((by rw [hg]; exact (below_size (by repeat (first | (with_reducible first | exact HB.out | apply below_alloc | apply pw_below_drewN | apply below_drew1 | refine below_set ?_ GE17002.out) | exact HB.out))) : w.heap.size ≤ gb17008)); have n5_ := Aside0.mk ((by rw [hg]; exact Nat.ne_of_lt (blk_lt (g := gb17002) (o := .cells #[.string ((rd_T40 l0 x13_1).f0), .string ((rd_T40 l0 x13_1).f1)] 40 (0, 0)) (by (with_reducible repeat (first | refine blk_drewN ?_ _ | refine blk_drew ?_ | refine blk_alloc ?_ _)); exact BK17002.out)) : gb17002 ≠ gb17008)); have n6_ := Aside0.mk ((by rw [hg]; exact Nat.ne_of_gt (blk_lt (g := gb17002) (o := .cells #[.string ((rd_T40 l0 x13_1).f0), .string ((rd_T40 l0 x13_1).f1)] 40 (0, 0)) (by (with_reducible repeat (first | refine blk_drewN ?_ _ | refine blk_drew ?_ | refine blk_alloc ?_ _)); exact BK17002.out)) : gb17008 ≠ gb17002)); clear BK17002; clear HB; have BK17002 := n0_; have HB := n1_; have BK17008 := n2_; have GW17008 := n3_; have GE17008 := n4_; have NB17002_17008 := n5_; have NB17008_17002 := n6_; clear n0_ n1_ n2_ n3_ n4_ n5_ n6_; clear hb hbox hg; have hnb34 := NB17008_17002.out; have hnc34 := NB17002_17008.out; have hcz35_0 : w33.cell? ⟨gb17008, 0, none⟩ = some (.string (⟨#[]⟩ : ByteArray)) := (blk_cell BK17008.out 0).trans rfl; have hcz35_1 : w33.cell? ⟨gb17008, 1, none⟩ = some (.int .i64 0) := (blk_cell BK17008.out 1).trans rfl; have hcz35_2 : w33.cell? ⟨gb17008, 2, none⟩ = some (.string (⟨#[]⟩ : ByteArray)) := (blk_cell BK17008.out 2).trans rfl; have hfz35_0 := blk_frozen BK17008.out 0; have hfz35_1 := blk_frozen BK17008.out 1; have hfz35_2 := blk_frozen BK17008.out 2; have hcz36_0 : w33.cell? ⟨gb17002, 0, none⟩ = some (.string ((rd_T40 l0 x13_1).f0)) := (blk_cell BK17002.out 0).trans rfl; have hcz36_1 : w33.cell? ⟨gb17002, 1, none⟩ = some (.string ((rd_T40 l0 x13_1).f1)) := (blk_cell BK17002.out 1).trans rfl; have hfz36_0 := blk_frozen BK17002.out 0; have hfz36_1 := blk_frozen BK17002.out 1) | ((with_reducible refine gate_callee (f := 45) rfl ?_); refine goesL_ (some 28) rfl rfl Tryd.func45 (by kernel_rfl) rfl #[.agg #[.string t17003, .int .i64 t17004, .string t17005], .string ((rd_T40 l0 x13_1).f1)] rfl (by (try simp only [List.map_toArray, List.map_cons, List.map_nil]); first | done | rfl | (simp only [List.length_drop, List.length_take]; rfl)) ?_; (with_reducible refine (vars_variable_form.calls k1 t17003 t17004 t17005 ((rd_T40 l0 x13_1).f1) t17009 true _ (Tabs.below ht (by repeat (first | (with_reducible first | exact HB.out | apply below_alloc | apply pw_below_drewN | apply below_drew1 | refine below_set ?_ (Aside0.out (by assumption))) | exact HB.out))) A6.out).mono ?_); rintro e w37 ⟨rfl, hb⟩; refine ⟨_, rfl, ?_⟩; have n0_ := Aside0.mk (blk_below (g := gb17002) (o := .cells #[.string ((rd_T40 l0 x13_1).f0), .string ((rd_T40 l0 x13_1).f1)] 40 (0, 0)) (by (with_reducible repeat (first | refine blk_drewN ?_ _ | refine blk_drew ?_ | refine blk_alloc ?_ _)); refine blk_far ?_ NB17002_17008.out _; (with_reducible repeat (first | refine blk_drewN ?_ _ | refine blk_drew ?_ | refine blk_alloc ?_ _)); refine blk_far ?_ NB17002_17008.out _; (with_reducible repeat (first | refine blk_drewN ?_ _ | refine blk_drew ?_ | refine blk_alloc ?_ _)); refine blk_far ?_ NB17002_17008.out _; (with_reducible repeat (first | refine blk_drewN ?_ _ | refine blk_drew ?_ | refine blk_alloc ?_ _)); exact BK17002.out) hb); have n1_ := Aside0.mk (blk_below (g := gb17008) (o := .cells #[.string t17003, .int .i64 t17004, .string t17005] 57 (0, 0)) (by (with_reducible repeat (first | refine blk_drewN ?_ _ | refine blk_drew ?_ | refine blk_alloc ?_ _)); refine blk_put (cs := #[.string t17003, .int .i64 t17004, .string (⟨#[]⟩ : ByteArray)]) ?_ 2 _ rfl; (with_reducible repeat (first | refine blk_drewN ?_ _ | refine blk_drew ?_ | refine blk_alloc ?_ _)); refine blk_put (cs := #[.string t17003, .int .i64 0, .string (⟨#[]⟩ : ByteArray)]) ?_ 1 _ rfl; (with_reducible repeat (first | refine blk_drewN ?_ _ | refine blk_drew ?_ | refine blk_alloc ?_ _)); refine blk_put (cs := #[.string (⟨#[]⟩ : ByteArray), .int .i64 0, .string (⟨#[]⟩ : ByteArray)]) ?_ 0 _ rfl; (with_reducible repeat (first | refine blk_drewN ?_ _ | refine blk_drew ?_ | refine blk_alloc ?_ _)); exact BK17008.out) hb); have n2_ := Aside0.mk (below_step (by repeat (first | (with_reducible first | exact HB.out | apply below_alloc | apply pw_below_drewN | apply below_drew1 | refine below_set ?_ GE17002.out | refine below_set ?_ GE17008.out) | exact HB.out)) hb); clear BK17002; clear BK17008; clear HB; have BK17002 := n0_; have BK17008 := n1_; have HB := n2_; clear n0_ n1_ n2_; (try clear hb); (try clear hb2); (try clear hk); (try clear hi); have hcz38_0 : w37.cell? ⟨gb17002, 0, none⟩ = some (.string ((rd_T40 l0 x13_1).f0)) := (blk_cell BK17002.out 0).trans rfl; have hcz38_1 : w37.cell? ⟨gb17002, 1, none⟩ = some (.string ((rd_T40 l0 x13_1).f1)) := (blk_cell BK17002.out 1).trans rfl; have hfz38_0 := blk_frozen BK17002.out 0; have hfz38_1 := blk_frozen BK17002.out 1; have hcz39_0 : w37.cell? ⟨gb17008, 0, none⟩ = some (.string t17003) := (blk_cell BK17008.out 0).trans rfl; have hcz39_1 : w37.cell? ⟨gb17008, 1, none⟩ = some (.int .i64 t17004) := (blk_cell BK17008.out 1).trans rfl; have hcz39_2 : w37.cell? ⟨gb17008, 2, none⟩ = some (.string t17005) := (blk_cell BK17008.out 2).trans rfl; have hfz39_0 := blk_frozen BK17008.out 0; have hfz39_1 := blk_frozen BK17008.out 1; have hfz39_2 := blk_frozen BK17008.out 2))
                      go_roundg k1
                      case measure => have := HK1.out; omega
                      case rel => exact ⟨(t17006), (wrap64 (x13_1 + 1)), (by first | rfl | (simp; done) | (simp [*]; done)), (by first | rfl | (simp; done) | (simp [*]; done)), H', ⟨by have := HK1.out; omega⟩, ⟨by repeat (first | (with_reducible first | exact HB.out | apply below_alloc | apply pw_below_drewN | apply below_drew1 | refine below_set ?_ GE17002.out | refine below_set ?_ GE17008.out) | exact HB.out)⟩⟩
                  · rw [if_neg c18] at H
                    have c18b0 : (t17009.toList == ((rd_T40 l0 x13_1).f1).toList) = false := beq_eq_false_iff_ne.mpr c18
                    have c18b1 : (t17009.toList != ((rd_T40 l0 x13_1).f1).toList) = true := bne_iff_ne.mpr c18
                    obtain rfl := Option.some.inj H
                    have p17001 : 0 ≤ (x13_1 : Int) := of_decide_eq_true (by first | (with_reducible assumption) | assumption)
                    have q17001 : x13_1 < (l0.length : Int) := of_decide_eq_true (by first | (with_reducible assumption) | assumption)
                    obtain ⟨ad17001, e17001, hx17001_0, hx17001_1⟩ := at_T40 HR0.out x13_1 p17001 q17001
                    cases e17001
                    replace hx17001_0 := (HB.out.cell (World.block_lt_of_cell? w _ hx17001_0)).trans hx17001_0
                    replace hx17001_1 := (HB.out.cell (World.block_lt_of_cell? w _ hx17001_1)).trans hx17001_1
                    replace p17001 := eq_true p17001
                    replace q17001 := eq_true q17001
                    go_wp2_with (first | ((with_reducible refine gate_dst (N := 5) rfl ?_); refine box_event ?hg (N := 5) ?hd (cs := #[.string (⟨#[]⟩ : ByteArray), .string (⟨#[]⟩ : ByteArray)]) (t := 40) ?hr ?_; (case hd => rfl); (case hg => rfl); (case hr => first | (go_simp; done) | (go_simp; rfl)); intro gb17002 hg w40 hbox hb; have n0_ := Aside0.mk (below_step (by repeat (first | (with_reducible first | exact HB.out | apply below_alloc | apply pw_below_drewN | apply below_drew1) | exact HB.out)) hb); have n1_ := Aside0.mk (hbox); have n2_ := Aside0.mk ((by rw [hg]; exact (below_size (by repeat (first | (with_reducible first | exact HB.out | apply below_alloc | apply pw_below_drewN | apply below_drew1) | exact HB.out))) : w.heap.size ≤ gb17002)); have n3_ := Aside0.mk ((by rw [hg]; exact (below_size (by repeat (first | (with_reducible first | exact HB.out | apply below_alloc | apply pw_below_drewN | apply below_drew1) | exact HB.out))) : w.heap.size ≤ gb17002)); clear HB; have HB := n0_; have BK17002 := n1_; have GW17002 := n2_; have GE17002 := n3_; clear n0_ n1_ n2_ n3_; clear hb hbox hg; have hcz41_0 : w40.cell? ⟨gb17002, 0, none⟩ = some (.string (⟨#[]⟩ : ByteArray)) := (blk_cell BK17002.out 0).trans rfl; have hcz41_1 : w40.cell? ⟨gb17002, 1, none⟩ = some (.string (⟨#[]⟩ : ByteArray)) := (blk_cell BK17002.out 1).trans rfl; have hfz41_0 := blk_frozen BK17002.out 0; have hfz41_1 := blk_frozen BK17002.out 1) | ((with_reducible refine gate_callee (f := 37) rfl ?_); refine goesL_ (some 20) rfl rfl Tryd.func37 (by kernel_rfl) rfl #[.string ((rd_T40 l0 x13_1).f0)] rfl (by (try simp only [List.map_toArray, List.map_cons, List.map_nil]); first | done | rfl | (simp only [List.length_drop, List.length_take]; rfl)) ?_; (with_reducible refine (vars_find.calls k1 ((rd_T40 l0 x13_1).f0) t17003 t17004 t17005 t17006 true _ A5.out).mono ?_); rintro e w42 ⟨rfl, hb⟩; refine ⟨_, rfl, ?_⟩; have n0_ := Aside0.mk (blk_below (g := gb17002) (o := .cells #[.string ((rd_T40 l0 x13_1).f0), .string ((rd_T40 l0 x13_1).f1)] 40 (0, 0)) (by (with_reducible repeat (first | refine blk_drewN ?_ _ | refine blk_drew ?_ | refine blk_alloc ?_ _)); refine blk_put (cs := #[.string ((rd_T40 l0 x13_1).f0), .string (⟨#[]⟩ : ByteArray)]) ?_ 1 _ rfl; (with_reducible repeat (first | refine blk_drewN ?_ _ | refine blk_drew ?_ | refine blk_alloc ?_ _)); refine blk_put (cs := #[.string (⟨#[]⟩ : ByteArray), .string (⟨#[]⟩ : ByteArray)]) ?_ 0 _ rfl; (with_reducible repeat (first | refine blk_drewN ?_ _ | refine blk_drew ?_ | refine blk_alloc ?_ _)); exact BK17002.out) hb); have n1_ := Aside0.mk (below_step (by repeat (first | (with_reducible first | exact HB.out | apply below_alloc | apply pw_below_drewN | apply below_drew1 | refine below_set ?_ GE17002.out) | exact HB.out)) hb); clear BK17002; clear HB; have BK17002 := n0_; have HB := n1_; clear n0_ n1_; (try clear hb); (try clear hb2); (try clear hk); (try clear hi)) | ((with_reducible refine gate_dst (N := 6) rfl ?_); refine box_event ?hg (N := 6) ?hd (cs := #[.string (⟨#[]⟩ : ByteArray), .int .i64 0, .string (⟨#[]⟩ : ByteArray)]) (t := 57) ?hr ?_; (case hd => rfl); (case hg => rfl); (case hr => first | (go_simp; done) | (go_simp; rfl)); intro gb17008 hg w43 hbox hb; have n0_ := Aside0.mk (blk_below (g := gb17002) (o := .cells #[.string ((rd_T40 l0 x13_1).f0), .string ((rd_T40 l0 x13_1).f1)] 40 (0, 0)) (by (with_reducible repeat (first | refine blk_drewN ?_ _ | refine blk_drew ?_ | refine blk_alloc ?_ _)); exact BK17002.out) hb); have n1_ := Aside0.mk (below_step (by repeat (first | (with_reducible first | exact HB.out | apply below_alloc | apply pw_below_drewN | apply below_drew1 | refine below_set ?_ GE17002.out) | exact HB.out)) hb); have n2_ := Aside0.mk (hbox); have n3_ := Aside0.mk ((by rw [hg]; exact (below_size (by repeat (first | (with_reducible first | exact HB.out | apply below_alloc | apply pw_below_drewN | apply below_drew1 | refine below_set ?_ GE17002.out) | exact HB.out))) : w.heap.size ≤ gb17008)); have n4_ := Aside0.mk ((by rw [hg]; exact (below_size (by repeat (first | (with_reducible first | exact HB.out | apply below_alloc | apply pw_below_drewN | apply below_drew1 | refine below_set ?_ GE17002.out) | exact HB.out))) : w.heap.size ≤ gb17008)); have n5_ := Aside0.mk ((by rw [hg]; exact Nat.ne_of_lt (blk_lt (g := gb17002) (o := .cells #[.string ((rd_T40 l0 x13_1).f0), .string ((rd_T40 l0 x13_1).f1)] 40 (0, 0)) (by (with_reducible repeat (first | refine blk_drewN ?_ _ | refine blk_drew ?_ | refine blk_alloc ?_ _)); exact BK17002.out)) : gb17002 ≠ gb17008)); have n6_ := Aside0.mk ((by rw [hg]; exact Nat.ne_of_gt (blk_lt (g := gb17002) (o := .cells #[.string ((rd_T40 l0 x13_1).f0), .string ((rd_T40 l0 x13_1).f1)] 40 (0, 0)) (by (with_reducible repeat (first | refine blk_drewN ?_ _ | refine blk_drew ?_ | refine blk_alloc ?_ _)); exact BK17002.out)) : gb17008 ≠ gb17002)); clear BK17002; clear HB; have BK17002 := n0_; have HB := n1_; have BK17008 := n2_; have GW17008 := n3_; have GE17008 := n4_; have NB17002_17008 := n5_; have NB17008_17002 := n6_; clear n0_ n1_ n2_ n3_ n4_ n5_ n6_; clear hb hbox hg; have hnb44 := NB17008_17002.out; have hnc44 := NB17002_17008.out; have hcz45_0 : w43.cell? ⟨gb17008, 0, none⟩ = some (.string (⟨#[]⟩ : ByteArray)) := (blk_cell BK17008.out 0).trans rfl; have hcz45_1 : w43.cell? ⟨gb17008, 1, none⟩ = some (.int .i64 0) := (blk_cell BK17008.out 1).trans rfl; have hcz45_2 : w43.cell? ⟨gb17008, 2, none⟩ = some (.string (⟨#[]⟩ : ByteArray)) := (blk_cell BK17008.out 2).trans rfl; have hfz45_0 := blk_frozen BK17008.out 0; have hfz45_1 := blk_frozen BK17008.out 1; have hfz45_2 := blk_frozen BK17008.out 2; have hcz46_0 : w43.cell? ⟨gb17002, 0, none⟩ = some (.string ((rd_T40 l0 x13_1).f0)) := (blk_cell BK17002.out 0).trans rfl; have hcz46_1 : w43.cell? ⟨gb17002, 1, none⟩ = some (.string ((rd_T40 l0 x13_1).f1)) := (blk_cell BK17002.out 1).trans rfl; have hfz46_0 := blk_frozen BK17002.out 0; have hfz46_1 := blk_frozen BK17002.out 1) | ((with_reducible refine gate_callee (f := 45) rfl ?_); refine goesL_ (some 28) rfl rfl Tryd.func45 (by kernel_rfl) rfl #[.agg #[.string t17003, .int .i64 t17004, .string t17005], .string ((rd_T40 l0 x13_1).f1)] rfl (by (try simp only [List.map_toArray, List.map_cons, List.map_nil]); first | done | rfl | (simp only [List.length_drop, List.length_take]; rfl)) ?_; (with_reducible refine (vars_variable_form.calls k1 t17003 t17004 t17005 ((rd_T40 l0 x13_1).f1) t17009 true _ (Tabs.below ht (by repeat (first | (with_reducible first | exact HB.out | apply below_alloc | apply pw_below_drewN | apply below_drew1 | refine below_set ?_ (Aside0.out (by assumption))) | exact HB.out))) A6.out).mono ?_); rintro e w47 ⟨rfl, hb⟩; refine ⟨_, rfl, ?_⟩; have n0_ := Aside0.mk (blk_below (g := gb17002) (o := .cells #[.string ((rd_T40 l0 x13_1).f0), .string ((rd_T40 l0 x13_1).f1)] 40 (0, 0)) (by (with_reducible repeat (first | refine blk_drewN ?_ _ | refine blk_drew ?_ | refine blk_alloc ?_ _)); refine blk_far ?_ NB17002_17008.out _; (with_reducible repeat (first | refine blk_drewN ?_ _ | refine blk_drew ?_ | refine blk_alloc ?_ _)); refine blk_far ?_ NB17002_17008.out _; (with_reducible repeat (first | refine blk_drewN ?_ _ | refine blk_drew ?_ | refine blk_alloc ?_ _)); refine blk_far ?_ NB17002_17008.out _; (with_reducible repeat (first | refine blk_drewN ?_ _ | refine blk_drew ?_ | refine blk_alloc ?_ _)); exact BK17002.out) hb); have n1_ := Aside0.mk (blk_below (g := gb17008) (o := .cells #[.string t17003, .int .i64 t17004, .string t17005] 57 (0, 0)) (by (with_reducible repeat (first | refine blk_drewN ?_ _ | refine blk_drew ?_ | refine blk_alloc ?_ _)); refine blk_put (cs := #[.string t17003, .int .i64 t17004, .string (⟨#[]⟩ : ByteArray)]) ?_ 2 _ rfl; (with_reducible repeat (first | refine blk_drewN ?_ _ | refine blk_drew ?_ | refine blk_alloc ?_ _)); refine blk_put (cs := #[.string t17003, .int .i64 0, .string (⟨#[]⟩ : ByteArray)]) ?_ 1 _ rfl; (with_reducible repeat (first | refine blk_drewN ?_ _ | refine blk_drew ?_ | refine blk_alloc ?_ _)); refine blk_put (cs := #[.string (⟨#[]⟩ : ByteArray), .int .i64 0, .string (⟨#[]⟩ : ByteArray)]) ?_ 0 _ rfl; (with_reducible repeat (first | refine blk_drewN ?_ _ | refine blk_drew ?_ | refine blk_alloc ?_ _)); exact BK17008.out) hb); have n2_ := Aside0.mk (below_step (by repeat (first | (with_reducible first | exact HB.out | apply below_alloc | apply pw_below_drewN | apply below_drew1 | refine below_set ?_ GE17002.out | refine below_set ?_ GE17008.out) | exact HB.out)) hb); clear BK17002; clear BK17008; clear HB; have BK17002 := n0_; have BK17008 := n1_; have HB := n2_; clear n0_ n1_ n2_; (try clear hb); (try clear hb2); (try clear hk); (try clear hi); have hcz48_0 : w47.cell? ⟨gb17002, 0, none⟩ = some (.string ((rd_T40 l0 x13_1).f0)) := (blk_cell BK17002.out 0).trans rfl; have hcz48_1 : w47.cell? ⟨gb17002, 1, none⟩ = some (.string ((rd_T40 l0 x13_1).f1)) := (blk_cell BK17002.out 1).trans rfl; have hfz48_0 := blk_frozen BK17002.out 0; have hfz48_1 := blk_frozen BK17002.out 1))
                    go_ret
                    exact ⟨by first | rfl | (simp [errW_none, errW_some] <;> rfl) | (simp [*, errW_none, errW_some] <;> rfl), by repeat (first | (with_reducible first | exact HB.out | apply below_alloc | apply pw_below_drewN | apply below_drew1 | refine below_set ?_ GE17002.out | refine below_set ?_ GE17008.out) | exact HB.out)⟩
              · replace c8 := Bool.eq_false_iff.mpr c8
                subst c8
                have H1 : (some false) = some r := by rw [if_neg (show ¬ (false = true) by decide)] at H; exact H
                clear H
                have H := H1
                clear H1
                obtain rfl := Option.some.inj H
                have p17001 : 0 ≤ (x13_1 : Int) := of_decide_eq_true (by first | (with_reducible assumption) | assumption)
                have q17001 : x13_1 < (l0.length : Int) := of_decide_eq_true (by first | (with_reducible assumption) | assumption)
                obtain ⟨ad17001, e17001, hx17001_0, hx17001_1⟩ := at_T40 HR0.out x13_1 p17001 q17001
                cases e17001
                replace hx17001_0 := (HB.out.cell (World.block_lt_of_cell? w _ hx17001_0)).trans hx17001_0
                replace hx17001_1 := (HB.out.cell (World.block_lt_of_cell? w _ hx17001_1)).trans hx17001_1
                replace p17001 := eq_true p17001
                replace q17001 := eq_true q17001
                go_wp2_with (first | ((with_reducible refine gate_dst (N := 5) rfl ?_); refine box_event ?hg (N := 5) ?hd (cs := #[.string (⟨#[]⟩ : ByteArray), .string (⟨#[]⟩ : ByteArray)]) (t := 40) ?hr ?_; (case hd => rfl); (case hg => rfl); (case hr => first | (go_simp; done) | (go_simp; rfl)); intro gb17002 hg w49 hbox hb; have n0_ := Aside0.mk (below_step (by repeat (first | (with_reducible first | exact HB.out | apply below_alloc | apply pw_below_drewN | apply below_drew1) | exact HB.out)) hb); have n1_ := Aside0.mk (hbox); have n2_ := Aside0.mk ((by rw [hg]; exact (below_size (by repeat (first | (with_reducible first | exact HB.out | apply below_alloc | apply pw_below_drewN | apply below_drew1) | exact HB.out))) : w.heap.size ≤ gb17002)); have n3_ := Aside0.mk ((by rw [hg]; exact (below_size (by repeat (first | (with_reducible first | exact HB.out | apply below_alloc | apply pw_below_drewN | apply below_drew1) | exact HB.out))) : w.heap.size ≤ gb17002)); clear HB; have HB := n0_; have BK17002 := n1_; have GW17002 := n2_; have GE17002 := n3_; clear n0_ n1_ n2_ n3_; clear hb hbox hg; have hcz50_0 : w49.cell? ⟨gb17002, 0, none⟩ = some (.string (⟨#[]⟩ : ByteArray)) := (blk_cell BK17002.out 0).trans rfl; have hcz50_1 : w49.cell? ⟨gb17002, 1, none⟩ = some (.string (⟨#[]⟩ : ByteArray)) := (blk_cell BK17002.out 1).trans rfl; have hfz50_0 := blk_frozen BK17002.out 0; have hfz50_1 := blk_frozen BK17002.out 1) | ((with_reducible refine gate_callee (f := 37) rfl ?_); refine goesL_ (some 20) rfl rfl Tryd.func37 (by kernel_rfl) rfl #[.string ((rd_T40 l0 x13_1).f0)] rfl (by (try simp only [List.map_toArray, List.map_cons, List.map_nil]); first | done | rfl | (simp only [List.length_drop, List.length_take]; rfl)) ?_; (with_reducible refine (vars_find.calls k1 ((rd_T40 l0 x13_1).f0) t17003 t17004 t17005 t17006 true _ A5.out).mono ?_); rintro e w51 ⟨rfl, hb⟩; refine ⟨_, rfl, ?_⟩; have n0_ := Aside0.mk (blk_below (g := gb17002) (o := .cells #[.string ((rd_T40 l0 x13_1).f0), .string ((rd_T40 l0 x13_1).f1)] 40 (0, 0)) (by (with_reducible repeat (first | refine blk_drewN ?_ _ | refine blk_drew ?_ | refine blk_alloc ?_ _)); refine blk_put (cs := #[.string ((rd_T40 l0 x13_1).f0), .string (⟨#[]⟩ : ByteArray)]) ?_ 1 _ rfl; (with_reducible repeat (first | refine blk_drewN ?_ _ | refine blk_drew ?_ | refine blk_alloc ?_ _)); refine blk_put (cs := #[.string (⟨#[]⟩ : ByteArray), .string (⟨#[]⟩ : ByteArray)]) ?_ 0 _ rfl; (with_reducible repeat (first | refine blk_drewN ?_ _ | refine blk_drew ?_ | refine blk_alloc ?_ _)); exact BK17002.out) hb); have n1_ := Aside0.mk (below_step (by repeat (first | (with_reducible first | exact HB.out | apply below_alloc | apply pw_below_drewN | apply below_drew1 | refine below_set ?_ GE17002.out) | exact HB.out)) hb); clear BK17002; clear HB; have BK17002 := n0_; have HB := n1_; clear n0_ n1_; (try clear hb); (try clear hb2); (try clear hk); (try clear hi)) | ((with_reducible refine gate_dst (N := 6) rfl ?_); refine box_event ?hg (N := 6) ?hd (cs := #[.string (⟨#[]⟩ : ByteArray), .int .i64 0, .string (⟨#[]⟩ : ByteArray)]) (t := 57) ?hr ?_; (case hd => rfl); (case hg => rfl); (case hr => first | (go_simp; done) | (go_simp; rfl)); intro gb17008 hg w52 hbox hb; have n0_ := Aside0.mk (blk_below (g := gb17002) (o := .cells #[.string ((rd_T40 l0 x13_1).f0), .string ((rd_T40 l0 x13_1).f1)] 40 (0, 0)) (by (with_reducible repeat (first | refine blk_drewN ?_ _ | refine blk_drew ?_ | refine blk_alloc ?_ _)); exact BK17002.out) hb); have n1_ := Aside0.mk (below_step (by repeat (first | (with_reducible first | exact HB.out | apply below_alloc | apply pw_below_drewN | apply below_drew1 | refine below_set ?_ GE17002.out) | exact HB.out)) hb); have n2_ := Aside0.mk (hbox); have n3_ := Aside0.mk ((by rw [hg]; exact (below_size (by repeat (first | (with_reducible first | exact HB.out | apply below_alloc | apply pw_below_drewN | apply below_drew1 | refine below_set ?_ GE17002.out) | exact HB.out))) : w.heap.size ≤ gb17008)); have n4_ := Aside0.mk ((by rw [hg]; exact (below_size (by repeat (first | (with_reducible first | exact HB.out | apply below_alloc | apply pw_below_drewN | apply below_drew1 | refine below_set ?_ GE17002.out) | exact HB.out))) : w.heap.size ≤ gb17008)); have n5_ := Aside0.mk ((by rw [hg]; exact Nat.ne_of_lt (blk_lt (g := gb17002) (o := .cells #[.string ((rd_T40 l0 x13_1).f0), .string ((rd_T40 l0 x13_1).f1)] 40 (0, 0)) (by (with_reducible repeat (first | refine blk_drewN ?_ _ | refine blk_drew ?_ | refine blk_alloc ?_ _)); exact BK17002.out)) : gb17002 ≠ gb17008)); have n6_ := Aside0.mk ((by rw [hg]; exact Nat.ne_of_gt (blk_lt (g := gb17002) (o := .cells #[.string ((rd_T40 l0 x13_1).f0), .string ((rd_T40 l0 x13_1).f1)] 40 (0, 0)) (by (with_reducible repeat (first | refine blk_drewN ?_ _ | refine blk_drew ?_ | refine blk_alloc ?_ _)); exact BK17002.out)) : gb17008 ≠ gb17002)); clear BK17002; clear HB; have BK17002 := n0_; have HB := n1_; have BK17008 := n2_; have GW17008 := n3_; have GE17008 := n4_; have NB17002_17008 := n5_; have NB17008_17002 := n6_; clear n0_ n1_ n2_ n3_ n4_ n5_ n6_; clear hb hbox hg; have hnb53 := NB17008_17002.out; have hnc53 := NB17002_17008.out; have hcz54_0 : w52.cell? ⟨gb17008, 0, none⟩ = some (.string (⟨#[]⟩ : ByteArray)) := (blk_cell BK17008.out 0).trans rfl; have hcz54_1 : w52.cell? ⟨gb17008, 1, none⟩ = some (.int .i64 0) := (blk_cell BK17008.out 1).trans rfl; have hcz54_2 : w52.cell? ⟨gb17008, 2, none⟩ = some (.string (⟨#[]⟩ : ByteArray)) := (blk_cell BK17008.out 2).trans rfl; have hfz54_0 := blk_frozen BK17008.out 0; have hfz54_1 := blk_frozen BK17008.out 1; have hfz54_2 := blk_frozen BK17008.out 2; have hcz55_0 : w52.cell? ⟨gb17002, 0, none⟩ = some (.string ((rd_T40 l0 x13_1).f0)) := (blk_cell BK17002.out 0).trans rfl; have hcz55_1 : w52.cell? ⟨gb17002, 1, none⟩ = some (.string ((rd_T40 l0 x13_1).f1)) := (blk_cell BK17002.out 1).trans rfl; have hfz55_0 := blk_frozen BK17002.out 0; have hfz55_1 := blk_frozen BK17002.out 1) | ((with_reducible refine gate_callee (f := 45) rfl ?_); refine goesL_ (some 28) rfl rfl Tryd.func45 (by kernel_rfl) rfl #[.agg #[.string t17003, .int .i64 t17004, .string t17005], .string ((rd_T40 l0 x13_1).f1)] rfl (by (try simp only [List.map_toArray, List.map_cons, List.map_nil]); first | done | rfl | (simp only [List.length_drop, List.length_take]; rfl)) ?_; (with_reducible refine (vars_variable_form.calls k1 t17003 t17004 t17005 ((rd_T40 l0 x13_1).f1) t17009 false _ (Tabs.below ht (by repeat (first | (with_reducible first | exact HB.out | apply below_alloc | apply pw_below_drewN | apply below_drew1 | refine below_set ?_ (Aside0.out (by assumption))) | exact HB.out))) A6.out).mono ?_); rintro e w56 ⟨rfl, hb⟩; refine ⟨_, rfl, ?_⟩; have n0_ := Aside0.mk (blk_below (g := gb17002) (o := .cells #[.string ((rd_T40 l0 x13_1).f0), .string ((rd_T40 l0 x13_1).f1)] 40 (0, 0)) (by (with_reducible repeat (first | refine blk_drewN ?_ _ | refine blk_drew ?_ | refine blk_alloc ?_ _)); refine blk_far ?_ NB17002_17008.out _; (with_reducible repeat (first | refine blk_drewN ?_ _ | refine blk_drew ?_ | refine blk_alloc ?_ _)); refine blk_far ?_ NB17002_17008.out _; (with_reducible repeat (first | refine blk_drewN ?_ _ | refine blk_drew ?_ | refine blk_alloc ?_ _)); refine blk_far ?_ NB17002_17008.out _; (with_reducible repeat (first | refine blk_drewN ?_ _ | refine blk_drew ?_ | refine blk_alloc ?_ _)); exact BK17002.out) hb); have n1_ := Aside0.mk (blk_below (g := gb17008) (o := .cells #[.string t17003, .int .i64 t17004, .string t17005] 57 (0, 0)) (by (with_reducible repeat (first | refine blk_drewN ?_ _ | refine blk_drew ?_ | refine blk_alloc ?_ _)); refine blk_put (cs := #[.string t17003, .int .i64 t17004, .string (⟨#[]⟩ : ByteArray)]) ?_ 2 _ rfl; (with_reducible repeat (first | refine blk_drewN ?_ _ | refine blk_drew ?_ | refine blk_alloc ?_ _)); refine blk_put (cs := #[.string t17003, .int .i64 0, .string (⟨#[]⟩ : ByteArray)]) ?_ 1 _ rfl; (with_reducible repeat (first | refine blk_drewN ?_ _ | refine blk_drew ?_ | refine blk_alloc ?_ _)); refine blk_put (cs := #[.string (⟨#[]⟩ : ByteArray), .int .i64 0, .string (⟨#[]⟩ : ByteArray)]) ?_ 0 _ rfl; (with_reducible repeat (first | refine blk_drewN ?_ _ | refine blk_drew ?_ | refine blk_alloc ?_ _)); exact BK17008.out) hb); have n2_ := Aside0.mk (below_step (by repeat (first | (with_reducible first | exact HB.out | apply below_alloc | apply pw_below_drewN | apply below_drew1 | refine below_set ?_ GE17002.out | refine below_set ?_ GE17008.out) | exact HB.out)) hb); clear BK17002; clear BK17008; clear HB; have BK17002 := n0_; have BK17008 := n1_; have HB := n2_; clear n0_ n1_ n2_; (try clear hb); (try clear hb2); (try clear hk); (try clear hi)))
                go_ret
                exact ⟨by first | rfl | (simp [errW_none, errW_some] <;> rfl) | (simp [*, errW_none, errW_some] <;> rfl), by repeat (first | (with_reducible first | exact HB.out | apply below_alloc | apply pw_below_drewN | apply below_drew1 | refine below_set ?_ GE17002.out | refine below_set ?_ GE17008.out) | exact HB.out)⟩
            · replace c7 := Bool.eq_false_iff.mpr c7
              subst c7
              have H1 : (some false) = some r := by rw [if_neg (show ¬ (false = true) by decide)] at H; exact H
              clear H
              have H := H1
              clear H1
              obtain rfl := Option.some.inj H
              have p17001 : 0 ≤ (x13_1 : Int) := of_decide_eq_true (by first | (with_reducible assumption) | assumption)
              have q17001 : x13_1 < (l0.length : Int) := of_decide_eq_true (by first | (with_reducible assumption) | assumption)
              obtain ⟨ad17001, e17001, hx17001_0, hx17001_1⟩ := at_T40 HR0.out x13_1 p17001 q17001
              cases e17001
              replace hx17001_0 := (HB.out.cell (World.block_lt_of_cell? w _ hx17001_0)).trans hx17001_0
              replace hx17001_1 := (HB.out.cell (World.block_lt_of_cell? w _ hx17001_1)).trans hx17001_1
              replace p17001 := eq_true p17001
              replace q17001 := eq_true q17001
              go_wp2_with (first | ((with_reducible refine gate_dst (N := 5) rfl ?_); refine box_event ?hg (N := 5) ?hd (cs := #[.string (⟨#[]⟩ : ByteArray), .string (⟨#[]⟩ : ByteArray)]) (t := 40) ?hr ?_; (case hd => rfl); (case hg => rfl); (case hr => first | (go_simp; done) | (go_simp; rfl)); intro gb17002 hg w57 hbox hb; have n0_ := Aside0.mk (below_step (by repeat (first | (with_reducible first | exact HB.out | apply below_alloc | apply pw_below_drewN | apply below_drew1) | exact HB.out)) hb); have n1_ := Aside0.mk (hbox); have n2_ := Aside0.mk ((by rw [hg]; exact (below_size (by repeat (first | (with_reducible first | exact HB.out | apply below_alloc | apply pw_below_drewN | apply below_drew1) | exact HB.out))) : w.heap.size ≤ gb17002)); have n3_ := Aside0.mk ((by rw [hg]; exact (below_size (by repeat (first | (with_reducible first | exact HB.out | apply below_alloc | apply pw_below_drewN | apply below_drew1) | exact HB.out))) : w.heap.size ≤ gb17002)); clear HB; have HB := n0_; have BK17002 := n1_; have GW17002 := n2_; have GE17002 := n3_; clear n0_ n1_ n2_ n3_; clear hb hbox hg; have hcz58_0 : w57.cell? ⟨gb17002, 0, none⟩ = some (.string (⟨#[]⟩ : ByteArray)) := (blk_cell BK17002.out 0).trans rfl; have hcz58_1 : w57.cell? ⟨gb17002, 1, none⟩ = some (.string (⟨#[]⟩ : ByteArray)) := (blk_cell BK17002.out 1).trans rfl; have hfz58_0 := blk_frozen BK17002.out 0; have hfz58_1 := blk_frozen BK17002.out 1) | ((with_reducible refine gate_callee (f := 37) rfl ?_); refine goesL_ (some 20) rfl rfl Tryd.func37 (by kernel_rfl) rfl #[.string ((rd_T40 l0 x13_1).f0)] rfl (by (try simp only [List.map_toArray, List.map_cons, List.map_nil]); first | done | rfl | (simp only [List.length_drop, List.length_take]; rfl)) ?_; (with_reducible refine (vars_find.calls k1 ((rd_T40 l0 x13_1).f0) t17003 t17004 t17005 t17006 false _ A5.out).mono ?_); rintro e w59 ⟨rfl, hb⟩; refine ⟨_, rfl, ?_⟩; have n0_ := Aside0.mk (blk_below (g := gb17002) (o := .cells #[.string ((rd_T40 l0 x13_1).f0), .string ((rd_T40 l0 x13_1).f1)] 40 (0, 0)) (by (with_reducible repeat (first | refine blk_drewN ?_ _ | refine blk_drew ?_ | refine blk_alloc ?_ _)); refine blk_put (cs := #[.string ((rd_T40 l0 x13_1).f0), .string (⟨#[]⟩ : ByteArray)]) ?_ 1 _ rfl; (with_reducible repeat (first | refine blk_drewN ?_ _ | refine blk_drew ?_ | refine blk_alloc ?_ _)); refine blk_put (cs := #[.string (⟨#[]⟩ : ByteArray), .string (⟨#[]⟩ : ByteArray)]) ?_ 0 _ rfl; (with_reducible repeat (first | refine blk_drewN ?_ _ | refine blk_drew ?_ | refine blk_alloc ?_ _)); exact BK17002.out) hb); have n1_ := Aside0.mk (below_step (by repeat (first | (with_reducible first | exact HB.out | apply below_alloc | apply pw_below_drewN | apply below_drew1 | refine below_set ?_ GE17002.out) | exact HB.out)) hb); clear BK17002; clear HB; have BK17002 := n0_; have HB := n1_; clear n0_ n1_; (try clear hb); (try clear hb2); (try clear hk); (try clear hi)) | ((with_reducible refine gate_dst (N := 6) rfl ?_); refine box_event ?hg (N := 6) ?hd (cs := #[.string (⟨#[]⟩ : ByteArray), .int .i64 0, .string (⟨#[]⟩ : ByteArray)]) (t := 57) ?hr ?_; (case hd => rfl); (case hg => rfl); (case hr => first | (go_simp; done) | (go_simp; rfl)); intro gb17008 hg w60 hbox hb; have n0_ := Aside0.mk (blk_below (g := gb17002) (o := .cells #[.string ((rd_T40 l0 x13_1).f0), .string ((rd_T40 l0 x13_1).f1)] 40 (0, 0)) (by (with_reducible repeat (first | refine blk_drewN ?_ _ | refine blk_drew ?_ | refine blk_alloc ?_ _)); exact BK17002.out) hb); have n1_ := Aside0.mk (below_step (by repeat (first | (with_reducible first | exact HB.out | apply below_alloc | apply pw_below_drewN | apply below_drew1 | refine below_set ?_ GE17002.out) | exact HB.out)) hb); have n2_ := Aside0.mk (hbox); have n3_ := Aside0.mk ((by rw [hg]; exact (below_size (by repeat (first | (with_reducible first | exact HB.out | apply below_alloc | apply pw_below_drewN | apply below_drew1 | refine below_set ?_ GE17002.out) | exact HB.out))) : w.heap.size ≤ gb17008)); have n4_ := Aside0.mk ((by rw [hg]; exact (below_size (by repeat (first | (with_reducible first | exact HB.out | apply below_alloc | apply pw_below_drewN | apply below_drew1 | refine below_set ?_ GE17002.out) | exact HB.out))) : w.heap.size ≤ gb17008)); have n5_ := Aside0.mk ((by rw [hg]; exact Nat.ne_of_lt (blk_lt (g := gb17002) (o := .cells #[.string ((rd_T40 l0 x13_1).f0), .string ((rd_T40 l0 x13_1).f1)] 40 (0, 0)) (by (with_reducible repeat (first | refine blk_drewN ?_ _ | refine blk_drew ?_ | refine blk_alloc ?_ _)); exact BK17002.out)) : gb17002 ≠ gb17008)); have n6_ := Aside0.mk ((by rw [hg]; exact Nat.ne_of_gt (blk_lt (g := gb17002) (o := .cells #[.string ((rd_T40 l0 x13_1).f0), .string ((rd_T40 l0 x13_1).f1)] 40 (0, 0)) (by (with_reducible repeat (first | refine blk_drewN ?_ _ | refine blk_drew ?_ | refine blk_alloc ?_ _)); exact BK17002.out)) : gb17008 ≠ gb17002)); clear BK17002; clear HB; have BK17002 := n0_; have HB := n1_; have BK17008 := n2_; have GW17008 := n3_; have GE17008 := n4_; have NB17002_17008 := n5_; have NB17008_17002 := n6_; clear n0_ n1_ n2_ n3_ n4_ n5_ n6_; clear hb hbox hg; have hnb61 := NB17008_17002.out; have hnc61 := NB17002_17008.out; have hcz62_0 : w60.cell? ⟨gb17008, 0, none⟩ = some (.string (⟨#[]⟩ : ByteArray)) := (blk_cell BK17008.out 0).trans rfl; have hcz62_1 : w60.cell? ⟨gb17008, 1, none⟩ = some (.int .i64 0) := (blk_cell BK17008.out 1).trans rfl; have hcz62_2 : w60.cell? ⟨gb17008, 2, none⟩ = some (.string (⟨#[]⟩ : ByteArray)) := (blk_cell BK17008.out 2).trans rfl; have hfz62_0 := blk_frozen BK17008.out 0; have hfz62_1 := blk_frozen BK17008.out 1; have hfz62_2 := blk_frozen BK17008.out 2; have hcz63_0 : w60.cell? ⟨gb17002, 0, none⟩ = some (.string ((rd_T40 l0 x13_1).f0)) := (blk_cell BK17002.out 0).trans rfl; have hcz63_1 : w60.cell? ⟨gb17002, 1, none⟩ = some (.string ((rd_T40 l0 x13_1).f1)) := (blk_cell BK17002.out 1).trans rfl; have hfz63_0 := blk_frozen BK17002.out 0; have hfz63_1 := blk_frozen BK17002.out 1) | ((with_reducible refine gate_callee (f := 45) rfl ?_); refine goesL_ (some 28) rfl rfl Tryd.func45 (by kernel_rfl) rfl #[.agg #[.string t17003, .int .i64 t17004, .string t17005], .string ((rd_T40 l0 x13_1).f1)] rfl (by (try simp only [List.map_toArray, List.map_cons, List.map_nil]); first | done | rfl | (simp only [List.length_drop, List.length_take]; rfl)) ?_; (with_reducible refine (vars_variable_form.calls k1 t17003 t17004 t17005 ((rd_T40 l0 x13_1).f1) t17009 t17010 _ (Tabs.below ht (by repeat (first | (with_reducible first | exact HB.out | apply below_alloc | apply pw_below_drewN | apply below_drew1 | refine below_set ?_ (Aside0.out (by assumption))) | exact HB.out))) A6.out).mono ?_); rintro e w64 ⟨rfl, hb⟩; refine ⟨_, rfl, ?_⟩; have n0_ := Aside0.mk (blk_below (g := gb17002) (o := .cells #[.string ((rd_T40 l0 x13_1).f0), .string ((rd_T40 l0 x13_1).f1)] 40 (0, 0)) (by (with_reducible repeat (first | refine blk_drewN ?_ _ | refine blk_drew ?_ | refine blk_alloc ?_ _)); refine blk_far ?_ NB17002_17008.out _; (with_reducible repeat (first | refine blk_drewN ?_ _ | refine blk_drew ?_ | refine blk_alloc ?_ _)); refine blk_far ?_ NB17002_17008.out _; (with_reducible repeat (first | refine blk_drewN ?_ _ | refine blk_drew ?_ | refine blk_alloc ?_ _)); refine blk_far ?_ NB17002_17008.out _; (with_reducible repeat (first | refine blk_drewN ?_ _ | refine blk_drew ?_ | refine blk_alloc ?_ _)); exact BK17002.out) hb); have n1_ := Aside0.mk (blk_below (g := gb17008) (o := .cells #[.string t17003, .int .i64 t17004, .string t17005] 57 (0, 0)) (by (with_reducible repeat (first | refine blk_drewN ?_ _ | refine blk_drew ?_ | refine blk_alloc ?_ _)); refine blk_put (cs := #[.string t17003, .int .i64 t17004, .string (⟨#[]⟩ : ByteArray)]) ?_ 2 _ rfl; (with_reducible repeat (first | refine blk_drewN ?_ _ | refine blk_drew ?_ | refine blk_alloc ?_ _)); refine blk_put (cs := #[.string t17003, .int .i64 0, .string (⟨#[]⟩ : ByteArray)]) ?_ 1 _ rfl; (with_reducible repeat (first | refine blk_drewN ?_ _ | refine blk_drew ?_ | refine blk_alloc ?_ _)); refine blk_put (cs := #[.string (⟨#[]⟩ : ByteArray), .int .i64 0, .string (⟨#[]⟩ : ByteArray)]) ?_ 0 _ rfl; (with_reducible repeat (first | refine blk_drewN ?_ _ | refine blk_drew ?_ | refine blk_alloc ?_ _)); exact BK17008.out) hb); have n2_ := Aside0.mk (below_step (by repeat (first | (with_reducible first | exact HB.out | apply below_alloc | apply pw_below_drewN | apply below_drew1 | refine below_set ?_ GE17002.out | refine below_set ?_ GE17008.out) | exact HB.out)) hb); clear BK17002; clear BK17008; clear HB; have BK17002 := n0_; have BK17008 := n1_; have HB := n2_; clear n0_ n1_ n2_; (try clear hb); (try clear hb2); (try clear hk); (try clear hi)))
              go_ret
              exact ⟨by first | rfl | (simp [errW_none, errW_some] <;> rfl) | (simp [*, errW_none, errW_some] <;> rfl), by repeat (first | (with_reducible first | exact HB.out | apply below_alloc | apply pw_below_drewN | apply below_drew1 | refine below_set ?_ GE17002.out | refine below_set ?_ GE17008.out) | exact HB.out)⟩
          · rw [if_neg c4] at H
            exact absurd H (by simp)
        · rw [if_neg c3] at H
          exact absurd H (by simp)
      · rw [if_neg c2] at H
        have c2b0 : decide (x13_1 < (l0.length : Int)) = false := decide_eq_false c2
        clear c2
        obtain rfl := Option.some.inj H
        go_wp2
        go_ret
        exact ⟨by first | rfl | (simp [errW_none, errW_some] <;> rfl) | (simp [*, errW_none, errW_some] <;> rfl), by repeat (first | (with_reducible first | exact HB.out | apply below_alloc | apply pw_below_drewN | apply below_drew1) | exact HB.out)⟩

end Go.Proofs.YtefhngadeimklaaDoor.Q
end
section
namespace Go.Proofs.YtefhngadeimklaaDoor.Q
open Go.RowKit Go.Proofs.YtefhngadeimklaaDoorW.PrintWords Go.Proofs.YtefhngadeimklaaDoorW.PrintLast Go.Proofs.YtefhngadeimklaaDoorW.PrintMore
set_option linter.unusedVariables false
set_option linter.unusedSimpArgs false

attribute [local go_sem] max2_int min2_int max_two min_two max_three min_three max_four min_four
/-! ### vars_Form: function 17 -/
def vars_Form.f (k : Nat) (a0 : ByteArray) (a1 : ByteArray) : Option (ByteArray × Int) := (vars_find.f k a0).bind fun bt18001 => (if bt18001.2.2.2.2 = true then ((vars_variable_form.f k bt18001.1 bt18001.2.1 bt18001.2.2.1 a1).bind fun bt18007 => (if bt18007.2 = true then (some (bt18007.1, 0)) else (some ((⟨#[]⟩ : ByteArray), 27)))) else (some ((⟨#[]⟩ : ByteArray), 2)))
set_option maxHeartbeats 8000000 in
set_option maxRecDepth 100000 in
theorem vars_Form.calls (k : Nat) (a0 : ByteArray) (a1 : ByteArray) (r1 : ByteArray) (r2 : Int) (w : World) (ht : Tabs w) (h : vars_Form.f k a0 a1 = some (r1, r2)) :
    Calls Tryd.prog 17 #[.string a0, .string a1] w fun e w' => e = .returned (.tuple #[.string r1, .int .i64 r2]) ∧ Below w.heap.size w w' := by
  have hu57 := Tryd.underlying57
  have HB := Aside0.mk (Below.refl w.heap.size w)
  have H : ((vars_find.f k a0).bind fun bt18001 => (if bt18001.2.2.2.2 = true then ((vars_variable_form.f k bt18001.1 bt18001.2.1 bt18001.2.2.1 a1).bind fun bt18007 => (if bt18007.2 = true then (some (bt18007.1, 0)) else (some ((⟨#[]⟩ : ByteArray), 27)))) else (some ((⟨#[]⟩ : ByteArray), 2)))) = some (r1, r2) := h
  clear h
  replace H := Option.bind_eq_some_iff.mp H
  obtain ⟨⟨t18001, t18002, t18003, t18004, t18005⟩, A30, H⟩ := H
  replace H : (if t18005 = true then ((vars_variable_form.f k t18001 t18002 t18003 a1).bind fun bt18007 => (if bt18007.2 = true then (some (bt18007.1, 0)) else (some ((⟨#[]⟩ : ByteArray), 27)))) else (some ((⟨#[]⟩ : ByteArray), 2))) = some (r1, r2) := H
  have A3 := Aside0.mk A30
  clear A30
  by_cases c4 : t18005 = true
  · subst c4
    have H1 : ((vars_variable_form.f k t18001 t18002 t18003 a1).bind fun bt18007 => (if bt18007.2 = true then (some (bt18007.1, 0)) else (some ((⟨#[]⟩ : ByteArray), 27)))) = some (r1, r2) := by rw [if_pos rfl] at H; exact H
    clear H
    have H := H1
    clear H1
    replace H := Option.bind_eq_some_iff.mp H
    obtain ⟨⟨t18007, t18008⟩, A50, H⟩ := H
    replace H : (if t18008 = true then (some (t18007, 0)) else (some ((⟨#[]⟩ : ByteArray), 27))) = some (r1, r2) := H
    have A5 := Aside0.mk A50
    clear A50
    by_cases c6 : t18008 = true
    · subst c6
      have H1 : (some (t18007, 0)) = some (r1, r2) := by rw [if_pos rfl] at H; exact H
      clear H
      have H := H1
      clear H1
      simp only [Option.some.injEq, Prod.mk.injEq] at H
      obtain ⟨rfl, rfl⟩ := H
      go_enter Tryd.func17, Tryd.ntmps17
      go_wp2_with (first | ((with_reducible refine gate_callee (f := 37) rfl ?_); refine goesL_ (some 12) rfl rfl Tryd.func37 (by kernel_rfl) rfl #[.string a0] rfl (by (try simp only [List.map_toArray, List.map_cons, List.map_nil]); first | done | rfl | (simp only [List.length_drop, List.length_take]; rfl)) ?_; (with_reducible refine (vars_find.calls k a0 t18001 t18002 t18003 t18004 true _ A3.out).mono ?_); rintro e w7 ⟨rfl, hb⟩; refine ⟨_, rfl, ?_⟩; have n0_ := Aside0.mk (below_step (by repeat (first | (with_reducible first | exact HB.out | apply below_alloc | apply pw_below_drewN | apply below_drew1) | exact HB.out)) hb); clear HB; have HB := n0_; clear n0_; (try clear hb); (try clear hb2); (try clear hk); (try clear hi)) | ((with_reducible refine gate_dst (N := 6) rfl ?_); refine box_event ?hg (N := 6) ?hd (cs := #[.string (⟨#[]⟩ : ByteArray), .int .i64 0, .string (⟨#[]⟩ : ByteArray)]) (t := 57) ?hr ?_; (case hd => rfl); (case hg => rfl); (case hr => first | (go_simp; done) | (go_simp; rfl)); intro gb18006 hg w8 hbox hb; have n0_ := Aside0.mk (below_step (by repeat (first | (with_reducible first | exact HB.out | apply below_alloc | apply pw_below_drewN | apply below_drew1) | exact HB.out)) hb); have n1_ := Aside0.mk (hbox); have n2_ := Aside0.mk ((by rw [hg]; exact (below_size (by repeat (first | (with_reducible first | exact HB.out | apply below_alloc | apply pw_below_drewN | apply below_drew1) | exact HB.out))) : w.heap.size ≤ gb18006)); have n3_ := Aside0.mk ((by rw [hg]; exact (below_size (by repeat (first | (with_reducible first | exact HB.out | apply below_alloc | apply pw_below_drewN | apply below_drew1) | exact HB.out))) : w.heap.size ≤ gb18006)); clear HB; have HB := n0_; have BK18006 := n1_; have GW18006 := n2_; have GE18006 := n3_; clear n0_ n1_ n2_ n3_; clear hb hbox hg; have hcz9_0 : w8.cell? ⟨gb18006, 0, none⟩ = some (.string (⟨#[]⟩ : ByteArray)) := (blk_cell BK18006.out 0).trans rfl; have hcz9_1 : w8.cell? ⟨gb18006, 1, none⟩ = some (.int .i64 0) := (blk_cell BK18006.out 1).trans rfl; have hcz9_2 : w8.cell? ⟨gb18006, 2, none⟩ = some (.string (⟨#[]⟩ : ByteArray)) := (blk_cell BK18006.out 2).trans rfl; have hfz9_0 := blk_frozen BK18006.out 0; have hfz9_1 := blk_frozen BK18006.out 1; have hfz9_2 := blk_frozen BK18006.out 2) | ((with_reducible refine gate_callee (f := 45) rfl ?_); refine goesL_ (some 21) rfl rfl Tryd.func45 (by kernel_rfl) rfl #[.agg #[.string t18001, .int .i64 t18002, .string t18003], .string a1] rfl (by (try simp only [List.map_toArray, List.map_cons, List.map_nil]); first | done | rfl | (simp only [List.length_drop, List.length_take]; rfl)) ?_; (with_reducible refine (vars_variable_form.calls k t18001 t18002 t18003 a1 t18007 true _ (Tabs.below ht (by repeat (first | (with_reducible first | exact HB.out | apply below_alloc | apply pw_below_drewN | apply below_drew1 | refine below_set ?_ (Aside0.out (by assumption))) | exact HB.out))) A5.out).mono ?_); rintro e w10 ⟨rfl, hb⟩; refine ⟨_, rfl, ?_⟩; have n0_ := Aside0.mk (blk_below (g := gb18006) (o := .cells #[.string t18001, .int .i64 t18002, .string t18003] 57 (0, 0)) (by (with_reducible repeat (first | refine blk_drewN ?_ _ | refine blk_drew ?_ | refine blk_alloc ?_ _)); refine blk_put (cs := #[.string t18001, .int .i64 t18002, .string (⟨#[]⟩ : ByteArray)]) ?_ 2 _ rfl; (with_reducible repeat (first | refine blk_drewN ?_ _ | refine blk_drew ?_ | refine blk_alloc ?_ _)); refine blk_put (cs := #[.string t18001, .int .i64 0, .string (⟨#[]⟩ : ByteArray)]) ?_ 1 _ rfl; (with_reducible repeat (first | refine blk_drewN ?_ _ | refine blk_drew ?_ | refine blk_alloc ?_ _)); refine blk_put (cs := #[.string (⟨#[]⟩ : ByteArray), .int .i64 0, .string (⟨#[]⟩ : ByteArray)]) ?_ 0 _ rfl; (with_reducible repeat (first | refine blk_drewN ?_ _ | refine blk_drew ?_ | refine blk_alloc ?_ _)); exact BK18006.out) hb); have n1_ := Aside0.mk (below_step (by repeat (first | (with_reducible first | exact HB.out | apply below_alloc | apply pw_below_drewN | apply below_drew1 | refine below_set ?_ GE18006.out) | exact HB.out)) hb); clear BK18006; clear HB; have BK18006 := n0_; have HB := n1_; clear n0_ n1_; (try clear hb); (try clear hb2); (try clear hk); (try clear hi)))
      go_ret2
      exact ⟨by first | rfl | (simp [errW_none, errW_some] <;> rfl) | (simp [*, errW_none, errW_some] <;> rfl), by repeat (first | (with_reducible first | exact HB.out | apply below_alloc | apply pw_below_drewN | apply below_drew1 | refine below_set ?_ GE18006.out) | exact HB.out)⟩
    · replace c6 := Bool.eq_false_iff.mpr c6
      subst c6
      have H1 : (some ((⟨#[]⟩ : ByteArray), 27)) = some (r1, r2) := by rw [if_neg (show ¬ (false = true) by decide)] at H; exact H
      clear H
      have H := H1
      clear H1
      simp only [Option.some.injEq, Prod.mk.injEq] at H
      obtain ⟨rfl, rfl⟩ := H
      go_enter Tryd.func17, Tryd.ntmps17
      go_wp2_with (first | ((with_reducible refine gate_callee (f := 37) rfl ?_); refine goesL_ (some 12) rfl rfl Tryd.func37 (by kernel_rfl) rfl #[.string a0] rfl (by (try simp only [List.map_toArray, List.map_cons, List.map_nil]); first | done | rfl | (simp only [List.length_drop, List.length_take]; rfl)) ?_; (with_reducible refine (vars_find.calls k a0 t18001 t18002 t18003 t18004 true _ A3.out).mono ?_); rintro e w11 ⟨rfl, hb⟩; refine ⟨_, rfl, ?_⟩; have n0_ := Aside0.mk (below_step (by repeat (first | (with_reducible first | exact HB.out | apply below_alloc | apply pw_below_drewN | apply below_drew1) | exact HB.out)) hb); clear HB; have HB := n0_; clear n0_; (try clear hb); (try clear hb2); (try clear hk); (try clear hi)) | ((with_reducible refine gate_dst (N := 6) rfl ?_); refine box_event ?hg (N := 6) ?hd (cs := #[.string (⟨#[]⟩ : ByteArray), .int .i64 0, .string (⟨#[]⟩ : ByteArray)]) (t := 57) ?hr ?_; (case hd => rfl); (case hg => rfl); (case hr => first | (go_simp; done) | (go_simp; rfl)); intro gb18006 hg w12 hbox hb; have n0_ := Aside0.mk (below_step (by repeat (first | (with_reducible first | exact HB.out | apply below_alloc | apply pw_below_drewN | apply below_drew1) | exact HB.out)) hb); have n1_ := Aside0.mk (hbox); have n2_ := Aside0.mk ((by rw [hg]; exact (below_size (by repeat (first | (with_reducible first | exact HB.out | apply below_alloc | apply pw_below_drewN | apply below_drew1) | exact HB.out))) : w.heap.size ≤ gb18006)); have n3_ := Aside0.mk ((by rw [hg]; exact (below_size (by repeat (first | (with_reducible first | exact HB.out | apply below_alloc | apply pw_below_drewN | apply below_drew1) | exact HB.out))) : w.heap.size ≤ gb18006)); clear HB; have HB := n0_; have BK18006 := n1_; have GW18006 := n2_; have GE18006 := n3_; clear n0_ n1_ n2_ n3_; clear hb hbox hg; have hcz13_0 : w12.cell? ⟨gb18006, 0, none⟩ = some (.string (⟨#[]⟩ : ByteArray)) := (blk_cell BK18006.out 0).trans rfl; have hcz13_1 : w12.cell? ⟨gb18006, 1, none⟩ = some (.int .i64 0) := (blk_cell BK18006.out 1).trans rfl; have hcz13_2 : w12.cell? ⟨gb18006, 2, none⟩ = some (.string (⟨#[]⟩ : ByteArray)) := (blk_cell BK18006.out 2).trans rfl; have hfz13_0 := blk_frozen BK18006.out 0; have hfz13_1 := blk_frozen BK18006.out 1; have hfz13_2 := blk_frozen BK18006.out 2) | ((with_reducible refine gate_callee (f := 45) rfl ?_); refine goesL_ (some 21) rfl rfl Tryd.func45 (by kernel_rfl) rfl #[.agg #[.string t18001, .int .i64 t18002, .string t18003], .string a1] rfl (by (try simp only [List.map_toArray, List.map_cons, List.map_nil]); first | done | rfl | (simp only [List.length_drop, List.length_take]; rfl)) ?_; (with_reducible refine (vars_variable_form.calls k t18001 t18002 t18003 a1 t18007 false _ (Tabs.below ht (by repeat (first | (with_reducible first | exact HB.out | apply below_alloc | apply pw_below_drewN | apply below_drew1 | refine below_set ?_ (Aside0.out (by assumption))) | exact HB.out))) A5.out).mono ?_); rintro e w14 ⟨rfl, hb⟩; refine ⟨_, rfl, ?_⟩; have n0_ := Aside0.mk (blk_below (g := gb18006) (o := .cells #[.string t18001, .int .i64 t18002, .string t18003] 57 (0, 0)) (by (with_reducible repeat (first | refine blk_drewN ?_ _ | refine blk_drew ?_ | refine blk_alloc ?_ _)); refine blk_put (cs := #[.string t18001, .int .i64 t18002, .string (⟨#[]⟩ : ByteArray)]) ?_ 2 _ rfl; (with_reducible repeat (first | refine blk_drewN ?_ _ | refine blk_drew ?_ | refine blk_alloc ?_ _)); refine blk_put (cs := #[.string t18001, .int .i64 0, .string (⟨#[]⟩ : ByteArray)]) ?_ 1 _ rfl; (with_reducible repeat (first | refine blk_drewN ?_ _ | refine blk_drew ?_ | refine blk_alloc ?_ _)); refine blk_put (cs := #[.string (⟨#[]⟩ : ByteArray), .int .i64 0, .string (⟨#[]⟩ : ByteArray)]) ?_ 0 _ rfl; (with_reducible repeat (first | refine blk_drewN ?_ _ | refine blk_drew ?_ | refine blk_alloc ?_ _)); exact BK18006.out) hb); have n1_ := Aside0.mk (below_step (by repeat (first | (with_reducible first | exact HB.out | apply below_alloc | apply pw_below_drewN | apply below_drew1 | refine below_set ?_ GE18006.out) | exact HB.out)) hb); clear BK18006; clear HB; have BK18006 := n0_; have HB := n1_; clear n0_ n1_; (try clear hb); (try clear hb2); (try clear hk); (try clear hi)))
      go_ret2
      exact ⟨by first | rfl | (simp [errW_none, errW_some] <;> rfl) | (simp [*, errW_none, errW_some] <;> rfl), by repeat (first | (with_reducible first | exact HB.out | apply below_alloc | apply pw_below_drewN | apply below_drew1 | refine below_set ?_ GE18006.out) | exact HB.out)⟩
  · replace c4 := Bool.eq_false_iff.mpr c4
    subst c4
    have H1 : (some ((⟨#[]⟩ : ByteArray), 2)) = some (r1, r2) := by rw [if_neg (show ¬ (false = true) by decide)] at H; exact H
    clear H
    have H := H1
    clear H1
    simp only [Option.some.injEq, Prod.mk.injEq] at H
    obtain ⟨rfl, rfl⟩ := H
    go_enter Tryd.func17, Tryd.ntmps17
    go_wp2_with (first | ((with_reducible refine gate_callee (f := 37) rfl ?_); refine goesL_ (some 12) rfl rfl Tryd.func37 (by kernel_rfl) rfl #[.string a0] rfl (by (try simp only [List.map_toArray, List.map_cons, List.map_nil]); first | done | rfl | (simp only [List.length_drop, List.length_take]; rfl)) ?_; (with_reducible refine (vars_find.calls k a0 t18001 t18002 t18003 t18004 false _ A3.out).mono ?_); rintro e w15 ⟨rfl, hb⟩; refine ⟨_, rfl, ?_⟩; have n0_ := Aside0.mk (below_step (by repeat (first | (with_reducible first | exact HB.out | apply below_alloc | apply pw_below_drewN | apply below_drew1) | exact HB.out)) hb); clear HB; have HB := n0_; clear n0_; (try clear hb); (try clear hb2); (try clear hk); (try clear hi)) | ((with_reducible refine gate_dst (N := 6) rfl ?_); refine box_event ?hg (N := 6) ?hd (cs := #[.string (⟨#[]⟩ : ByteArray), .int .i64 0, .string (⟨#[]⟩ : ByteArray)]) (t := 57) ?hr ?_; (case hd => rfl); (case hg => rfl); (case hr => first | (go_simp; done) | (go_simp; rfl)); intro gb18006 hg w16 hbox hb; have n0_ := Aside0.mk (below_step (by repeat (first | (with_reducible first | exact HB.out | apply below_alloc | apply pw_below_drewN | apply below_drew1) | exact HB.out)) hb); have n1_ := Aside0.mk (hbox); have n2_ := Aside0.mk ((by rw [hg]; exact (below_size (by repeat (first | (with_reducible first | exact HB.out | apply below_alloc | apply pw_below_drewN | apply below_drew1) | exact HB.out))) : w.heap.size ≤ gb18006)); have n3_ := Aside0.mk ((by rw [hg]; exact (below_size (by repeat (first | (with_reducible first | exact HB.out | apply below_alloc | apply pw_below_drewN | apply below_drew1) | exact HB.out))) : w.heap.size ≤ gb18006)); clear HB; have HB := n0_; have BK18006 := n1_; have GW18006 := n2_; have GE18006 := n3_; clear n0_ n1_ n2_ n3_; clear hb hbox hg; have hcz17_0 : w16.cell? ⟨gb18006, 0, none⟩ = some (.string (⟨#[]⟩ : ByteArray)) := (blk_cell BK18006.out 0).trans rfl; have hcz17_1 : w16.cell? ⟨gb18006, 1, none⟩ = some (.int .i64 0) := (blk_cell BK18006.out 1).trans rfl; have hcz17_2 : w16.cell? ⟨gb18006, 2, none⟩ = some (.string (⟨#[]⟩ : ByteArray)) := (blk_cell BK18006.out 2).trans rfl; have hfz17_0 := blk_frozen BK18006.out 0; have hfz17_1 := blk_frozen BK18006.out 1; have hfz17_2 := blk_frozen BK18006.out 2))
    go_ret2
    exact ⟨by first | rfl | (simp [errW_none, errW_some] <;> rfl) | (simp [*, errW_none, errW_some] <;> rfl), by repeat (first | (with_reducible first | exact HB.out | apply below_alloc | apply pw_below_drewN | apply below_drew1 | refine below_set ?_ GE18006.out) | exact HB.out)⟩

end Go.Proofs.YtefhngadeimklaaDoor.Q
end
section
namespace Go.Proofs.YtefhngadeimklaaDoor.Q
open Go.RowKit Go.Proofs.YtefhngadeimklaaDoorW.PrintWords Go.Proofs.YtefhngadeimklaaDoorW.PrintLast Go.Proofs.YtefhngadeimklaaDoorW.PrintMore
set_option linter.unusedVariables false
set_option linter.unusedSimpArgs false

attribute [local go_sem] max2_int min2_int max_two min_two max_three min_three max_four min_four
/-! ### vars_Default: function 19 -/
def vars_Default.f (k : Nat) (a0 : ByteArray) : Option (ByteArray × Int) := (vars_find.f k a0).bind fun bt20001 => (if bt20001.2.2.2.2 = true then (some (bt20001.2.2.1, 0)) else (some ((⟨#[]⟩ : ByteArray), 2)))
set_option maxHeartbeats 8000000 in
set_option maxRecDepth 100000 in
theorem vars_Default.calls (k : Nat) (a0 : ByteArray) (r1 : ByteArray) (r2 : Int) (w : World) (h : vars_Default.f k a0 = some (r1, r2)) :
    Calls Tryd.prog 19 #[.string a0] w fun e w' => e = .returned (.tuple #[.string r1, .int .i64 r2]) ∧ Below w.heap.size w w' := by
  have hu57 := Tryd.underlying57
  have HB := Aside0.mk (Below.refl w.heap.size w)
  have H : ((vars_find.f k a0).bind fun bt20001 => (if bt20001.2.2.2.2 = true then (some (bt20001.2.2.1, 0)) else (some ((⟨#[]⟩ : ByteArray), 2)))) = some (r1, r2) := h
  clear h
  replace H := Option.bind_eq_some_iff.mp H
  obtain ⟨⟨t20001, t20002, t20003, t20004, t20005⟩, A20, H⟩ := H
  replace H : (if t20005 = true then (some (t20003, 0)) else (some ((⟨#[]⟩ : ByteArray), 2))) = some (r1, r2) := H
  have A2 := Aside0.mk A20
  clear A20
  by_cases c3 : t20005 = true
  · subst c3
    have H1 : (some (t20003, 0)) = some (r1, r2) := by rw [if_pos rfl] at H; exact H
    clear H
    have H := H1
    clear H1
    simp only [Option.some.injEq, Prod.mk.injEq] at H
    obtain ⟨rfl, rfl⟩ := H
    go_enter Tryd.func19, Tryd.ntmps19
    go_wp2_with (first | ((with_reducible refine gate_callee (f := 37) rfl ?_); refine goesL_ (some 9) rfl rfl Tryd.func37 (by kernel_rfl) rfl #[.string a0] rfl (by (try simp only [List.map_toArray, List.map_cons, List.map_nil]); first | done | rfl | (simp only [List.length_drop, List.length_take]; rfl)) ?_; (with_reducible refine (vars_find.calls k a0 t20001 t20002 t20003 t20004 true _ A2.out).mono ?_); rintro e w4 ⟨rfl, hb⟩; refine ⟨_, rfl, ?_⟩; have n0_ := Aside0.mk (below_step (by repeat (first | (with_reducible first | exact HB.out | apply below_alloc | apply pw_below_drewN | apply below_drew1) | exact HB.out)) hb); clear HB; have HB := n0_; clear n0_; (try clear hb); (try clear hb2); (try clear hk); (try clear hi)) | ((with_reducible refine gate_dst (N := 4) rfl ?_); refine box_event ?hg (N := 4) ?hd (cs := #[.string (⟨#[]⟩ : ByteArray), .int .i64 0, .string (⟨#[]⟩ : ByteArray)]) (t := 57) ?hr ?_; (case hd => rfl); (case hg => rfl); (case hr => first | (go_simp; done) | (go_simp; rfl)); intro gb20006 hg w5 hbox hb; have n0_ := Aside0.mk (below_step (by repeat (first | (with_reducible first | exact HB.out | apply below_alloc | apply pw_below_drewN | apply below_drew1) | exact HB.out)) hb); have n1_ := Aside0.mk (hbox); have n2_ := Aside0.mk ((by rw [hg]; exact (below_size (by repeat (first | (with_reducible first | exact HB.out | apply below_alloc | apply pw_below_drewN | apply below_drew1) | exact HB.out))) : w.heap.size ≤ gb20006)); have n3_ := Aside0.mk ((by rw [hg]; exact (below_size (by repeat (first | (with_reducible first | exact HB.out | apply below_alloc | apply pw_below_drewN | apply below_drew1) | exact HB.out))) : w.heap.size ≤ gb20006)); clear HB; have HB := n0_; have BK20006 := n1_; have GW20006 := n2_; have GE20006 := n3_; clear n0_ n1_ n2_ n3_; clear hb hbox hg; have hcz6_0 : w5.cell? ⟨gb20006, 0, none⟩ = some (.string (⟨#[]⟩ : ByteArray)) := (blk_cell BK20006.out 0).trans rfl; have hcz6_1 : w5.cell? ⟨gb20006, 1, none⟩ = some (.int .i64 0) := (blk_cell BK20006.out 1).trans rfl; have hcz6_2 : w5.cell? ⟨gb20006, 2, none⟩ = some (.string (⟨#[]⟩ : ByteArray)) := (blk_cell BK20006.out 2).trans rfl; have hfz6_0 := blk_frozen BK20006.out 0; have hfz6_1 := blk_frozen BK20006.out 1; have hfz6_2 := blk_frozen BK20006.out 2))
    go_ret2
    exact ⟨by first | rfl | (simp [errW_none, errW_some] <;> rfl) | (simp [*, errW_none, errW_some] <;> rfl), by repeat (first | (with_reducible first | exact HB.out | apply below_alloc | apply pw_below_drewN | apply below_drew1 | refine below_set ?_ GE20006.out) | exact HB.out)⟩
  · replace c3 := Bool.eq_false_iff.mpr c3
    subst c3
    have H1 : (some ((⟨#[]⟩ : ByteArray), 2)) = some (r1, r2) := by rw [if_neg (show ¬ (false = true) by decide)] at H; exact H
    clear H
    have H := H1
    clear H1
    simp only [Option.some.injEq, Prod.mk.injEq] at H
    obtain ⟨rfl, rfl⟩ := H
    go_enter Tryd.func19, Tryd.ntmps19
    go_wp2_with (first | ((with_reducible refine gate_callee (f := 37) rfl ?_); refine goesL_ (some 9) rfl rfl Tryd.func37 (by kernel_rfl) rfl #[.string a0] rfl (by (try simp only [List.map_toArray, List.map_cons, List.map_nil]); first | done | rfl | (simp only [List.length_drop, List.length_take]; rfl)) ?_; (with_reducible refine (vars_find.calls k a0 t20001 t20002 t20003 t20004 false _ A2.out).mono ?_); rintro e w7 ⟨rfl, hb⟩; refine ⟨_, rfl, ?_⟩; have n0_ := Aside0.mk (below_step (by repeat (first | (with_reducible first | exact HB.out | apply below_alloc | apply pw_below_drewN | apply below_drew1) | exact HB.out)) hb); clear HB; have HB := n0_; clear n0_; (try clear hb); (try clear hb2); (try clear hk); (try clear hi)) | ((with_reducible refine gate_dst (N := 4) rfl ?_); refine box_event ?hg (N := 4) ?hd (cs := #[.string (⟨#[]⟩ : ByteArray), .int .i64 0, .string (⟨#[]⟩ : ByteArray)]) (t := 57) ?hr ?_; (case hd => rfl); (case hg => rfl); (case hr => first | (go_simp; done) | (go_simp; rfl)); intro gb20006 hg w8 hbox hb; have n0_ := Aside0.mk (below_step (by repeat (first | (with_reducible first | exact HB.out | apply below_alloc | apply pw_below_drewN | apply below_drew1) | exact HB.out)) hb); have n1_ := Aside0.mk (hbox); have n2_ := Aside0.mk ((by rw [hg]; exact (below_size (by repeat (first | (with_reducible first | exact HB.out | apply below_alloc | apply pw_below_drewN | apply below_drew1) | exact HB.out))) : w.heap.size ≤ gb20006)); have n3_ := Aside0.mk ((by rw [hg]; exact (below_size (by repeat (first | (with_reducible first | exact HB.out | apply below_alloc | apply pw_below_drewN | apply below_drew1) | exact HB.out))) : w.heap.size ≤ gb20006)); clear HB; have HB := n0_; have BK20006 := n1_; have GW20006 := n2_; have GE20006 := n3_; clear n0_ n1_ n2_ n3_; clear hb hbox hg; have hcz9_0 : w8.cell? ⟨gb20006, 0, none⟩ = some (.string (⟨#[]⟩ : ByteArray)) := (blk_cell BK20006.out 0).trans rfl; have hcz9_1 : w8.cell? ⟨gb20006, 1, none⟩ = some (.int .i64 0) := (blk_cell BK20006.out 1).trans rfl; have hcz9_2 : w8.cell? ⟨gb20006, 2, none⟩ = some (.string (⟨#[]⟩ : ByteArray)) := (blk_cell BK20006.out 2).trans rfl; have hfz9_0 := blk_frozen BK20006.out 0; have hfz9_1 := blk_frozen BK20006.out 1; have hfz9_2 := blk_frozen BK20006.out 2))
    go_ret2
    exact ⟨by first | rfl | (simp [errW_none, errW_some] <;> rfl) | (simp [*, errW_none, errW_some] <;> rfl), by repeat (first | (with_reducible first | exact HB.out | apply below_alloc | apply pw_below_drewN | apply below_drew1 | refine below_set ?_ GE20006.out) | exact HB.out)⟩

end Go.Proofs.YtefhngadeimklaaDoor.Q
end
section
namespace Go.Proofs.YtefhngadeimklaaDoor.Q
open Go.RowKit Go.Proofs.YtefhngadeimklaaDoorW.PrintWords Go.Proofs.YtefhngadeimklaaDoorW.PrintLast Go.Proofs.YtefhngadeimklaaDoorW.PrintMore
set_option linter.unusedVariables false
set_option linter.unusedSimpArgs false

attribute [local go_sem] max2_int min2_int max_two min_two max_three min_three max_four min_four
/-! ### tinderref19_Variable: function 47 -/
def tinderref19_Variable.f (a0 : Int) : Option (ByteArray × Int × ByteArray) := if a0 = 0 then (some ((⟨#[97, 117, 116, 111, 45, 98, 111, 111, 116, 63]⟩ : ByteArray), 98, (⟨#[116, 114, 117, 101]⟩ : ByteArray))) else (if a0 = 1 then (some ((⟨#[98, 111, 111, 116, 45, 100, 101, 118, 105, 99, 101]⟩ : ByteArray), 116, (⟨#[100, 105, 115, 107, 32, 110, 101, 116]⟩ : ByteArray))) else (if a0 = 2 then (some ((⟨#[98, 111, 111, 116, 45, 102, 105, 108, 101]⟩ : ByteArray), 116, (⟨#[]⟩ : ByteArray))) else (if a0 = 3 then (some ((⟨#[98, 111, 111, 116, 45, 108, 105, 109, 105, 116]⟩ : ByteArray), 110, (⟨#[53, 48, 48, 48]⟩ : ByteArray))) else (if a0 = 4 then (some ((⟨#[105, 110, 112, 117, 116, 45, 100, 101, 118, 105, 99, 101]⟩ : ByteArray), 116, (⟨#[107, 101, 121, 98, 111, 97, 114, 100]⟩ : ByteArray))) else (if a0 = 5 then (some ((⟨#[110, 118, 114, 97, 109, 114, 99]⟩ : ByteArray), 116, (⟨#[]⟩ : ByteArray))) else (if a0 = 6 then (some ((⟨#[111, 101, 109, 45, 98, 97, 110, 110, 101, 114]⟩ : ByteArray), 116, (⟨#[]⟩ : ByteArray))) else (if a0 = 7 then (some ((⟨#[115, 99, 114, 101, 101, 110, 45, 116, 117, 114, 110]⟩ : ByteArray), 110, (⟨#[48]⟩ : ByteArray))) else (if a0 = 8 then (some ((⟨#[117, 115, 101, 45, 110, 118, 114, 97, 109, 114, 99, 63]⟩ : ByteArray), 98, (⟨#[102, 97, 108, 115, 101]⟩ : ByteArray))) else (some ((⟨#[]⟩ : ByteArray), 0, (⟨#[]⟩ : ByteArray)))))))))))

end Go.Proofs.YtefhngadeimklaaDoor.Q
end
section
namespace Go.Proofs.YtefhngadeimklaaDoor.Q
open Go.RowKit Go.Proofs.YtefhngadeimklaaDoorW.PrintWords Go.Proofs.YtefhngadeimklaaDoorW.PrintLast Go.Proofs.YtefhngadeimklaaDoorW.PrintMore
set_option linter.unusedVariables false
set_option linter.unusedSimpArgs false

attribute [local go_sem] max2_int min2_int max_two min_two max_three min_three max_four min_four
/-! ### tinderref19_find: function 46 -/
def tinderref19_find.l0 : Nat → ByteArray → Int → Option (Int)
  | 0, _, _ => none
  | k + 1, x0, x3 => if x3 < 9 then ((tinderref19_Variable.f x3).bind fun bt47001 => (if bt47001.1.toList = x0.toList then (some x3) else (tinderref19_find.l0 k x0 (wrap64 (x3 + 1))))) else (some (-1))
def tinderref19_find.f (k : Nat) (a0 : ByteArray) : Option (Int) := tinderref19_find.l0 k a0 0

end Go.Proofs.YtefhngadeimklaaDoor.Q
end
section
namespace Go.Proofs.YtefhngadeimklaaDoor.Q
open Go.RowKit Go.Proofs.YtefhngadeimklaaDoorW.PrintWords Go.Proofs.YtefhngadeimklaaDoorW.PrintLast Go.Proofs.YtefhngadeimklaaDoorW.PrintMore
set_option linter.unusedVariables false
set_option linter.unusedSimpArgs false

attribute [local go_sem] max2_int min2_int max_two min_two max_three min_three max_four min_four
/-! ### tinderref19_Default: function 20 -/
def tinderref19_Default.f (k : Nat) (a0 : ByteArray) : Option (ByteArray × Int) := (tinderref19_find.f k a0).bind fun t21001 => (if t21001 < 0 then (some ((⟨#[]⟩ : ByteArray), 2)) else ((tinderref19_Variable.f t21001).bind fun bt21002 => (some (bt21002.2.2, 0))))

end Go.Proofs.YtefhngadeimklaaDoor.Q
end
section
namespace Go.Proofs.YtefhngadeimklaaDoor.Q
open Go.RowKit Go.Proofs.YtefhngadeimklaaDoorW.PrintWords Go.Proofs.YtefhngadeimklaaDoorW.PrintLast Go.Proofs.YtefhngadeimklaaDoorW.PrintMore
set_option linter.unusedVariables false
set_option linter.unusedSimpArgs false

attribute [local go_sem] max2_int min2_int max_two min_two max_three min_three max_four min_four
/-! ### tinderref19_Form: function 18 -/
def tinderref19_Form.l0 : Nat → ByteArray → Int → Option (ByteArray × Int)
  | 0, _, _ => none
  | k + 1, x1, x14 => if x14 < (x1.size : Int) then (if 0 ≤ x14 then (if (bt x1 x14) < 32 then (some ((⟨#[]⟩ : ByteArray), 27)) else (if (bt x1 x14) > 126 then (some ((⟨#[]⟩ : ByteArray), 27)) else (tinderref19_Form.l0 k x1 (wrap64 (x14 + 1))))) else (none)) else (if (x1.size : Int) ≤ 128 then (some (x1, 0)) else (some ((⟨#[]⟩ : ByteArray), 27)))
def tinderref19_Form.f (k : Nat) (a0 : ByteArray) (a1 : ByteArray) : Option (ByteArray × Int) := (tinderref19_find.f k a0).bind fun t19001 => (if t19001 < 0 then (some ((⟨#[]⟩ : ByteArray), 2)) else ((tinderref19_Variable.f t19001).bind fun bt19002 => (if bt19002.2.1 = 98 then (if a1.toList = ([116, 114, 117, 101] : List UInt8) then (some (a1, 0)) else (if a1.toList = ([102, 97, 108, 115, 101] : List UInt8) then (some (a1, 0)) else (some ((⟨#[]⟩ : ByteArray), 27)))) else (if bt19002.2.1 = 110 then ((tinderref02_Parse.f k a1 10).bind fun bt19005 => (if bt19005.2 = 0 then ((tinderref02_Show.f bt19005.1 10).bind fun bt19007 => (some (bt19007.1, 0))) else (some ((⟨#[]⟩ : ByteArray), 27)))) else (tinderref19_Form.l0 k a1 0)))))

end Go.Proofs.YtefhngadeimklaaDoor.Q
end
section
namespace Go.Proofs.YtefhngadeimklaaDoor.Q
open Go.RowKit Go.Proofs.YtefhngadeimklaaDoorW.PrintWords Go.Proofs.YtefhngadeimklaaDoorW.PrintLast Go.Proofs.YtefhngadeimklaaDoorW.PrintMore
set_option linter.unusedVariables false
set_option linter.unusedSimpArgs false

attribute [local go_sem] max2_int min2_int max_two min_two max_three min_three max_four min_four
/-! ### tinderref19_Right: function 25 -/
def tinderref19_Right.l0 : Nat → List (S40) → Int → Int → Option (Bool)
  | 0, _, _, _ => none
  | k + 1, x0, x3, x4 => if x4 < (x0.length : Int) then (if 0 ≤ x4 then ((tinderref19_find.f k ((rd_T40 x0 x4).f0)).bind fun t26002 => (if t26002 ≤ x3 then (some false) else ((tinderref19_Form.f k ((rd_T40 x0 x4).f0) ((rd_T40 x0 x4).f1)).bind fun bt26005 => ((tinderref19_Default.f k ((rd_T40 x0 x4).f0)).bind fun bt26008 => (if bt26005.2 = 0 then (if bt26005.1.toList = ((rd_T40 x0 x4).f1).toList then (if bt26005.1.toList = bt26008.1.toList then (some false) else (tinderref19_Right.l0 k x0 t26002 (wrap64 (x4 + 1)))) else (some false)) else (some false)))))) else (none)) else (some true)
def tinderref19_Right.f (k : Nat) (l0 : List (S40)) : Option (Bool) := tinderref19_Right.l0 k l0 (-1) 0
def tinderref19_Right.T9 : Bool × List (List Nat × List Nat) := (true, [([], []), ([], []), ([0, 1], [0, 1]), ([2], [2]), ([3], [3]), ([], []), ([], []), ([5, 6], [5, 6]), ([7], [7]), ([8], [8]), ([4, 9], [4, 9]), ([10], [10]), ([11], [11]), ([11], [11]), ([12, 10, 0, 1, 2, 3, 4, 5, 6, 7, 8, 9, 10, 11, 12], [12]), ([13, 14, 0, 1, 2, 3, 4, 5, 6, 7, 8, 9, 10, 11, 12, 13, 14], [13])])
def tinderref19_Right.B9 : List Nat := [0, 0, 3, 7, 15, 0, 0, 96, 224, 480, 1023, 2047, 4095, 4095, 8191, 32767]

end Go.Proofs.YtefhngadeimklaaDoor.Q
end
section
set_option linter.unusedSimpArgs false
set_option linter.unusedVariables false
namespace Go.Proofs.YtefhngadeimklaaDoor.Q
open Go.RowKit Go.Proofs.YtefhngadeimklaaDoorW.PrintWords Go.Proofs.YtefhngadeimklaaDoorW.PrintLast
def vars9 : List S57 := (vars_all.f).getD []
theorem vars9_eq : vars_all.f = some vars9 := rfl
theorem vars9_len : vars9.length = 9 := rfl
def nmV (i : Int) : ByteArray := (rd_T57 vars9 i).f0
def kdV (i : Int) : Int := (rd_T57 vars9 i).f1
def stV (i : Int) : ByteArray := (rd_T57 vars9 i).f2
def rkV (i : Int) : Int := if kdV i = 0 then 98 else if kdV i = 1 then 110 else 116
def fndG (s : ByteArray) : Nat → Int → Int
  | 0, _ => -1
  | d + 1, i => if (nmV i).toList = s.toList then i else fndG s d (i + 1)
def fndF (s : ByteArray) : Int := fndG s 9 0
theorem fndG_range (s : ByteArray) : ∀ (d : Nat) (i : Int), fndG s d i = -1 ∨ (i ≤ fndG s d i ∧ fndG s d i < i + d)
  | 0, _ => .inl rfl
  | d + 1, i => by
    unfold fndG
    split
    · exact .inr ⟨Int.le_refl _, by omega⟩
    · rcases fndG_range s d (i + 1) with h | h
      · exact .inl h
      · exact .inr ⟨by omega, by omega⟩
theorem fndG_name (s : ByteArray) : ∀ (d : Nat) (i : Int), 0 ≤ i → 0 ≤ fndG s d i → (nmV (fndG s d i)).toList = s.toList
  | 0, _, _, h => absurd h (by unfold fndG; decide)
  | d + 1, i, h0, h => by
    unfold fndG at h ⊢
    split
    · assumption
    · rename_i hn
      rw [if_neg hn] at h
      exact fndG_name s d (i + 1) (by omega) h
theorem fndG_congr {s t : ByteArray} (e : s.toList = t.toList) : ∀ (d : Nat) (i : Int), fndG s d i = fndG t d i
  | 0, _ => rfl
  | d + 1, i => by unfold fndG; rw [e, fndG_congr e d (i + 1)]
theorem fndF_congr {s t : ByteArray} (e : s.toList = t.toList) : fndF s = fndF t := fndG_congr e 9 0
theorem fndF_range (s : ByteArray) : -1 ≤ fndF s ∧ fndF s < 9 := by
  rcases fndG_range s 9 0 with h | h <;> unfold fndF <;> omega
def fndR (n : Int) : ByteArray × Int × ByteArray × Int × Bool := if 0 ≤ n then (nmV n, kdV n, stV n, n, true) else ((⟨#[]⟩ : ByteArray), 0, (⟨#[]⟩ : ByteArray), (-1), false)
theorem find_go (s : ByteArray) : ∀ (d k : Nat) (i : Int), 0 ≤ i → i + d = 9 → d < k → vars_find.l0 k s vars9 9 i = some (fndR (fndG s d i))
  | 0, k, i, h0, h1, hk => by
    obtain ⟨k, rfl⟩ : ∃ m, k = m + 1 := ⟨k - 1, by omega⟩
    rw [vars_find.l0, if_neg (by omega)]
    rfl
  | d + 1, k, i, h0, h1, hk => by
    obtain ⟨k, rfl⟩ : ∃ m, k = m + 1 := ⟨k - 1, by omega⟩
    have hw : wrap64 (i + 1) = i + 1 := by unfold wrap64; omega
    rw [vars_find.l0, if_pos (by omega), if_pos h0, if_pos (by rw [vars9_len]; omega), hw, find_go s d k (i + 1) (by omega) (by omega) (by omega), fndG]
    by_cases he : (nmV i).toList = s.toList
    · rw [if_pos he, show fndR i = (nmV i, kdV i, stV i, i, true) from if_pos h0]
      exact if_pos he
    · rw [if_neg he]
      exact if_neg he
theorem find_eq (k : Nat) (hk : 10 ≤ k) (s : ByteArray) : vars_find.f k s = some (fndR (fndF s)) := by
  unfold vars_find.f
  rw [vars9_eq, Option.bind_some, vars9_len]
  exact find_go s 9 k 0 (Int.le_refl _) rfl (by omega)
def defF (s : ByteArray) : ByteArray × Int := if 0 ≤ fndF s then (stV (fndF s), 0) else ((⟨#[]⟩ : ByteArray), 2)
theorem default_eq (k : Nat) (hk : 10 ≤ k) (s : ByteArray) : vars_Default.f k s = some (defF s) := by
  unfold vars_Default.f defF
  rw [find_eq k hk, Option.bind_some, fndR]
  by_cases h : 0 ≤ fndF s
  · rw [if_pos h, if_pos h]; rfl
  · rw [if_neg h, if_neg h]; rfl
def okB (c : Int) : Bool := decide (32 ≤ c) && decide (c ≤ 126)
def trueL : List UInt8 := [116, 114, 117, 101]
def falseL : List UInt8 := [102, 97, 108, 115, 101]
def formV (kd : Int) (v : ByteArray) : ByteArray × Bool :=
  if kd = 0 then (v, decide (v.toList = trueL) || decide (v.toList = falseL))
  else if kd = 1 then (if (parF v 10).2 = 0 then (showB 10 (parF v 10).1, true) else ((⟨#[]⟩ : ByteArray), false))
  else if (bytesOf v).all okB = true then (v, decide (v.size ≤ 128)) else ((⟨#[]⟩ : ByteArray), false)
theorem par_range (s : ByteArray) (b : Int) (hb : 2 ≤ b ∧ b ≤ 36) (hs : s.size ≤ 9223372036854775806) : 0 ≤ (parF s b).1 ∧ (parF s b).1 < 4294967296 := by
  have hp : ∀ (l : List Int) (n : Int) (g : Bool), (g = false → 0 ≤ n ∧ n < 4294967296) → ∀ m, parL b l n g = some (m, false) → 0 ≤ m ∧ m < 4294967296 := by
    intro l
    induction l with
    | nil =>
      intro n g hg m hm
      simp only [parL_nil, Option.some.injEq, Prod.mk.injEq] at hm
      obtain ⟨rfl, rfl⟩ := hm
      exact hg rfl
    | cons c l ih =>
      intro n g hg m hm
      rw [parL_cons] at hm
      split at hm
      · split at hm
        · exact ih n true (fun h => by cases h) m hm
        · rename_i hgf
          have hn := hg (by simpa using hgf)
          have hv := val_range c b
          refine ih _ _ (fun h => ?_) m hm
          have h := of_decide_eq_false h
          have h2 : 0 ≤ n * b := Int.mul_nonneg hn.1 (by omega)
          omega
      · cases hm
  have hq : ∀ (neg : Bool) (l : List Int), 0 ≤ (resF neg (parL b l 0 false)).1 ∧ (resF neg (parL b l 0 false)).1 < 4294967296 := by
    intro neg l
    cases he : parL b l 0 false with
    | none => exact ⟨(by decide : (0 : Int) ≤ 0), (by decide : (0 : Int) < 4294967296)⟩
    | some y =>
      obtain ⟨m, g⟩ := y
      cases g with
      | true => exact ⟨(by decide : (0 : Int) ≤ 0), (by decide : (0 : Int) < 4294967296)⟩
      | false =>
        have := hp l 0 false (fun _ => ⟨by decide, by decide⟩) m he
        cases neg with
        | true => rw [resF_neg]; dsimp only; omega
        | false => rw [resF_pos]; exact this
  unfold parF
  rw [if_pos hb]
  split
  · split
    · exact ⟨by decide, by decide⟩
    · exact hq _ _
  · split
    · exact ⟨by decide, by decide⟩
    · exact hq _ _
theorem text_go (v : ByteArray) (hv : v.size ≤ 140737488351232) : ∀ (d k : Nat) (i : Int), 0 ≤ i → i + d = v.size → d < k → vars_variable_form.l0 k v v.size i = some (if ((bytesOf v).drop i.toNat).all okB = true then (v, decide (v.size ≤ 128)) else ((⟨#[]⟩ : ByteArray), false))
  | 0, k, i, h0, h1, hk => by
    obtain ⟨k, rfl⟩ : ∃ m, k = m + 1 := ⟨k - 1, by omega⟩
    rw [vars_variable_form.l0, if_neg (by omega), List.drop_eq_nil_of_le (by rw [bytesOf_length]; omega), List.all_nil, if_pos rfl]
    congr 2
    exact decide_eq_decide.2 (by omega)
  | d + 1, k, i, h0, h1, hk => by
    obtain ⟨k, rfl⟩ : ∃ m, k = m + 1 := ⟨k - 1, by omega⟩
    have hw : wrap64 (i + 1) = i + 1 := by unfold wrap64; omega
    rw [vars_variable_form.l0, if_pos (by omega), if_pos h0, if_pos (by omega), hw, text_go v hv d k (i + 1) (by omega) (by omega) (by omega), bytes_at v i h0 (by omega), List.all_cons, okB]
    by_cases h2 : bt v i < 32
    · rw [if_pos h2]; simp [show ¬ 32 ≤ bt v i by omega]
    · rw [if_neg h2]
      by_cases h3 : bt v i > 126
      · rw [if_pos h3]; simp [show ¬ bt v i ≤ 126 by omega]
      · rw [if_neg h3]; simp [show 32 ≤ bt v i by omega, show bt v i ≤ 126 by omega]
theorem form_var_eq (k : Nat) (nm st v : ByteArray) (kd : Int) (hv : v.size ≤ 140737488351232) (hk : v.size + 100 < k) : vars_variable_form.f k nm kd st v = some (formV kd v) := by
  unfold vars_variable_form.f formV
  by_cases h0 : kd = 0
  · rw [if_pos h0, if_pos h0, show ([116, 114, 117, 101] : List UInt8) = trueL from rfl, show ([102, 97, 108, 115, 101] : List UInt8) = falseL from rfl]
    by_cases h1 : v.toList = trueL
    · rw [if_pos h1]; simp [h1]
    · rw [if_neg h1, decide_eq_false h1, Bool.false_or]
      congr 2
      by_cases h2 : v.toList = falseL
      · rw [decide_eq_true h2]; exact beq_iff_eq.2 h2
      · rw [decide_eq_false h2]; exact beq_eq_false_iff_ne.2 h2
  · rw [if_neg h0, if_neg h0]
    by_cases h1 : kd = 1
    · rw [if_pos h1, if_pos h1, parse_eq k v 10 (by omega) (by omega), Option.bind_some]
      by_cases h2 : (parF v 10).2 = 0
      · have hr := par_range v 10 (by decide) (by omega)
        rw [if_pos h2, if_pos h2, digit_Show.f, if_pos hr, if_pos rfl]
        rfl
      · rw [if_neg h2, if_neg h2]
    · rw [if_neg h1, if_neg h1, text_go v hv v.size k 0 (Int.le_refl _) (by omega) (by omega)]
      rfl
def formF (s v : ByteArray) : ByteArray × Int := if 0 ≤ fndF s then (if (formV (kdV (fndF s)) v).2 = true then ((formV (kdV (fndF s)) v).1, 0) else ((⟨#[]⟩ : ByteArray), 27)) else ((⟨#[]⟩ : ByteArray), 2)
theorem form_eq (k : Nat) (s v : ByteArray) (hv : v.size ≤ 140737488351232) (hk : v.size + 100 < k) : vars_Form.f k s v = some (formF s v) := by
  unfold vars_Form.f formF
  rw [find_eq k (by omega), Option.bind_some, fndR]
  by_cases h : 0 ≤ fndF s
  · rw [if_pos h, if_pos h, if_pos rfl, form_var_eq k _ _ v _ hv hk, Option.bind_some]
    split <;> rfl
  · rw [if_neg h, if_neg h]; rfl
/-- May a setting stand behind the variable of number 'last'? -/
def okV (last : Int) (x : S40) : Bool := decide (0 ≤ fndF x.f0) && (formV (kdV (fndF x.f0)) x.f1).2 && decide (last < fndF x.f0) && decide ((formV (kdV (fndF x.f0)) x.f1).1.toList = x.f1.toList) && !decide ((formV (kdV (fndF x.f0)) x.f1).1.toList = (stV (fndF x.f0)).toList)
def rightL : List S40 → Int → Bool
  | [], _ => true
  | x :: r, last => okV last x && rightL r (fndF x.f0)
def rightF (l : List S40) : Bool := rightL l (-1)
def Fits (l : List S40) : Prop := ∀ x ∈ l, x.f0.size ≤ 140737488351232 ∧ x.f1.size ≤ 140737488351232
theorem at_drop (l : List S40) (i : Int) (h0 : 0 ≤ i) (h1 : i < l.length) : l.drop i.toNat = rd_T40 l i :: l.drop (i + 1).toNat := by
  rw [List.drop_eq_getElem_cons (show i.toNat < l.length by omega), show (i + 1).toNat = i.toNat + 1 by omega]
  simp [rd_T40, List.getD_eq_getElem?_getD, List.getElem?_eq_getElem (show i.toNat < l.length by omega)]
theorem rd_mem (l : List S40) (i : Int) (h0 : 0 ≤ i) (h1 : i < l.length) : rd_T40 l i ∈ l := by
  have h := at_drop l i h0 h1
  exact List.mem_of_mem_drop (h ▸ List.mem_cons_self ..)
theorem right_go (l : List S40) (hf : Fits l) : ∀ (d k : Nat) (i last : Int), 0 ≤ i → i + d = l.length → l.length < 1125899906842624 → d + 140737488351400 < k → vars_Right.l0 k last l l.length i = some (rightL (l.drop i.toNat) last)
  | 0, k, i, last, h0, h1, hl, hk => by
    obtain ⟨k, rfl⟩ : ∃ m, k = m + 1 := ⟨k - 1, by omega⟩
    rw [vars_Right.l0, if_neg (by omega), List.drop_eq_nil_of_le (by omega)]
    rfl
  | d + 1, k, i, last, h0, h1, hl, hk => by
    obtain ⟨k, rfl⟩ : ∃ m, k = m + 1 := ⟨k - 1, by omega⟩
    have hw : wrap64 (i + 1) = i + 1 := by unfold wrap64; omega
    have hx := hf _ (rd_mem l i h0 (by omega))
    rw [vars_Right.l0, if_pos (by omega), if_pos h0, if_pos (by omega), find_eq k (by omega), Option.bind_some, hw, right_go l hf d k (i + 1) _ (by omega) (by omega) hl (by omega), at_drop l i h0 (by omega), rightL, okV, form_var_eq k _ _ _ _ hx.2 (by omega), Option.bind_some]
    generalize rd_T40 l i = x
    unfold fndR
    by_cases h : 0 ≤ fndF x.f0
    · rw [if_pos h, if_pos rfl, decide_eq_true h]
      by_cases h2 : (formV (kdV (fndF x.f0)) x.f1).2 = true
      · rw [if_pos h2, h2]
        by_cases h3 : fndF x.f0 ≤ last
        · rw [if_pos h3]; simp [show ¬ last < fndF x.f0 by omega]
        · rw [if_neg h3]
          by_cases h4 : (formV (kdV (fndF x.f0)) x.f1).1.toList = x.f1.toList
          · rw [if_pos h4]
            by_cases h5 : (formV (kdV (fndF x.f0)) x.f1).1.toList = (stV (fndF x.f0)).toList
            · rw [if_pos h5]; simp [h5]
            · rw [if_neg h5]; simp [h4, show last < fndF x.f0 by omega, h4 ▸ h5]
          · rw [if_neg h4]; simp [h4]
      · rw [if_neg h2]; simp [h2]
    · rw [if_neg h, if_neg (by decide)]; simp [h]
theorem right_eq (l : List S40) (hf : Fits l) (hl : l.length < 1125899906842624) (k : Nat) (hk : l.length + 140737488351400 < k) : vars_Right.f k l = some (rightF l) := right_go l hf l.length k 0 (-1) (Int.le_refl _) (by omega) hl hk
end Go.Proofs.YtefhngadeimklaaDoor.Q
end
section
set_option linter.unusedSimpArgs false
set_option linter.unusedVariables false
namespace Go.Proofs.YtefhngadeimklaaDoor.Q
open Go.RowKit Go.Proofs.YtefhngadeimklaaDoorW.PrintWords Go.Proofs.YtefhngadeimklaaDoorW.PrintLast Go.Proofs.YtefhngadeimklaaDoorW.PrintMore
attribute [local go_sem] max2_int min2_int max_two min_two max_three min_three max_four min_four
theorem info57s : (Tryd.prog.info? 57).map (·.size) = some 3 := by kernel_rfl
theorem fndR_no (s : ByteArray) : (fndR (fndF s)).2.2.2.1 = fndF s := by
  have h := fndF_range s
  unfold fndR
  split
  · rfl
  · show (-1 : Int) = _
    omega
set_option maxHeartbeats 1000000 in
theorem gtC_calls (x : S40) (n : Int) (gn : Nat) (w : World) (hh : w.heap[gn]? = some (.cells #[.int .i64 n] 3 (0, 0))) :
    Calls Tryd.prog 42 #[.agg #[.string x.f0, .string x.f1], .pointer (some ⟨gn, 0, none⟩)] w fun e w' => e = .returned (.bool (decide (n < fndF x.f0))) ∧ Below w.heap.size w w' := by
  have hu40 := Tryd.underlying40
  have hu57 := Tryd.underlying57
  have hlt := blk_lt hh
  have h4 := fndR_no x.f0
  have hfe := find_eq 10 (by decide) x.f0
  generalize hfr : fndR (fndF x.f0) = R at h4 hfe
  obtain ⟨r1, r2, r3, r4, r5⟩ := R
  have h4 : r4 = fndF x.f0 := h4
  have HC := Aside0.mk (fun W : World => vars_find.calls 10 x.f0 r1 r2 r3 r4 r5 W hfe)
  have H4 := Aside0.mk h4
  rw [← h4]
  have HB := Aside0.mk (Below.refl w.heap.size w)
  have HH := Aside0.mk hh
  have HLT := Aside0.mk hlt
  clear hh hlt h4 hfe hfr
  go_enter Tryd.func42, Tryd.ntmps42
  go_wp2_with (first
    | ((with_reducible refine gate_dst (N := 2) rfl ?_); refine box_event ?hg (N := 2) ?hd (cs := #[.string x.f0, .string x.f1]) (t := 40) ?hr ?_; (case hd => rfl); (case hg => rfl); (case hr => first | (go_simp; done) | (go_simp; rfl)); intro ga hg w1 hbox hb; have BK := Aside0.mk hbox; have hz0 := (blk_cell BK.out 0).trans rfl; have hz1 := (blk_cell BK.out 1).trans rfl; have hf0 := blk_frozen BK.out 0; have hf1 := blk_frozen BK.out 1; have hz2 : w1.cell? ⟨gn, 0, none⟩ = some (.int .i64 n) := (hb.cell (p := ⟨gn, 0, none⟩) HLT.out).trans ((blk_cell HH.out 0).trans rfl); have HB1 := Aside0.mk hb; clear hbox hb hg)
    | (go_at_call 37; (with_reducible refine (HC.out _).mono ?_); rintro e w2 ⟨rfl, hb⟩; replace hz2 := (hb.cell (World.block_lt_of_cell? _ _ hz2)).trans hz2; have HB2 := Aside0.mk (below_step HB1.out hb); clear hb; clear hz0 hz1 hf0 hf1)
    | ((with_reducible refine gate_dst (N := 4) rfl ?_); refine box_event ?hg (N := 4) ?hd (cs := #[.string ⟨#[]⟩, .int .i64 0, .string ⟨#[]⟩]) (t := 57) ?hr ?_; (case hd => rfl); (case hg => rfl); (case hr => first | (go_simp; done) | (go_simp; rfl)); intro g4 hg4 w3 hbox hb; have BK4 := Aside0.mk hbox; replace hz2 := (hb.cell (World.block_lt_of_cell? _ _ hz2)).trans hz2; have HB3 := Aside0.mk (below_step HB2.out hb); have HG4 := Aside0.mk (show w.heap.size ≤ g4 by rw [hg4]; exact HB2.out.size); clear hbox hb hg4)
    | (refine store_box rfl rfl 57 (.tmp 4) (.tmp 11) rfl (.agg #[.string r1, .int .i64 r2, .string r3]) [.string r1, .int .i64 r2, .string r3] rfl rfl rfl info57s (by simp [Value.oneCell']) BK4.out rfl ?_; intro w4 hbox hg; replace hz2 := hg.cell hz2 (fun e => by injection e with e; have := HG4.out; have := HLT.out; have e : gn = g4 := e; omega); have HB4 := Aside0.mk (HB3.out.grown hg HB3.out.size (fun k hk => by injection hk with hk; have := HG4.out; omega)); clear hbox hg))
  go_ret
  exact ⟨by rw [H4.out]; rfl, HB4.out⟩
/-- The first place of a setting whose variable stands behind n; -1: none. -/
def idxG (n : Int) : List S40 → Int
  | [] => -1
  | x :: r => if n < fndF x.f0 then 0 else if idxG n r < 0 then -1 else idxG n r + 1
theorem idxG_range (n : Int) : ∀ l : List S40, -1 ≤ idxG n l ∧ idxG n l < l.length
  | [] => ⟨Int.le_refl _, by simp [idxG]⟩
  | x :: r => by
    have ih := idxG_range n r
    unfold idxG
    rw [List.length_cons]
    split
    · omega
    · split <;> omega
theorem idxG_drop (n : Int) : ∀ (l : List S40) (i : Nat), (∀ j, j < i → i ≤ l.length → ¬ n < fndF (rd_T40 l j).f0) → i ≤ l.length → idxG n l = if idxG n (l.drop i) < 0 then -1 else idxG n (l.drop i) + i
  | l, 0, _, _ => by
    have := idxG_range n l
    rw [List.drop_zero]
    split <;> omega
  | [], i + 1, _, hl => by simp at hl
  | x :: r, i + 1, h, hl => by
    have hl' : i ≤ r.length := by simpa using hl
    have ih := idxG_drop n r i (fun j hj _ => by
      have := h (j + 1) (by omega) hl
      simpa [rd_T40] using this) hl'
    have h0 : ¬ n < fndF x.f0 := by simpa [rd_T40] using h 0 (by omega) hl
    have hr := idxG_range n (r.drop i)
    rw [List.drop_succ_cons, idxG, if_neg h0, ih]
    by_cases hq : idxG n (List.drop i r) < 0
    · simp [hq]
    · simp only [hq, if_false]
      rw [if_neg (by omega)]
      omega
set_option maxHeartbeats 2000000 in
set_option maxRecDepth 100000 in
theorem indexGt_calls (n : Int) (gn : Nat) (A : Option Addr) (c : Nat) (l : List S40) (w : World) (hC : Kd.C k40 w A l.length l) (hh : w.heap[gn]? = some (.cells #[.int .i64 n] 3 (0, 0))) :
    Calls Tryd.prog 41 #[.slice A l.length c, .func (.func 42) #[] #[.pointer (some ⟨gn, 0, none⟩)]] w fun e w' => e = .returned (.int .i64 (idxG n l)) ∧ Below w.heap.size w w' := by
  have hu40 := Tryd.underlying40
  have hlt := blk_lt hh
  have HC := Aside0.mk hC
  have HH := Aside0.mk hh
  have HLT := Aside0.mk hlt
  have HF := Aside0.mk (fun (x : S40) (W : World) (hb : Below w.heap.size w W) => gtC_calls x n gn W (by rw [hb.block gn hlt]; exact hh))
  clear hC hh hlt
  go_enter Tryd.func41, Tryd.ntmps41
  go_wp2
  go_loopg [8] l.length (fun kq v8 w' => ∃ i : Int, v8 = .int .i64 i ∧ Aside0 (0 ≤ i ∧ i + kq = l.length) ∧ Aside0 (∀ j : Nat, j < i.toNat → ¬ n < fndF (rd_T40 l j).f0) ∧ Aside0 (Below w.heap.size w w'))
  case atStart => exact ⟨0, rfl, ⟨by omega, by omega⟩, ⟨fun j hj => absurd hj (by simp)⟩, ⟨Below.refl _ _⟩⟩
  case round =>
    obtain ⟨i, rfl, HI, HZ, HB⟩ := hrel
    cases gk with
    | zero =>
      have hlt : decide (i < (l.length : Int)) = false := decide_eq_false (by have := HI.out; omega)
      go_wp2
      go_ret
      have hz := HZ.out
      have hi := HI.out
      refine ⟨?_, HB.out⟩
      rw [idxG_drop n l i.toNat (fun j hj _ => Int.not_lt.2 (hz j hj)) (by omega), List.drop_eq_nil_of_le (by omega)]
      rfl
    | succ k1 =>
      have hi := HI.out
      have hm := Kd.C_max HC.out
      have hlt : decide (i < (l.length : Int)) = true := decide_eq_true (by omega)
      have p1 : (0 ≤ i) = True := eq_true (by omega)
      have p2 : (i < (l.length : Int)) = True := eq_true (by omega)
      obtain ⟨ad, eA, hx0, hx1⟩ := at_T40 (Kd.C_below HC.out HB.out) i (by omega) (by omega)
      cases eA
      have HIN := Aside0.mk (show n < fndF (rd_T40 l i).f0 → idxG n l = i from fun h => by
        rw [idxG_drop n l i.toNat (fun j hj _ => HZ.out j hj) (by omega), List.drop_eq_getElem_cons (show i.toNat < l.length by omega)]
        have hg : l[i.toNat]'(by omega) = rd_T40 l i := by simp [rd_T40, List.getD_eq_getElem?_getD, List.getElem?_eq_getElem (show i.toNat < l.length by omega)]
        rw [hg, idxG, if_pos h, if_neg (by omega)]
        omega)
      have hwr : IntKind.i64.wrap (i + 1) = i + 1 := (i64_w _).trans (by unfold wrap64; omega)
      have hwr2 : wrap64 (i + 1) = i + 1 := by unfold wrap64; omega
      clear hi hm
      by_cases hz : n < fndF (rd_T40 l i).f0
      · have hzb : decide (n < fndF (rd_T40 l i).f0) = true := decide_eq_true hz
        have HZN := Aside0.mk hz
        clear hz
        go_wp2_with (first
          | (go_at_call 42; (with_reducible refine (HF.out (rd_T40 l i) _ HB.out).mono ?_); rintro e w2 ⟨rfl, hb⟩; have HB2 := Aside0.mk (below_step HB.out hb); clear hb))
        go_ret
        exact ⟨by rw [HIN.out HZN.out]; rfl, HB2.out⟩
      · have hzb : decide (n < fndF (rd_T40 l i).f0) = false := decide_eq_false hz
        have HZN := Aside0.mk hz
        clear hz
        go_wp2_with (first
          | (go_at_call 42; (with_reducible refine (HF.out (rd_T40 l i) _ HB.out).mono ?_); rintro e w2 ⟨rfl, hb⟩; have HB2 := Aside0.mk (below_step HB.out hb); clear hb))
        go_roundg k1
        case measure => omega
        case rel =>
          have hi := HI.out
          refine ⟨i + 1, rfl, ⟨by omega, by omega⟩, ⟨fun j hj => ?_⟩, HB2⟩
          by_cases hji : j = i.toNat
          · subst hji
            rw [show ((i.toNat : Nat) : Int) = i by omega]
            exact HZN.out
          · exact HZ.out j (by omega)
end Go.Proofs.YtefhngadeimklaaDoor.Q
end
section
set_option linter.unusedSimpArgs false
set_option linter.unusedVariables false
namespace Go.Proofs.YtefhngadeimklaaDoor.Q
open Go.RowKit Go.Proofs.YtefhngadeimklaaDoorW.PrintWords Go.Proofs.YtefhngadeimklaaDoorW.PrintLast Go.Proofs.YtefhngadeimklaaDoorW.PrintMore
attribute [local go_sem] max2_int min2_int max_two min_two max_three min_three max_four min_four
theorem one_reads (gx : Nat) (x : S40) (w : World) (hx : w.heap[gx]? = some (.cells #[.string x.f0, .string x.f1] 40 (0, 0))) : Kd.C k40 w (some ⟨gx, 0, none⟩) 1 [x] :=
  ⟨rfl, by decide, fun _ => ⟨_, rfl, fun j p hj => by
    match j, hj with
    | 0, hj =>
      obtain rfl : x = p := by simpa using hj
      refine ⟨[.string x.f0, .string x.f1], rfl, k40_mk _ _, fun i u hu => ?_⟩
      rw [Addr.add_lit, Nat.zero_mul, Nat.zero_add, Nat.zero_add, blk_cell hx, ← Array.getElem?_toList]
      exact hu⟩⟩
/-- slices.Insert of one setting into a row of one's own, anywhere. -/
theorem insert_calls (gx : Nat) (x : S40) (v : Value) (l : List S40) (i : Nat) (w : World) (base : Nat) (hR : Kd.R k40 40 w base (fun _ => True) v l) (hi : i ≤ l.length) (hb : base ≤ w.heap.size) (hln : l.length ≤ 1000000) (hx : w.heap[gx]? = some (.cells #[.string x.f0, .string x.f1] 40 (0, 0))) (hne : ∀ k, v.ownBlock = some k → gx ≠ k) :
    Calls Tryd.prog 43 #[v, .int .i64 i, .slice (some ⟨gx, 0, none⟩) 1 1] w fun e w' => ∃ v', e = .returned v' ∧ Kd.R k40 40 w' base (fun _ => True) v' (l.take i ++ x :: l.drop i) ∧ Below base w w' := by
  by_cases he : i = l.length
  · subst he
    rw [List.take_length, List.drop_length]
    exact insertEnd_calls gx x v l w base hR hb hln (one_reads gx x w hx)
  · obtain ⟨A, c, rfl, hc, hC⟩ := Kd.R_reads hR
    cases A with
    | none =>
      rw [C_nil_eq hC] at hi he
      simp at hi he
      omega
    | some ad =>
      obtain ⟨g, rfl⟩ := Kd.R_head hR
      by_cases hroom : l.length + 1 ≤ c
      · exact insertRoom_calls gx x g c l i w base hR (by omega) hroom hb hln hx (hne g (by simp [Value.ownBlock]))
      · exact insertGrow_calls gx x g c l i w base hR (by omega) (by omega) hb hln hx
/-- Ahead of the first whose variable stands behind n; at the end, if there is none. -/
def atG (n : Int) (l : List S40) : Int := if idxG n l < 0 then l.length else idxG n l
def insS (n : Int) (x : S40) (l : List S40) : List S40 := l.take (atG n l).toNat ++ x :: l.drop (atG n l).toNat
def vars_Set.f (k : Nat) (l0 : List S40) (a1 a2 : ByteArray) : Option (List S40 × Int) := (vars_Right.f k l0).bind fun t => if t = true then ((vars_Form.f k a1 a2).bind fun b => if b.2 = 0 then ((vars_find.f k a1).bind fun q => if l0.length ≤ 1000000 then (if b.1.toList = q.2.2.1.toList then some (delN a1 l0, 0) else some (insS q.2.2.2.1 ⟨a1, b.1⟩ (delN a1 l0), 0)) else none) else some (([] : List S40), b.2)) else some (([] : List S40), 1)
theorem delN_len (s : ByteArray) (l : List S40) : (delN s l).length ≤ l.length := List.length_filter_le _ _
theorem below_tr {n : Nat} {a b c : World} (h1 : Below n a b) (h2 : Below n b c) : Below n a c :=
  ⟨h2.1.trans h1.1, h2.2.trans h1.2, h2.3.trans h1.3, Nat.le_trans h1.4 h2.4, fun k hk => (h2.5 k hk).trans (h1.5 k hk)⟩
theorem two_boxes (w3 : World) (o1 o2 : Obj) (n : Nat) (w : World) (hn : n ≤ w3.heap.size) (hb : Below n w w3) : ∃ W4 : World, W4 = (w3.alloc o1).alloc o2 ∧ W4.heap[w3.heap.size]? = some o1 ∧ W4.heap[w3.heap.size + 1]? = some o2 ∧ w3.heap.size + 1 < W4.heap.size ∧ Below n w W4 := by
  have hs : (w3.alloc o1).heap.size = w3.heap.size + 1 := World.size_alloc _ _
  refine ⟨_, rfl, ?_, ?_, ?_, (hb.alloc hn _).alloc (by rw [hs]; omega) _⟩
  · have h2 : Below (w3.alloc o1).heap.size (w3.alloc o1) ((w3.alloc o1).alloc o2) := below_alloc (Below.refl _ _) _
    rw [h2.block w3.heap.size (by omega)]
    exact heap_alloc_new w3 o1
  · rw [← hs]
    exact heap_alloc_new (w3.alloc o1) o2
  · rw [World.size_alloc, hs]
    omega
theorem near {n : Nat} {w w1 w2 : World} (h : Below n w w1) (hn : n ≤ w.heap.size) (h2 : Below w1.heap.size w1 w2) : Below n w w2 :=
  ⟨h2.1.trans h.1, h2.2.trans h.2, h2.3.trans h.3, Nat.le_trans h.4 h2.4, fun k hk => (h2.5 k (by have := h.4; omega)).trans (h.5 k hk)⟩
theorem far_step {n m : Nat} {w w1 w2 : World} (h : Below n w w1) (hm : n ≤ m) (h2 : Below m w1 w2) : Below n w w2 :=
  ⟨h2.1.trans h.1, h2.2.trans h.2, h2.3.trans h.3, Nat.le_trans h.4 h2.4, fun k hk => (h2.5 k (by omega)).trans (h.5 k hk)⟩
set_option maxHeartbeats 8000000 in
set_option maxRecDepth 100000 in
theorem vars_Set.calls (k : Nat) (A0 : Option Addr) (c0 : Nat) (l0 : List S40) (a1 a2 : ByteArray) (r1 : List S40) (r2 : Int) (w : World) (ht : Tabs w) (hr0 : Kd.C k40 w A0 l0.length l0) (hc0 : l0.length ≤ c0) (h : vars_Set.f k l0 a1 a2 = some (r1, r2)) :
    Calls Tryd.prog 13 #[.slice A0 l0.length c0, .string a1, .string a2] w fun e w' => ∃ v0_ : Value, e = .returned (.tuple #[v0_, .int .i64 r2]) ∧ Kd.R k40 40 w' w.heap.size (fun _ => True) v0_ r1 ∧ Below w.heap.size w w' := by
  have hu40 := Tryd.underlying40
  have hu57 := Tryd.underlying57
  unfold vars_Set.f at h
  obtain ⟨t, A1, H⟩ := Option.bind_eq_some_iff.mp h
  clear h
  have HRI := Aside0.mk (vars_Right.calls k A0 c0 l0 t w ht hr0 hc0 A1)
  have HC := Aside0.mk hr0
  have HT := Aside0.mk ht
  cases t with
  | false =>
    rw [if_neg (by decide)] at H
    simp only [Option.some.injEq, Prod.mk.injEq] at H
    obtain ⟨rfl, rfl⟩ := H
    clear hr0 hc0 ht A1
    go_enter Tryd.func13, Tryd.ntmps13
    go_wp2_with (first
      | (go_at_call 16; refine HRI.out.mono ?_; rintro e w1 ⟨rfl, hb⟩; have HB := Aside0.mk hb; clear hb))
    go_ret2
    exact ⟨_, rfl, Kd.R_nil _ _ _ _ _, HB.out⟩
  | true =>
    rw [if_pos rfl] at H
    obtain ⟨⟨s, e0⟩, A2, H⟩ := Option.bind_eq_some_iff.mp H
    dsimp only at H
    have HFO := Aside0.mk (fun (W : World) (hb : Below w.heap.size w W) => vars_Form.calls k a1 a2 s e0 W (Tabs.below ht hb) A2)
    by_cases he : e0 = 0
    · subst he
      rw [if_pos rfl] at H
      obtain ⟨⟨q1, q2, q3, q4, q5⟩, A3, H⟩ := Option.bind_eq_some_iff.mp H
      dsimp only at H
      have HFI := Aside0.mk (fun (W : World) => vars_find.calls k a1 q1 q2 q3 q4 q5 W A3)
      by_cases hl : l0.length ≤ 1000000
      · rw [if_pos hl] at H
        have HL := Aside0.mk hl
        have HDL := Aside0.mk (delN_len a1 l0)
        by_cases hs : s.toList = q3.toList
        · rw [if_pos hs] at H
          simp only [Option.some.injEq, Prod.mk.injEq] at H
          obtain ⟨rfl, rfl⟩ := H
          have hsb : (s.toList == q3.toList) = true := beq_iff_eq.2 hs
          clear hr0 hc0 ht A1 A2 A3 hl hs
          go_enter Tryd.func13, Tryd.ntmps13
          go_wp2_with (first
            | (go_at_call 16; refine HRI.out.mono ?_; rintro e w1 ⟨rfl, hb⟩; have HB := Aside0.mk hb; clear hb)
            | (go_at_call 17; refine (HFO.out _ HB.out).mono ?_; rintro e w2 ⟨rfl, hb⟩; replace HB := Aside0.mk (below_step HB.out hb); clear hb)
            | (go_at_call 37; refine (HFI.out _).mono ?_; rintro e w3 ⟨rfl, hb⟩; replace HB := Aside0.mk (below_step HB.out hb); clear hb))
          obtain ⟨W4, hW4, h10, h11, hg, hb4⟩ := two_boxes w3 (.cells #[.string q1, .int .i64 q2, .string q3] 57 (0, 0)) (.cells #[.int .i64 q4] 3 (0, 0)) w.heap.size w HB.out.4 HB.out
          have HB4 := Aside0.mk hb4
          have HW4 := Aside0.mk (show w.heap.size ≤ W4.heap.size from hb4.4)
          rw [← hW4]
          have HG := Aside0.mk (⟨Nat.le_succ _, hg⟩ : w3.heap.size ≤ w3.heap.size + 1 ∧ w3.heap.size + 1 < W4.heap.size)
          have H10 := Aside0.mk h10
          have H11 := Aside0.mk h11
          clear h10 h11 hg hb4 hW4
          generalize hg11 : w3.heap.size + 1 = g11 at H11 HG ⊢
          generalize hg10 : w3.heap.size = g10 at H10 HG ⊢
          clear hg11 hg10
          go_wp2_with (first
            | (go_at_call 39; (with_reducible refine (clone40_calls A0 c0 l0 _ (Kd.C_below HC.out HB4.out) (by have := HL.out; omega)).mono ?_); rintro e w5 ⟨v5, rfl, hR5, hb5⟩; have HR5 := Aside0.mk hR5; have HB5 := Aside0.mk hb5; clear hR5 hb5)
            | (go_at_call 40; (with_reducible refine (named_calls a1 _).mono ?_); rintro e w6 ⟨gb, rfl, hgb, hh6, hb6⟩; have HH6 := Aside0.mk hh6; have HR6 := Aside0.mk (Kd.R_below HR5.out hb6); have HB6 := Aside0.mk (near HB5.out (Nat.le_refl _) hb6); clear hgb hh6 hb6)
            | (go_at_call 38; (with_reducible refine (delete40_calls a1 gb v5 l0 _ W4.heap.size HR6.out HB6.out.4 (by have := HL.out; omega) HH6.out).mono ?_); rintro e w7 ⟨v7, rfl, hR7, hb7⟩; obtain ⟨A7, c7, rfl, hc7, hC7⟩ := Kd.R_reads hR7; have HR7 := Aside0.mk hR7; have HC7 := Aside0.mk hC7; have HB7 := Aside0.mk (below_tr HB6.out hb7); have hz : w7.cell? ⟨g10, 2, none⟩ = some (.string q3) := (HB7.out.cell (p := ⟨g10, 2, none⟩) (Nat.lt_of_le_of_lt HG.out.1 HG.out.2)).trans ((blk_cell H10.out 2).trans rfl); clear hR7 hC7 hc7 hb7))
          go_ret2
          exact ⟨_, rfl, Kd.R_lower HR7.out HW4.out, far_step HB4.out HW4.out HB7.out⟩
        · rw [if_neg hs] at H
          simp only [Option.some.injEq, Prod.mk.injEq] at H
          obtain ⟨rfl, rfl⟩ := H
          have hsb : (s.toList == q3.toList) = false := beq_eq_false_iff_ne.2 hs
          have hdl := delN_len a1 l0
          have HIG := Aside0.mk (fun (g11 : Nat) (A : Option Addr) (c : Nat) (W : World) (hC : Kd.C k40 W A (delN a1 l0).length (delN a1 l0)) (hh : W.heap[g11]? = some (.cells #[.int .i64 q4] 3 (0, 0))) => indexGt_calls q4 g11 A c (delN a1 l0) W hC hh)
          have HIN := Aside0.mk (fun (i : Nat) (hi : i ≤ (delN a1 l0).length) (v : Value) (w8 : World) (base : Nat) (hR : Kd.R k40 40 w8 base (fun _ => True) v (delN a1 l0)) (hb : base ≤ w8.heap.size) => insert_calls w8.heap.size ⟨a1, s⟩ v (delN a1 l0) i (w8.alloc (.cells #[.string a1, .string s] 40 (0, 0))) base (Kd.R_below hR (below_alloc (Below.refl _ _) _)) hi (by rw [World.size_alloc]; omega) (by omega) (heap_alloc_new w8 _) (fun k hk e => by have := Kd.R_lt hR k hk; omega))
          have HDE := Aside0.mk (fun (gb : Nat) (v : Value) (W : World) (base : Nat) (hR : Kd.R k40 40 W base (fun _ => True) v l0) (hb : base ≤ W.heap.size) (hh : W.heap[gb]? = some (.cells #[.string a1] 9 (0, 0))) => delete40_calls a1 gb v l0 W base hR hb (by omega) hh)
          have hrg := idxG_range q4 (delN a1 l0)
          unfold insS atG
          generalize delN a1 l0 = L at *
          by_cases hneg : idxG q4 L < 0
          · rw [if_pos hneg, Int.toNat_natCast]
            have dn : decide (idxG q4 L < 0) = true := decide_eq_true hneg
            generalize idxG q4 L = J at *
            clear hr0 hc0 ht A1 A2 A3 hl hs hdl hrg hneg
            go_enter Tryd.func13, Tryd.ntmps13
            go_wp2_with (first
              | (go_at_call 16; refine HRI.out.mono ?_; rintro e w1 ⟨rfl, hb⟩; have HB := Aside0.mk hb; clear hb)
              | (go_at_call 17; refine (HFO.out _ HB.out).mono ?_; rintro e w2 ⟨rfl, hb⟩; replace HB := Aside0.mk (below_step HB.out hb); clear hb)
              | (go_at_call 37; refine (HFI.out _).mono ?_; rintro e w3 ⟨rfl, hb⟩; replace HB := Aside0.mk (below_step HB.out hb); clear hb))
            obtain ⟨W4, hW4, h10, h11, hg, hb4⟩ := two_boxes w3 (.cells #[.string q1, .int .i64 q2, .string q3] 57 (0, 0)) (.cells #[.int .i64 q4] 3 (0, 0)) w.heap.size w HB.out.4 HB.out
            have HB4 := Aside0.mk hb4
            have HW4 := Aside0.mk (show w.heap.size ≤ W4.heap.size from hb4.4)
            rw [← hW4]
            have HG := Aside0.mk (⟨Nat.le_succ _, hg⟩ : w3.heap.size ≤ w3.heap.size + 1 ∧ w3.heap.size + 1 < W4.heap.size)
            have H10 := Aside0.mk h10
            have H11 := Aside0.mk h11
            clear h10 h11 hg hb4 hW4
            generalize hg11 : w3.heap.size + 1 = g11 at H11 HG ⊢
            generalize hg10 : w3.heap.size = g10 at H10 HG ⊢
            clear hg11 hg10
            go_wp2_with (first
              | (go_at_call 39; (with_reducible refine (clone40_calls A0 c0 l0 _ (Kd.C_below HC.out HB4.out) (by have := HL.out; omega)).mono ?_); rintro e w5 ⟨v5, rfl, hR5, hb5⟩; have HR5 := Aside0.mk hR5; have HB5 := Aside0.mk hb5; clear hR5 hb5)
              | (go_at_call 40; (with_reducible refine (named_calls a1 _).mono ?_); rintro e w6 ⟨gb, rfl, hgb, hh6, hb6⟩; have HH6 := Aside0.mk hh6; have HR6 := Aside0.mk (Kd.R_below HR5.out hb6); have HB6 := Aside0.mk (near HB5.out (Nat.le_refl _) hb6); clear hgb hh6 hb6)
              | (go_at_call 38; (with_reducible refine (HDE.out gb v5 _ W4.heap.size HR6.out HB6.out.4 HH6.out).mono ?_); rintro e w7 ⟨v7, rfl, hR7, hb7⟩; obtain ⟨A7, c7, rfl, hc7, hC7⟩ := Kd.R_reads hR7; have HR7 := Aside0.mk hR7; have HC7 := Aside0.mk hC7; have HB7 := Aside0.mk (below_tr HB6.out hb7); have H117 := Aside0.mk ((HB7.out.block g11 HG.out.2).trans H11.out); have hz : w7.cell? ⟨g10, 2, none⟩ = some (.string q3) := (HB7.out.cell (p := ⟨g10, 2, none⟩) (Nat.lt_of_le_of_lt HG.out.1 HG.out.2)).trans ((blk_cell H10.out 2).trans rfl); clear hR7 hC7 hc7 hb7)
              | (go_at_call 41; (with_reducible refine (HIG.out g11 A7 c7 _ HC7.out H117.out).mono ?_); rintro e w8 ⟨rfl, hb8⟩; have HR8 := Aside0.mk (Kd.R_below HR7.out hb8); have HB8 := Aside0.mk (near HB7.out (Nat.le_refl _) hb8); clear hb8; clear hz)
              | (go_at_call 43; (with_reducible refine (HIN.out L.length (Nat.le_refl _) _ w8 W4.heap.size HR8.out HB8.out.4).mono ?_); rintro e w9 ⟨v9, rfl, hR9, hb9⟩; have HR9 := Aside0.mk hR9; have HB9 := Aside0.mk (below_tr (HB8.out.alloc HB8.out.4 _) hb9); clear hR9 hb9))
            go_ret2
            exact ⟨_, rfl, Kd.R_lower HR9.out HW4.out, far_step HB4.out HW4.out HB9.out⟩
          · rw [if_neg hneg]
            obtain ⟨J, hJ⟩ : ∃ J : Nat, idxG q4 L = (J : Int) := ⟨(idxG q4 L).toNat, by omega⟩
            have dn : decide (idxG q4 L < 0) = false := decide_eq_false hneg
            have HJ := Aside0.mk (show J ≤ L.length by omega)
            rw [hJ] at dn HIG ⊢
            rw [Int.toNat_natCast]
            clear hr0 hc0 ht A1 A2 A3 hl hs hdl hrg hneg hJ
            go_enter Tryd.func13, Tryd.ntmps13
            go_wp2_with (first
              | (go_at_call 16; refine HRI.out.mono ?_; rintro e w1 ⟨rfl, hb⟩; have HB := Aside0.mk hb; clear hb)
              | (go_at_call 17; refine (HFO.out _ HB.out).mono ?_; rintro e w2 ⟨rfl, hb⟩; replace HB := Aside0.mk (below_step HB.out hb); clear hb)
              | (go_at_call 37; refine (HFI.out _).mono ?_; rintro e w3 ⟨rfl, hb⟩; replace HB := Aside0.mk (below_step HB.out hb); clear hb))
            obtain ⟨W4, hW4, h10, h11, hg, hb4⟩ := two_boxes w3 (.cells #[.string q1, .int .i64 q2, .string q3] 57 (0, 0)) (.cells #[.int .i64 q4] 3 (0, 0)) w.heap.size w HB.out.4 HB.out
            have HB4 := Aside0.mk hb4
            have HW4 := Aside0.mk (show w.heap.size ≤ W4.heap.size from hb4.4)
            rw [← hW4]
            have HG := Aside0.mk (⟨Nat.le_succ _, hg⟩ : w3.heap.size ≤ w3.heap.size + 1 ∧ w3.heap.size + 1 < W4.heap.size)
            have H10 := Aside0.mk h10
            have H11 := Aside0.mk h11
            clear h10 h11 hg hb4 hW4
            generalize hg11 : w3.heap.size + 1 = g11 at H11 HG ⊢
            generalize hg10 : w3.heap.size = g10 at H10 HG ⊢
            clear hg11 hg10
            go_wp2_with (first
              | (go_at_call 39; (with_reducible refine (clone40_calls A0 c0 l0 _ (Kd.C_below HC.out HB4.out) (by have := HL.out; omega)).mono ?_); rintro e w5 ⟨v5, rfl, hR5, hb5⟩; have HR5 := Aside0.mk hR5; have HB5 := Aside0.mk hb5; clear hR5 hb5)
              | (go_at_call 40; (with_reducible refine (named_calls a1 _).mono ?_); rintro e w6 ⟨gb, rfl, hgb, hh6, hb6⟩; have HH6 := Aside0.mk hh6; have HR6 := Aside0.mk (Kd.R_below HR5.out hb6); have HB6 := Aside0.mk (near HB5.out (Nat.le_refl _) hb6); clear hgb hh6 hb6)
              | (go_at_call 38; (with_reducible refine (HDE.out gb v5 _ W4.heap.size HR6.out HB6.out.4 HH6.out).mono ?_); rintro e w7 ⟨v7, rfl, hR7, hb7⟩; obtain ⟨A7, c7, rfl, hc7, hC7⟩ := Kd.R_reads hR7; have HR7 := Aside0.mk hR7; have HC7 := Aside0.mk hC7; have HB7 := Aside0.mk (below_tr HB6.out hb7); have H117 := Aside0.mk ((HB7.out.block g11 HG.out.2).trans H11.out); have hz : w7.cell? ⟨g10, 2, none⟩ = some (.string q3) := (HB7.out.cell (p := ⟨g10, 2, none⟩) (Nat.lt_of_le_of_lt HG.out.1 HG.out.2)).trans ((blk_cell H10.out 2).trans rfl); clear hR7 hC7 hc7 hb7)
              | (go_at_call 41; (with_reducible refine (HIG.out g11 A7 c7 _ HC7.out H117.out).mono ?_); rintro e w8 ⟨rfl, hb8⟩; have HR8 := Aside0.mk (Kd.R_below HR7.out hb8); have HB8 := Aside0.mk (near HB7.out (Nat.le_refl _) hb8); clear hb8; clear hz)
              | (go_at_call 43; (with_reducible refine (HIN.out J HJ.out _ w8 W4.heap.size HR8.out HB8.out.4).mono ?_); rintro e w9 ⟨v9, rfl, hR9, hb9⟩; have HR9 := Aside0.mk hR9; have HB9 := Aside0.mk (below_tr (HB8.out.alloc HB8.out.4 _) hb9); clear hR9 hb9))
            go_ret2
            exact ⟨_, rfl, Kd.R_lower HR9.out HW4.out, far_step HB4.out HW4.out HB9.out⟩
      · rw [if_neg hl] at H
        cases H
    · rw [if_neg he] at H
      simp only [Option.some.injEq, Prod.mk.injEq] at H
      obtain ⟨rfl, rfl⟩ := H
      have heb : (e0 == 0) = false := beq_eq_false_iff_ne.2 he
      have HE := Aside0.mk he
      clear hr0 hc0 ht A1 A2
      go_enter Tryd.func13, Tryd.ntmps13
      go_wp2_with (first
        | (go_at_call 16; refine HRI.out.mono ?_; rintro e w1 ⟨rfl, hb⟩; have HB := Aside0.mk hb; clear hb)
        | (go_at_call 17; refine (HFO.out _ HB.out).mono ?_; rintro e w2 ⟨rfl, hb⟩; replace HB := Aside0.mk (below_step HB.out hb); clear hb))
      go_ret2
      exact ⟨_, rfl, Kd.R_nil _ _ _ _ _, HB.out⟩
end Go.Proofs.YtefhngadeimklaaDoor.Q
end
section
set_option linter.unusedSimpArgs false
set_option linter.unusedVariables false
namespace Go.Proofs.YtefhngadeimklaaDoor.Q
open Go.RowKit Go.Proofs.YtefhngadeimklaaDoorW.PrintWords Go.Proofs.YtefhngadeimklaaDoorW.PrintLast
theorem showB_size (b u : Int) : (showB b u).size = (showL b.toNat u.toNat).length := by
  show (showL b.toNat u.toNat).toArray.size = _
  rw [List.size_toArray]
theorem showB_small (b u : Int) (hb : 2 ≤ b) (hu : 0 ≤ u ∧ u < 4294967296) : 1 ≤ (showB b u).size ∧ (showB b u).size ≤ 32 := by
  rw [showB_size]
  exact ⟨showL_pos _ _, showL_len b.toNat (by omega) 31 u.toNat (by omega)⟩
theorem bytes_show (b u : Int) : bytesOf (showB b u) = showI b u := rfl
theorem num_ch (r : Int) (h : 0 ≤ r ∧ r < 36) : numF (chI r) = r := by
  unfold numF chI
  split <;> split <;> (try split) <;> (try split) <;> omega
theorem val_ch (r b : Int) (h : 0 ≤ r ∧ r < b) (hb : 2 ≤ b ∧ b ≤ 36) : valF (chI r) b = (r, true) := by
  unfold valF
  rw [num_ch r (by omega), if_pos (by omega)]
theorem parL_snoc (b c : Int) (l : List Int) : ∀ n g, parL b (l ++ [c]) n g = (parL b l n g).bind fun p => parL b [c] p.1 p.2 := by
  induction l with
  | nil => intro n g; rfl
  | cons x l ih =>
    intro n g
    rw [List.cons_append, parL_cons, parL_cons]
    by_cases h1 : (valF x b).2 = true
    · rw [if_pos h1, if_pos h1]
      cases g
      · rw [if_neg Bool.false_ne_true, if_neg Bool.false_ne_true]; exact ih _ _
      · rw [if_pos rfl, if_pos rfl]; exact ih _ _
    · rw [if_neg h1, if_neg h1]; rfl
theorem par_show (b : Int) (hb : 2 ≤ b ∧ b ≤ 36) (m : Nat) : (m : Int) < 4294967296 → parL b (showI b m) 0 false = some ((m : Int), false) := by
  induction m using Nat.strongRecOn with
  | ind m ih =>
    intro hm
    by_cases h : (m : Int) < b
    · rw [showI_small (by omega) h hb.2, parL_cons, val_ch m b ⟨by omega, h⟩ hb, if_pos rfl, if_neg Bool.false_ne_true]
      show parL b [] (0 * b + (m : Int)) (decide (0 * b + (m : Int) ≥ 4294967296)) = _
      rw [Int.zero_mul, Int.zero_add, decide_eq_false (by omega), parL_nil]
    · have hq : (m : Int) / b = ((m / b.toNat : Nat) : Int) := by
        obtain ⟨x, rfl⟩ := Int.eq_ofNat_of_zero_le (show 0 ≤ b by omega)
        rfl
      have hlt : m / b.toNat < m := Nat.div_lt_self (by omega) (by omega)
      have hdm := Int.mul_ediv_add_emod (m : Int) b
      have hm0 := Int.emod_nonneg (m : Int) (show b ≠ 0 by omega)
      have hm1 := Int.emod_lt_of_pos (m : Int) (show 0 < b by omega)
      rw [showI_big hb.1 hb.2 (by omega), parL_snoc, hq, ih _ hlt (by omega), Option.bind_some, parL_cons, val_ch _ b ⟨hm0, hm1⟩ hb, if_pos rfl, if_neg Bool.false_ne_true]
      rw [← hq]
      have e : (m : Int) / b * b + (m : Int) % b = m := by rw [Int.mul_comm]; exact hdm
      show parL b [] ((m : Int) / b * b + (m : Int) % b) (decide ((m : Int) / b * b + (m : Int) % b ≥ 4294967296)) = _
      rw [e, decide_eq_false (by omega), parL_nil]
theorem par_show' (b u : Int) (hb : 2 ≤ b ∧ b ≤ 36) (hu : 0 ≤ u ∧ u < 4294967296) : parL b (showI b u) 0 false = some (u, false) := by
  obtain ⟨m, rfl⟩ := Int.eq_ofNat_of_zero_le hu.1
  exact par_show b hb m hu.2
theorem ch_big (r : Int) (h : 0 ≤ r) : 48 ≤ chI r := by unfold chI; split <;> omega
theorem show_first (b : Int) (hb : 2 ≤ b ∧ b ≤ 36) (m : Nat) : ∀ c ∈ showI b m, 48 ≤ c := by
  induction m using Nat.strongRecOn with
  | ind m ih =>
    intro c hc
    by_cases h : (m : Int) < b
    · rw [showI_small (by omega) h hb.2] at hc
      rw [List.mem_singleton.1 hc]
      exact ch_big _ (by omega)
    · have hq : (m : Int) / b = ((m / b.toNat : Nat) : Int) := by
        obtain ⟨x, rfl⟩ := Int.eq_ofNat_of_zero_le (show 0 ≤ b by omega)
        rfl
      have hm0 := Int.emod_nonneg (m : Int) (show b ≠ 0 by omega)
      rw [showI_big hb.1 hb.2 (by omega), hq] at hc
      rcases List.mem_append.1 hc with hc | hc
      · exact ih _ (Nat.div_lt_self (by omega) (by omega)) c hc
      · rw [List.mem_singleton.1 hc]
        exact ch_big _ hm0
theorem show_nominus (b u : Int) (hb : 2 ≤ b ∧ b ≤ 36) (hu : 0 ≤ u ∧ u < 4294967296) : ¬ bt (showB b u) 0 = 45 := by
  obtain ⟨m, rfl⟩ := Int.eq_ofNat_of_zero_le hu.1
  have hs := showB_small b m hb.1 hu
  have hl : 0 < (showI b m).length := by rw [← bytes_show, bytesOf_length]; omega
  have h := show_first b hb m ((showI b m)[0]) (List.getElem_mem hl)
  intro he
  rw [← rd_bytesOf, bytes_show] at he
  have : rd (showI b m) 0 = (showI b m)[0] := by simp [rd, List.getD_eq_getElem?_getD, List.getElem?_eq_getElem hl]
  omega
theorem parF_show (b u : Int) (hb : 2 ≤ b ∧ b ≤ 36) (hu : 0 ≤ u ∧ u < 4294967296) : parF (showB b u) b = (u, 0) := by
  have hs := showB_small b u hb.1 hu
  unfold parF
  rw [if_pos hb, if_neg (fun h => show_nominus b u hb hu h.2), if_neg (by omega), bytes_show, par_show' b u hb hu, resF_pos]
theorem bytesOf_cong {s t : ByteArray} (h : s.toList = t.toList) : bytesOf s = bytesOf t := by
  unfold bytesOf
  rw [← ByteArray.toList_eq, ← ByteArray.toList_eq, h]
theorem B_ext {s t : ByteArray} (h : s.toList = t.toList) : s = t := by
  have h2 : bytesOf s = bytesOf t := bytesOf_cong h
  have h3 : s.data.toList = t.data.toList := by
    have hi : ∀ a b : UInt8, (a.toNat : Int) = (b.toNat : Int) → a = b := fun a b e => UInt8.toNat_inj.1 (by omega)
    exact (List.map_inj_right (fun a b e => hi a b e)).1 h2
  cases s; cases t
  congr 1
  exact Array.toList_inj.1 h3
/-- The form of a form is itself. -/
theorem formV_0 (v : ByteArray) : formV 0 v = (v, decide (v.toList = trueL) || decide (v.toList = falseL)) := if_pos rfl
theorem formV_1 (v : ByteArray) : formV 1 v = if (parF v 10).2 = 0 then (showB 10 (parF v 10).1, true) else ((⟨#[]⟩ : ByteArray), false) := by
  unfold formV
  rw [if_neg (by decide), if_pos rfl]
theorem formV_2 (kd : Int) (v : ByteArray) (h0 : ¬ kd = 0) (h1 : ¬ kd = 1) : formV kd v = if (bytesOf v).all okB = true then (v, decide (v.size ≤ 128)) else ((⟨#[]⟩ : ByteArray), false) := by
  unfold formV
  rw [if_neg h0, if_neg h1]
theorem formV_again (kd : Int) (v : ByteArray) (hs : v.size ≤ 140737488351232) (h : (formV kd v).2 = true) : formV kd (formV kd v).1 = formV kd v := by
  by_cases h0 : kd = 0
  · subst h0
    rw [formV_0 v]
    exact formV_0 v
  · by_cases h1 : kd = 1
    · subst h1
      rw [formV_1 v] at h ⊢
      by_cases h2 : (parF v 10).2 = 0
      · have hr := par_range v 10 (by decide) (by omega)
        rw [if_pos h2]
        show formV 1 (showB 10 (parF v 10).1) = _
        rw [formV_1, parF_show 10 _ (by decide) hr]
        rfl
      · rw [if_neg h2] at h
        cases h
    · rw [formV_2 kd v h0 h1] at h ⊢
      by_cases h2 : (bytesOf v).all okB = true
      · rw [if_pos h2]
        show formV kd v = _
        rw [formV_2 kd v h0 h1, if_pos h2]
      · rw [if_neg h2] at h
        cases h
theorem nm_fnd (s : ByteArray) (h : 0 ≤ fndF s) : nmV (fndF s) = s := B_ext (fndG_name s 9 0 (Int.le_refl _) h)
theorem fnd_inj {s t : ByteArray} (h : 0 ≤ fndF s) (e : fndF t = fndF s) : t.toList = s.toList := by
  rw [← nm_fnd s h, ← nm_fnd t (by omega), e]
theorem okV_known {last : Int} {x : S40} (h : okV last x = true) : 0 ≤ fndF x.f0 ∧ last < fndF x.f0 := by
  simp only [okV, Bool.and_eq_true, decide_eq_true_eq] at h
  exact ⟨h.1.1.1.1, h.1.1.2⟩
theorem okV_move {last m : Int} {x : S40} (h : okV last x = true) (hm : m < fndF x.f0) : okV m x = true := by
  simp only [okV, Bool.and_eq_true, decide_eq_true_eq] at h ⊢
  exact ⟨⟨⟨h.1.1.1, hm⟩, h.1.2⟩, h.2⟩
theorem right_cons {x : S40} {r : List S40} {last : Int} (h : rightL (x :: r) last = true) : okV last x = true ∧ rightL r (fndF x.f0) = true := by
  rw [rightL, Bool.and_eq_true] at h
  exact h
theorem right_all : ∀ (l : List S40) (last : Int), rightL l last = true → ∀ y ∈ l, last < fndF y.f0
  | [], _, _, y, hy => by cases hy
  | x :: r, last, h, y, hy => by
    obtain ⟨h1, h2⟩ := right_cons h
    have hk := okV_known h1
    rcases List.mem_cons.1 hy with rfl | hy
    · exact hk.2
    · have := right_all r _ h2 y hy
      omega
theorem right_raise : ∀ (l : List S40) (last m : Int), rightL l last = true → (∀ y ∈ l, m < fndF y.f0) → rightL l m = true
  | [], _, _, _, _ => rfl
  | x :: r, last, m, h, hy => by
    obtain ⟨h1, h2⟩ := right_cons h
    rw [rightL, Bool.and_eq_true]
    exact ⟨okV_move h1 (hy x List.mem_cons_self), h2⟩
theorem right_filter (p : S40 → Bool) : ∀ (l : List S40) (last : Int), rightL l last = true → rightL (l.filter p) last = true
  | [], _, _ => rfl
  | x :: r, last, h => by
    obtain ⟨h1, h2⟩ := right_cons h
    have ih := right_filter p r _ h2
    rw [List.filter_cons]
    split
    · rw [rightL, Bool.and_eq_true]
      exact ⟨h1, ih⟩
    · exact right_raise _ _ _ ih (fun y hy => by
        have := right_all r _ h2 y (List.mem_filter.1 hy).1
        have := (okV_known h1).2
        omega)
/-- Those of a variable ahead of n; those behind. -/
def preV (n : Int) (l : List S40) : List S40 := l.filter fun y => decide (fndF y.f0 < n)
def sufV (n : Int) (l : List S40) : List S40 := l.filter fun y => decide (n < fndF y.f0)
theorem preV_lt {n : Int} {l : List S40} : ∀ y ∈ preV n l, fndF y.f0 < n := fun y hy => by simpa using (List.mem_filter.1 hy).2
theorem sufV_lt {n : Int} {l : List S40} : ∀ y ∈ sufV n l, n < fndF y.f0 := fun y hy => by simpa using (List.mem_filter.1 hy).2
theorem filter_none {p : S40 → Bool} {l : List S40} (h : ∀ y ∈ l, p y = false) : l.filter p = [] := List.filter_eq_nil_iff.2 (fun y hy => by rw [h y hy]; exact Bool.false_ne_true)
theorem filter_all' {p : S40 → Bool} {l : List S40} (h : ∀ y ∈ l, p y = true) : l.filter p = l := List.filter_eq_self.2 h
theorem del_split (s : ByteArray) (hs : 0 ≤ fndF s) : ∀ (l : List S40) (last : Int), rightL l last = true → delN s l = preV (fndF s) l ++ sufV (fndF s) l
  | [], _, _ => rfl
  | x :: r, last, h => by
    obtain ⟨h1, h2⟩ := right_cons h
    have hk := okV_known h1
    have ih := del_split s hs r _ h2
    have ha := right_all r _ h2
    rw [delN_cons, preV, sufV, List.filter_cons, List.filter_cons]
    rcases Int.lt_trichotomy (fndF x.f0) (fndF s) with hc | hc | hc
    · rw [if_neg (fun e => by have := fndF_congr e; omega), if_pos (by simpa using hc), if_neg (by simp; omega), ih]
      rfl
    · rw [if_pos (fnd_inj hs hc), if_neg (by simp; omega), if_neg (by simp; omega), ih]
      rfl
    · rw [if_neg (fun e => by have := fndF_congr e; omega), if_neg (by simp; omega), if_pos (by simpa using hc)]
      have e1 : preV (fndF s) r = [] := filter_none (fun y hy => by have := ha y hy; simp; omega)
      have e2 : sufV (fndF s) r = r := filter_all' (fun y hy => by have := ha y hy; simp; omega)
      rw [ih, e1, e2, List.nil_append]
      exact (congrArg (x :: ·) e2.symm).trans (by rw [show r.filter (fun y => decide (fndF y.f0 < fndF s)) = [] from e1]; rfl)
theorem insS_eq (n : Int) (x : S40) (l : List S40) : insS n x l = if idxG n l < 0 then l ++ [x] else l.take (idxG n l).toNat ++ x :: l.drop (idxG n l).toNat := by
  unfold insS atG
  split
  · rw [Int.toNat_natCast, List.take_length, List.drop_length]
  · rfl
theorem insS_cons (n : Int) (x y : S40) (l : List S40) (h : ¬ n < fndF y.f0) : insS n x (y :: l) = y :: insS n x l := by
  have hr := idxG_range n l
  rw [insS_eq, insS_eq, idxG, if_neg h]
  by_cases hn : idxG n l < 0
  · rw [if_pos hn, if_pos hn, if_pos (by omega)]; rfl
  · rw [if_neg hn, if_neg hn, if_neg (by omega), show (idxG n l + 1).toNat = (idxG n l).toNat + 1 by omega, List.take_succ_cons, List.drop_succ_cons]
    rfl
theorem ins_split (n : Int) (x : S40) : ∀ (p q : List S40), (∀ y ∈ p, fndF y.f0 < n) → (∀ y ∈ q, n < fndF y.f0) → insS n x (p ++ q) = p ++ x :: q
  | [], [], _, _ => rfl
  | [], y :: q, _, hq => by
    have h := hq y List.mem_cons_self
    rw [List.nil_append, insS_eq, idxG, if_pos h]
    rfl
  | y :: p, q, hp, hq => by
    have h := hp y List.mem_cons_self
    rw [List.cons_append, insS_cons n x y _ (by omega), ins_split n x p q (fun z hz => hp z (List.mem_cons_of_mem _ hz)) hq]
    rfl
theorem right_insert (n : Int) (x : S40) (hx : okV (-1) x = true) (hn : fndF x.f0 = n) : ∀ (p q : List S40) (last : Int), last < n → (∀ y ∈ p, fndF y.f0 < n) → (∀ y ∈ q, n < fndF y.f0) → rightL (p ++ q) last = true → rightL (p ++ x :: q) last = true
  | [], q, last, hl, _, hq, h => by
    rw [List.nil_append, rightL, Bool.and_eq_true]
    exact ⟨okV_move hx (by omega), right_raise q _ _ h (by rw [hn]; exact hq)⟩
  | y :: p, q, last, hl, hp, hq, h => by
    obtain ⟨h1, h2⟩ := right_cons h
    rw [List.cons_append, rightL, Bool.and_eq_true]
    exact ⟨h1, right_insert n x hx hn p q _ (hp y List.mem_cons_self) (fun z hz => hp z (List.mem_cons_of_mem _ hz)) hq h2⟩
def setF (l : List S40) (s v : ByteArray) : List S40 × Int :=
  if rightF l = true then (if (formF s v).2 = 0 then (if (formF s v).1.toList = (stV (fndF s)).toList then (delN s l, 0) else (insS (fndF s) ⟨s, (formF s v).1⟩ (delN s l), 0)) else (([] : List S40), (formF s v).2)) else (([] : List S40), 1)
theorem formF_ok {s v : ByteArray} (h : (formF s v).2 = 0) : 0 ≤ fndF s ∧ (formV (kdV (fndF s)) v).2 = true ∧ (formF s v).1 = (formV (kdV (fndF s)) v).1 := by
  unfold formF at h ⊢
  split at h <;> rename_i h0
  · split at h <;> rename_i h1
    · rw [if_pos h0, if_pos h1]; exact ⟨h0, h1, rfl⟩
    · exact absurd h (by decide)
  · exact absurd h (by decide)
theorem okV_new {s v : ByteArray} (hs : v.size ≤ 140737488351232) (h : (formF s v).2 = 0) (hd : ¬ (formF s v).1.toList = (stV (fndF s)).toList) : okV (-1) ⟨s, (formF s v).1⟩ = true := by
  obtain ⟨h0, h1, h2⟩ := formF_ok h
  have h3 := formV_again _ v hs h1
  rw [h2] at hd ⊢
  simp only [okV, Bool.and_eq_true, decide_eq_true_eq, Bool.not_eq_true', decide_eq_false_iff_not]
  rw [h3]
  exact ⟨⟨⟨⟨h0, h1⟩, by omega⟩, rfl⟩, hd⟩
theorem setF_right (l : List S40) (s v : ByteArray) (hs : v.size ≤ 140737488351232) (h : (setF l s v).2 = 0) : rightF (setF l s v).1 = true := by
  unfold setF at h ⊢
  split at h <;> rename_i h0
  · rw [if_pos h0]
    split at h <;> rename_i h1
    · rw [if_pos h1]
      split at h <;> rename_i h2
      · rw [if_pos h2]; exact right_filter _ l _ h0
      · rw [if_neg h2]
        have hf := formF_ok h1
        have hsp := del_split s hf.1 l _ h0
        show rightL (insS _ _ _) (-1) = true
        rw [hsp, ins_split _ _ _ _ preV_lt sufV_lt]
        exact right_insert _ _ (okV_new hs h1 h2) rfl _ _ _ (by have h9 : 0 ≤ fndF s := hf.1; show -1 < fndF s; omega) preV_lt sufV_lt (by rw [← hsp]; exact right_filter _ l _ h0)
    · exact absurd h h1
  · exact absurd h (by decide)
end Go.Proofs.YtefhngadeimklaaDoor.Q
end
section
namespace Go.Proofs.YtefhngadeimklaaDoor.Q
open Go.RowKit Go.Proofs.YtefhngadeimklaaDoorW.PrintWords Go.Proofs.YtefhngadeimklaaDoorW.PrintLast Go.Proofs.YtefhngadeimklaaDoorW.PrintMore
set_option linter.unusedVariables false
set_option linter.unusedSimpArgs false

attribute [local go_sem] max2_int min2_int max_two min_two max_three min_three max_four min_four
/-! ### tinderref19_Names: function 22 -/
def tinderref19_Names.l0 : Nat → List ByteArray → Int → Option (List ByteArray)
  | 0, _, _ => none
  | k + 1, x1, x2 => if x2 < 9 then ((tinderref19_Variable.f x2).bind fun bt23001 => (if x1.length < 8796093022208 then (tinderref19_Names.l0 k (x1 ++ [bt23001.1]) (wrap64 (x2 + 1))) else (none))) else (some x1)
def tinderref19_Names.f (k : Nat)  : Option (List ByteArray) := tinderref19_Names.l0 k ([] : List ByteArray) 0

end Go.Proofs.YtefhngadeimklaaDoor.Q
end
section
namespace Go.Proofs.YtefhngadeimklaaDoor.Q
open Go.RowKit Go.Proofs.YtefhngadeimklaaDoorW.PrintWords Go.Proofs.YtefhngadeimklaaDoorW.PrintLast Go.Proofs.YtefhngadeimklaaDoorW.PrintMore
set_option linter.unusedVariables false
set_option linter.unusedSimpArgs false

attribute [local go_sem] max2_int min2_int max_two min_two max_three min_three max_four min_four
/-! ### vars_Names: function 21 -/
def vars_Names.l0 : Nat → List ByteArray → List (S57) → Int → Int → Option (List ByteArray)
  | 0, _, _, _, _ => none
  | k + 1, x1, x4, x5, x6 => if x6 < x5 then (if 0 ≤ x6 then (if x6 < (x4.length : Int) then (if x1.length < 8796093022208 then (vars_Names.l0 k (x1 ++ [(rd_T57 x4 x6).f0]) x4 x5 (wrap64 (x6 + 1))) else (none)) else (none)) else (none)) else (some x1)
def vars_Names.f (k : Nat)  : Option (List ByteArray) := (vars_all.f).bind fun t22001 => (vars_Names.l0 k ([] : List ByteArray) t22001 (t22001.length : Int) 0)

end Go.Proofs.YtefhngadeimklaaDoor.Q
end
