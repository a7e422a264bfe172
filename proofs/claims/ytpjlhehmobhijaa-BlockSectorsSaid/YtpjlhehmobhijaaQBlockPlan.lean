/- What Go functions of this program answer, as plain Lean functions, and that the calls answer so, wherever the plain function has an answer. Written by a program of this claim's own out of the translation. -/
import Derived.Test.YtpjlhehmobhijaaQ0
import Derived.Test.YtpjlhehmobhijaaQBlockPieces
namespace Go.Proofs.Ytpjlhehmobhijaa.Q
open Go.RowKit Go.Proofs.YtpjlhehmobhijaaW.PrintWords Go.Proofs.YtpjlhehmobhijaaW.PrintLast Go.Proofs.YtpjlhehmobhijaaW.PrintMore
set_option linter.unusedVariables false
set_option linter.unusedSimpArgs false

attribute [local go_sem] max2_int min2_int max_two min_two max_three min_three max_four min_four
/-! ### block_Plan: function 9 -/
mutual
def block_Plan.j0 : Nat → Int → Int → Bool → Option ((List (S28)) × Int)
  | 0, _, _, _ => none
  | k + 1, x0, x1, x24 => if x24 = true then (some (([] : List (S28)), 1)) else ((block_pieces.f k x0 x1).bind fun t10001 => (block_Plan.l0 k ([] : List (S28)) t10001 (t10001.length : Int) 0))
def block_Plan.l0 : Nat → List (S28) → List (S49) → Int → Int → Option ((List (S28)) × Int)
  | 0, _, _, _, _ => none
  | k + 1, x6, x27, x28, x29 => if x29 < x28 then (if 0 ≤ x29 then (if x29 < (x27.length : Int) then (if ((rd_T49 x27 x29).f2) < 512 then (if x6.length < 8796093022208 then ((some (x6 ++ [(⟨false, (rd_T49 x27 x29).f0⟩ : S28)] : List (S28))).bind fun y10006 => (if y10006.length < 8796093022208 then (block_Plan.l0 k (y10006 ++ [(⟨true, (rd_T49 x27 x29).f0⟩ : S28)]) x27 x28 (wrap64 (x29 + 1))) else (none))) else (none)) else (if x6.length < 8796093022208 then (block_Plan.l0 k (x6 ++ [(⟨true, (rd_T49 x27 x29).f0⟩ : S28)]) x27 x28 (wrap64 (x29 + 1))) else (none))) else (none)) else (none)) else (some (x6, 0))
end
def block_Plan.f (k : Nat) (a0 : Int) (a1 : Int) : Option ((List (S28)) × Int) := if a0 < 0 then (block_Plan.j0 k a0 a1 true) else (if a1 < 0 then (block_Plan.j0 k a0 a1 true) else (if a0 > 32768 then (block_Plan.j0 k a0 a1 true) else (block_Plan.j0 k a0 a1 (decide (a1 > (wrap64 (32768 - a0)))))))
theorem block_Plan.mono_l : ∀ k, (∀ y0 y1 y2, LeO (block_Plan.j0 k y0 y1 y2) (block_Plan.j0 (k + 1) y0 y1 y2)) ∧ (∀ y0 y1 y2 y3, LeO (block_Plan.l0 k y0 y1 y2 y3) (block_Plan.l0 (k + 1) y0 y1 y2 y3))
  | 0 => ⟨fun _ _ _ r h => by simp [block_Plan.j0] at h, fun _ _ _ _ r h => by simp [block_Plan.l0] at h⟩
  | k + 1 => by
    obtain ⟨ih0, ih1⟩ := block_Plan.mono_l k
    refine ⟨?_, ?_⟩
    · intro y0 y1 y2
      unfold block_Plan.j0
      repeat' first
      | (with_reducible exact ih0 _ _ _)
      | (with_reducible exact ih1 _ _ _ _)
      | (with_reducible exact block_pieces.mono _ _ _)
      | (with_reducible exact LeO.refl _)
      | (with_reducible exact LeO.none _)
      | (with_reducible refine LeO.ite ?_ ?_)
      | (with_reducible refine LeO.bind ?_ (fun _ => ?_))
      | exact ih0 _ _ _
      | exact ih1 _ _ _ _
      | exact block_pieces.mono _ _ _
      | exact LeO.none _
      | refine LeO.ite ?_ ?_
      | refine LeO.bind ?_ (fun _ => ?_)
    · intro y0 y1 y2 y3
      unfold block_Plan.l0
      repeat' first
      | (with_reducible exact ih0 _ _ _)
      | (with_reducible exact ih1 _ _ _ _)
      | (with_reducible exact block_pieces.mono _ _ _)
      | (with_reducible exact LeO.refl _)
      | (with_reducible exact LeO.none _)
      | (with_reducible refine LeO.ite ?_ ?_)
      | (with_reducible refine LeO.bind ?_ (fun _ => ?_))
      | exact ih0 _ _ _
      | exact ih1 _ _ _ _
      | exact block_pieces.mono _ _ _
      | exact LeO.none _
      | refine LeO.ite ?_ ?_
      | refine LeO.bind ?_ (fun _ => ?_)
theorem block_Plan.mono : ∀ a0 a1 k, LeO (block_Plan.f k a0 a1) (block_Plan.f (k + 1) a0 a1) := by
  intro a0 a1 k
  obtain ⟨ih0, ih1⟩ := block_Plan.mono_l k
  unfold block_Plan.f
  repeat' first
      | (with_reducible exact ih0 _ _ _)
      | (with_reducible exact ih1 _ _ _ _)
      | (with_reducible exact block_pieces.mono _ _ _)
      | (with_reducible exact LeO.refl _)
      | (with_reducible exact LeO.none _)
      | (with_reducible refine LeO.ite ?_ ?_)
      | (with_reducible refine LeO.bind ?_ (fun _ => ?_))
      | exact ih0 _ _ _
      | exact ih1 _ _ _ _
      | exact block_pieces.mono _ _ _
      | exact LeO.none _
      | refine LeO.ite ?_ ?_
      | refine LeO.bind ?_ (fun _ => ?_)
set_option maxHeartbeats 8000000 in
set_option maxRecDepth 100000 in
theorem block_Plan.calls (k : Nat) (a0 : Int) (a1 : Int) (r1 : List (S28)) (r2 : Int) (w : World) (h : block_Plan.f k a0 a1 = some (r1, r2)) :
    Calls Try.prog 9 #[.int .i64 a0, .int .i64 a1] w fun e w' => ∃ v0_ : Value, e = .returned (.tuple #[v0_, .int .i64 r2]) ∧ Kd.R k28 28 w' w.heap.size (fun _ => True) v0_ r1 ∧ Below w.heap.size w w' := by
  have hu49 := Try.underlying49
  have hu28 := Try.underlying28
  have HB := Aside0.mk (Below.refl w.heap.size w)
  have H : (if a0 < 0 then (block_Plan.j0 k a0 a1 true) else (if a1 < 0 then (block_Plan.j0 k a0 a1 true) else (if a0 > 32768 then (block_Plan.j0 k a0 a1 true) else (block_Plan.j0 k a0 a1 (decide (a1 > (wrap64 (32768 - a0)))))))) = some (r1, r2) := h
  clear h
  have HC3 := Aside0.mk H
  clear H
  go_enter Try.func9, Try.ntmps9
  go_upto_region 1 with (fail)
  go_cut [24] (fun v24 wc => ∃ (kq : Nat) (x24_2 : Bool), v24 = .bool x24_2 ∧ Aside0 (block_Plan.j0 kq a0 a1 x24_2 = some (r1, r2)) ∧ Aside0 (kq ≤ k) ∧ Aside0 (Below w.heap.size w wc))
  case first =>
    have H := HC3.out
    clear HC3
    by_cases c4 : a0 < 0
    · rw [if_pos c4] at H
      have c4b0 : decide (a0 < 0) = true := decide_eq_true c4
      clear c4
      (first | rw [c4b0] | (simp only [i64_w, i32_w]; rw [c4b0]) | skip)
      have H' := Aside0.mk H
      clear H
      go_wp2
      go_meet
      case rel => exact ⟨_, (true), (by first | rfl | (simp; done) | (simp [*]; done)), H', ⟨by first | omega | exact Nat.le_refl _⟩, ⟨by repeat (first | (with_reducible first | exact HB.out | apply below_alloc | apply pw_below_drewN | apply below_drew1) | exact HB.out)⟩⟩
    · rw [if_neg c4] at H
      have c4b0 : decide (a0 < 0) = false := decide_eq_false c4
      clear c4
      (first | rw [c4b0] | (simp only [i64_w, i32_w]; rw [c4b0]) | skip)
      by_cases c5 : a1 < 0
      · rw [if_pos c5] at H
        have c5b0 : decide (a1 < 0) = true := decide_eq_true c5
        clear c5
        have H' := Aside0.mk H
        clear H
        go_wp2
        go_meet
        case rel => exact ⟨_, (true), (by first | rfl | (simp; done) | (simp [*]; done)), H', ⟨by first | omega | exact Nat.le_refl _⟩, ⟨by repeat (first | (with_reducible first | exact HB.out | apply below_alloc | apply pw_below_drewN | apply below_drew1) | exact HB.out)⟩⟩
      · rw [if_neg c5] at H
        have c5b0 : decide (a1 < 0) = false := decide_eq_false c5
        clear c5
        by_cases c6 : a0 > 32768
        · rw [if_pos c6] at H
          have c6b0 : decide (32768 < a0) = true := decide_eq_true c6
          clear c6
          have H' := Aside0.mk H
          clear H
          go_wp2
          go_meet
          case rel => exact ⟨_, (true), (by first | rfl | (simp; done) | (simp [*]; done)), H', ⟨by first | omega | exact Nat.le_refl _⟩, ⟨by repeat (first | (with_reducible first | exact HB.out | apply below_alloc | apply pw_below_drewN | apply below_drew1) | exact HB.out)⟩⟩
        · rw [if_neg c6] at H
          have c6b0 : decide (32768 < a0) = false := decide_eq_false c6
          clear c6
          have H' := Aside0.mk H
          clear H
          go_wp2
          go_meet
          case rel => exact ⟨_, (decide (a1 > (wrap64 (32768 - a0)))), (by first | rfl | (simp; done) | (simp [*]; done)), H', ⟨by first | omega | exact Nat.le_refl _⟩, ⟨by repeat (first | (with_reducible first | exact HB.out | apply below_alloc | apply pw_below_drewN | apply below_drew1) | exact HB.out)⟩⟩
  case rest =>
    clear HC3
    try clear p2
    try clear c4
    try clear c4b0
    try clear c5
    try clear c5b0
    try clear c6
    try clear c6b0
    try clear p6
    obtain ⟨kq, x24_2, rfl, HA, HJ2, HB⟩ := hcut
    cases kq with
    | zero => exact absurd HA.out (by simp [block_Plan.j0])
    | succ kj2 =>
      have H := HA.out
      clear HA
      simp only [block_Plan.j0] at H
      by_cases c7 : x24_2 = true
      · subst c7
        have H1 : (some (([] : List (S28)), 1)) = some (r1, r2) := by rw [if_pos rfl] at H; exact H
        clear H
        have H := H1
        clear H1
        simp only [Option.some.injEq, Prod.mk.injEq] at H
        obtain ⟨rfl, rfl⟩ := H
        go_wp2
        go_ret2
        exact ⟨_, by first | rfl | (simp [errW_none, errW_some] <;> rfl) | (simp [*, errW_none, errW_some] <;> rfl), by first | exact Kd.R_nil _ _ _ _ _ | exact Kd.N_nil _ _ _ _ _ | exact Kd.V_nil _ _ _ _ _ | exact Kd.Q_nil _ _ _ _ _ | exact Kd.S_nil _ _ _ _ _, by repeat (first | (with_reducible first | exact HB.out | apply below_alloc | apply pw_below_drewN | apply below_drew1) | exact HB.out)⟩
      · replace c7 := Bool.eq_false_iff.mpr c7
        subst c7
        have H1 : ((block_pieces.f kj2 a0 a1).bind fun t10001 => (block_Plan.l0 kj2 ([] : List (S28)) t10001 (t10001.length : Int) 0)) = some (r1, r2) := by rw [if_neg (show ¬ (false = true) by decide)] at H; exact H
        clear H
        have H := H1
        clear H1
        replace H := Option.bind_eq_some_iff.mp H
        obtain ⟨t10001, A80, H⟩ := H
        replace H : (block_Plan.l0 kj2 ([] : List (S28)) t10001 (t10001.length : Int) 0) = some (r1, r2) := H
        have A8 := Aside0.mk A80
        clear A80
        have H' := Aside0.mk H
        clear H
        go_wp2_with (first | ((with_reducible refine gate_callee (f := 24) rfl ?_); refine goesL_ (some 27) rfl rfl Try.func24 (by kernel_rfl) rfl #[.int .i64 a0, .int .i64 a1] rfl (by (try simp only [List.map_toArray, List.map_cons, List.map_nil]); first | done | rfl | (simp only [List.length_drop, List.length_take]; rfl)) ?_; (with_reducible refine (block_pieces.calls kj2 a0 a1 t10001 _ A8.out).mono ?_); rintro e w9 ⟨v10002, rfl, ho0, hb⟩; refine ⟨_, rfl, ?_⟩; have n0_ := Aside0.mk (Kd.R_lower ho0 (below_size (by repeat (first | (with_reducible first | exact HB.out | apply below_alloc | apply pw_below_drewN | apply below_drew1) | exact HB.out)))); have n1_ := Aside0.mk (below_step (by repeat (first | (with_reducible first | exact HB.out | apply below_alloc | apply pw_below_drewN | apply below_drew1) | exact HB.out)) hb); clear HB; have HO10003 := n0_; have HB := n1_; clear n0_ n1_; (try clear hb); (try clear hb2); (try clear hk); (try clear hi); (try clear ho0); obtain ⟨Ao10, co10, eo10⟩ := Kd.R_slice HO10003.out; subst eo10))
        go_loopg [6, 29] kj2 (fun kq v6 v29 w' => ∃ (x6_2 : List (S28)) (x29_2 : Int), v29 = .int .i64 x29_2 ∧ Aside0 (block_Plan.l0 kq x6_2 t10001 (t10001.length : Int) x29_2 = some (r1, r2)) ∧ Aside0 (kq ≤ kj2) ∧ Aside0 (Kd.R k28 28 w' w.heap.size (fun _ => True) v6 x6_2) ∧ Aside0 (Kd.R k49 49 w' w.heap.size (fun _ => True) (.slice Ao10 t10001.length co10) t10001) ∧ Aside0 (Below w.heap.size w w'))
        case atStart => exact ⟨(([] : List (S28))), (0), (by first | rfl | (simp; done) | (simp [*]; done)), H', ⟨Nat.le_refl _⟩, ⟨by first | exact Kd.R_nil _ _ _ _ _ | exact Kd.N_nil _ _ _ _ _ | exact Kd.V_nil _ _ _ _ _ | exact Kd.Q_nil _ _ _ _ _ | exact Kd.S_nil _ _ _ _ _⟩, ⟨by (with_reducible repeat (first | apply Kd.R_alloc | apply Kd.R_drewN | apply Kd.R_drew)); exact HO10003.out⟩, ⟨by repeat (first | (with_reducible first | exact HB.out | apply below_alloc | apply pw_below_drewN | apply below_drew1) | exact HB.out)⟩⟩
        case round =>
          clear H'
          try clear c2
          try clear p2
          try clear c4
          try clear c4b0
          try clear c5
          try clear c5b0
          try clear c6
          try clear c6b0
          try clear p6
          try clear c7
          try clear c9
          try clear p2
          try clear p6
          obtain ⟨x6_2, x29_2, rfl, HA, HK2, HO_6, HO_27, HB⟩ := hrel
          cases gk with
          | zero => exact absurd HA.out (by simp [block_Plan.l0])
          | succ k2 =>
            have H := HA.out
            clear HA
            simp only [block_Plan.l0] at H
            by_cases c11 : x29_2 < (t10001.length : Int)
            · rw [if_pos c11] at H
              have c11b0 : decide (x29_2 < (t10001.length : Int)) = true := decide_eq_true c11
              clear c11
              by_cases c12 : 0 ≤ x29_2
              · rw [if_pos c12] at H
                have c12b0 : decide (0 ≤ x29_2) = true := decide_eq_true c12
                clear c12
                by_cases c13 : x29_2 < (t10001.length : Int)
                · rw [if_pos c13] at H
                  have c13b0 : decide (x29_2 < (t10001.length : Int)) = true := decide_eq_true c13
                  clear c13
                  by_cases c14 : ((rd_T49 t10001 x29_2).f2) < 512
                  · rw [if_pos c14] at H
                    have c14b0 : decide (((rd_T49 t10001 x29_2).f2) < 512) = true := decide_eq_true c14
                    clear c14
                    by_cases c15 : x6_2.length < 8796093022208
                    · rw [if_pos c15] at H
                      have LMc15 := Aside0.mk c15
                      clear c15
                      obtain ⟨y10006, hy10006⟩ : ∃ y_ : List (S28), y_ = (x6_2 ++ [(⟨false, (rd_T49 t10001 x29_2).f0⟩ : S28)]) := ⟨_, rfl⟩
                      replace H : (if y10006.length < 8796093022208 then (block_Plan.l0 k2 (y10006 ++ [(⟨true, (rd_T49 t10001 x29_2).f0⟩ : S28)]) t10001 (t10001.length : Int) (wrap64 (x29_2 + 1))) else (none)) = some (r1, r2) := by first | (rw [hy10006]; with_reducible exact H) | (have H2_ := (Option.bind_some _ _).symm.trans H; rw [hy10006]; with_reducible exact H2_) | (have H2_ := (Option.bind_some _ _).symm.trans H; with_reducible exact H2_) | with_reducible exact H | (rw [hy10006]; exact H) | exact H
                      have Ny10006 := Aside0.mk hy10006
                      clear hy10006
                      by_cases c16 : y10006.length < 8796093022208
                      · rw [if_pos c16] at H
                        have LMc16 := Aside0.mk c16
                        clear c16
                        obtain ⟨y10009, hy10009⟩ : ∃ y_ : List (S28), y_ = (y10006 ++ [(⟨true, (rd_T49 t10001 x29_2).f0⟩ : S28)]) := ⟨_, rfl⟩
                        replace H : (block_Plan.l0 k2 y10009 t10001 (t10001.length : Int) (wrap64 (x29_2 + 1))) = some (r1, r2) := by first | (rw [hy10009]; with_reducible exact H) | (have H2_ := (Option.bind_some _ _).symm.trans H; rw [hy10009]; with_reducible exact H2_) | (have H2_ := (Option.bind_some _ _).symm.trans H; with_reducible exact H2_) | with_reducible exact H | (rw [hy10009]; exact H) | exact H
                        have Ny10009 := Aside0.mk hy10009
                        clear hy10009
                        have H' := Aside0.mk H
                        clear H
                        have p10004 : 0 ≤ (x29_2 : Int) := of_decide_eq_true (by first | (with_reducible assumption) | assumption)
                        have q10004 : x29_2 < (t10001.length : Int) := of_decide_eq_true (by first | (with_reducible assumption) | assumption)
                        obtain ⟨ad10004, e10004, hx10004_0, hx10004_1, hx10004_2⟩ := at_T49 (Kd.R_reads' HO_27.out).2.2 x29_2 p10004 q10004
                        cases e10004
                        replace p10004 := eq_true p10004
                        replace q10004 := eq_true q10004
                        go_wp2_with (first | ((with_reducible refine gate_dst (N := 8) rfl ?_); refine box_event ?hg (N := 8) ?hd (cs := #[.int .i64 0, .int .i64 0, .int .i64 0]) (t := 49) ?hr ?_; (case hd => rfl); (case hg => rfl); (case hr => first | (go_simp; done) | (go_simp; rfl)); intro gb10005 hg w17 hbox hb; have n0_ := Aside0.mk (Kd.R_below (by (with_reducible repeat (first | apply Kd.R_alloc | apply Kd.R_drewN | apply Kd.R_drew)); exact HO_6.out) hb); have n1_ := Aside0.mk (Kd.R_below (Kd.R_elderB (by (with_reducible repeat (first | apply Kd.R_alloc | apply Kd.R_drewN | apply Kd.R_drew)); exact HO_27.out) gb10005 (Nat.le_of_eq hg.symm)) hb); have n2_ := Aside0.mk (below_step (by repeat (first | (with_reducible first | exact HB.out | apply below_alloc | apply pw_below_drewN | apply below_drew1) | exact HB.out)) hb); have n3_ := Aside0.mk (hbox); have n4_ := Aside0.mk ((by rw [hg]; exact (below_size (by repeat (first | (with_reducible first | exact HB.out | apply below_alloc | apply pw_below_drewN | apply below_drew1) | exact HB.out))) : w.heap.size ≤ gb10005)); have n5_ := Aside0.mk ((by rw [hg]; exact (below_size (by repeat (first | (with_reducible first | exact HB.out | apply below_alloc | apply pw_below_drewN | apply below_drew1) | exact HB.out))) : w.heap.size ≤ gb10005)); clear HO_6; clear HO_27; clear HB; have HO_6 := n0_; have HO_27 := n1_; have HB := n2_; have BK10005 := n3_; have GW10005 := n4_; have GE10005 := n5_; clear n0_ n1_ n2_ n3_ n4_ n5_; clear hb hbox hg; have hcz18_0 : w17.cell? ⟨gb10005, 0, none⟩ = some (.int .i64 0) := (blk_cell BK10005.out 0).trans rfl; have hcz18_1 : w17.cell? ⟨gb10005, 1, none⟩ = some (.int .i64 0) := (blk_cell BK10005.out 1).trans rfl; have hcz18_2 : w17.cell? ⟨gb10005, 2, none⟩ = some (.int .i64 0) := (blk_cell BK10005.out 2).trans rfl; have hfz18_0 := blk_frozen BK10005.out 0; have hfz18_1 := blk_frozen BK10005.out 1; have hfz18_2 := blk_frozen BK10005.out 2) | ((with_reducible refine gate_builtin (b := .append) (xs := #[.tmp 36, .tmp 40]) rfl ?_); at_builtin; refine Kd.R_append k28 (w0 := w) w.heap.size rfl (.tmp 36) (.tmp 40) 23 28 (.agg #[(.bool false), (.int .i64 0)]) 16 rfl Try.underlying23 info28 rfl (by decide) (by omega) u6 x6_2 (⟨false, (rd_T49 t10001 x29_2).f0⟩ : S28) [.bool false, .int .i64 ((rd_T49 t10001 x29_2).f0)] (fun _ => True) (fun _ => False) rfl (by first | (go_simp; done) | (go_simp; rfl)) ?aP (fun _ hk => hk.elim) ?aF ?aO ?aB ?aS ?aL ?_; (case aP => exact k28_mkM _ _ _ (⟨false, (rd_T49 t10001 x29_2).f0⟩ : S28)); (case aB => exact (by repeat (first | (with_reducible first | exact HB.out | apply below_alloc | apply pw_below_drewN | apply below_drew1 | refine below_set ?_ GE10005.out) | exact HB.out))); (case aF => exact (fun _ _ => trivial)); (case aO => exact (by (with_reducible repeat (first | apply Kd.R_alloc | apply Kd.R_drewN | apply Kd.R_drew)); exact Kd.R_mono (Kd.R_far (p := ⟨gb10005, 2, none⟩) (Kd.R_far (p := ⟨gb10005, 1, none⟩) (Kd.R_far (p := ⟨gb10005, 0, none⟩) (Kd.R_types HO_6.out BK10005.out (by decide)) (fun _ hk => hk.2) (.int .i64 ((rd_T49 t10001 x29_2).f0))) (fun _ hk => hk.2) (.int .i64 ((rd_T49 t10001 x29_2).f1))) (fun _ hk => hk.2) (.int .i64 ((rd_T49 t10001 x29_2).f2))) (fun _ hk => trivial))); (case aS => exact (below_size (by repeat (first | (with_reducible first | exact HB.out | apply below_alloc | apply pw_below_drewN | apply below_drew1 | refine below_set ?_ GE10005.out) | exact HB.out)))); (case aL => have := LMc15.out; omega); intro v10007 w19 ho hb hg hat; rw [← Ny10006.out] at ho; have n0_ := Aside0.mk (Kd.R_over' (by (with_reducible repeat (first | apply Kd.R_alloc | apply Kd.R_drewN | apply Kd.R_drew)); exact (Kd.R_mono (Kd.R_far (p := ⟨gb10005, 2, none⟩) (Kd.R_far (p := ⟨gb10005, 1, none⟩) (Kd.R_far (p := ⟨gb10005, 0, none⟩) (Kd.R_mono HO_27.out (fun k_ hk => (⟨hk, hk.2⟩ : _ ∧ k_ ≠ gb10005))) (fun _ hk => hk.2) (.int .i64 ((rd_T49 t10001 x29_2).f0))) (fun _ hk => hk.2) (.int .i64 ((rd_T49 t10001 x29_2).f1))) (fun _ hk => hk.2) (.int .i64 ((rd_T49 t10001 x29_2).f2))) (fun _ h_ => h_.1))) (Kd.R_typed (by (with_reducible repeat (first | apply Kd.R_alloc | apply Kd.R_drewN | apply Kd.R_drew)); exact (Kd.R_mono (Kd.R_far (p := ⟨gb10005, 2, none⟩) (Kd.R_far (p := ⟨gb10005, 1, none⟩) (Kd.R_far (p := ⟨gb10005, 0, none⟩) (Kd.R_types HO_6.out BK10005.out (by decide)) (fun _ hk => hk.2) (.int .i64 ((rd_T49 t10001 x29_2).f0))) (fun _ hk => hk.2) (.int .i64 ((rd_T49 t10001 x29_2).f1))) (fun _ hk => hk.2) (.int .i64 ((rd_T49 t10001 x29_2).f2))) (fun _ h_ => h_.1)))) (by decide) hg); have n1_ := Aside0.mk (blk_grown (g := gb10005) (o := .cells #[.int .i64 ((rd_T49 t10001 x29_2).f0), .int .i64 ((rd_T49 t10001 x29_2).f1), .int .i64 ((rd_T49 t10001 x29_2).f2)] 49 (0, 0)) (by (with_reducible repeat (first | refine blk_drewN ?_ _ | refine blk_drew ?_ | refine blk_alloc ?_ _)); refine blk_put (cs := #[.int .i64 ((rd_T49 t10001 x29_2).f0), .int .i64 ((rd_T49 t10001 x29_2).f1), .int .i64 0]) ?_ 2 _ rfl; (with_reducible repeat (first | refine blk_drewN ?_ _ | refine blk_drew ?_ | refine blk_alloc ?_ _)); refine blk_put (cs := #[.int .i64 ((rd_T49 t10001 x29_2).f0), .int .i64 0, .int .i64 0]) ?_ 1 _ rfl; (with_reducible repeat (first | refine blk_drewN ?_ _ | refine blk_drew ?_ | refine blk_alloc ?_ _)); refine blk_put (cs := #[.int .i64 0, .int .i64 0, .int .i64 0]) ?_ 0 _ rfl; (with_reducible repeat (first | refine blk_drewN ?_ _ | refine blk_drew ?_ | refine blk_alloc ?_ _)); exact BK10005.out) hg (Kd.R_ne HO_6.out BK10005.out (by decide))); have n2_ := Aside0.mk (hb); have n3_ := Aside0.mk (ho); clear HO_27; clear BK10005; clear HB; clear HO_6; have HO_27 := n0_; have BK10005 := n1_; have HB := n2_; have HO10008 := n3_; clear n0_ n1_ n2_ n3_; clear ho hb hg hat; have hcz20_0 : w19.cell? ⟨gb10005, 0, none⟩ = some (.int .i64 ((rd_T49 t10001 x29_2).f0)) := (blk_cell BK10005.out 0).trans rfl; have hcz20_1 : w19.cell? ⟨gb10005, 1, none⟩ = some (.int .i64 ((rd_T49 t10001 x29_2).f1)) := (blk_cell BK10005.out 1).trans rfl; have hcz20_2 : w19.cell? ⟨gb10005, 2, none⟩ = some (.int .i64 ((rd_T49 t10001 x29_2).f2)) := (blk_cell BK10005.out 2).trans rfl; have hfz20_0 := blk_frozen BK10005.out 0; have hfz20_1 := blk_frozen BK10005.out 1; have hfz20_2 := blk_frozen BK10005.out 2) | ((with_reducible refine gate_builtin (b := .append) (xs := #[.tmp 42, .tmp 46]) rfl ?_); at_builtin; refine Kd.R_append k28 (w0 := w) w.heap.size rfl (.tmp 42) (.tmp 46) 23 28 (.agg #[(.bool false), (.int .i64 0)]) 16 rfl Try.underlying23 info28 rfl (by decide) (by omega) v10007 y10006 (⟨true, (rd_T49 t10001 x29_2).f0⟩ : S28) [.bool true, .int .i64 ((rd_T49 t10001 x29_2).f0)] (fun _ => True) (fun _ => False) rfl rfl ?aP (fun _ hk => hk.elim) ?aF ?aO ?aB ?aS ?aL ?_; (case aP => exact k28_mkM _ _ _ (⟨true, (rd_T49 t10001 x29_2).f0⟩ : S28)); (case aB => exact (by repeat (first | (with_reducible first | exact HB.out | apply below_alloc | apply pw_below_drewN | apply below_drew1 | refine below_set ?_ GE10005.out) | exact HB.out))); (case aF => exact (fun _ _ => trivial)); (case aO => exact (by (with_reducible repeat (first | apply Kd.R_alloc | apply Kd.R_drewN | apply Kd.R_drew)); exact HO10008.out)); (case aS => exact (below_size (by repeat (first | (with_reducible first | exact HB.out | apply below_alloc | apply pw_below_drewN | apply below_drew1 | refine below_set ?_ GE10005.out) | exact HB.out)))); (case aL => have := LMc16.out; omega); intro v10010 w21 ho hb hg hat; rw [← Ny10009.out] at ho; have n0_ := Aside0.mk (Kd.R_over' (by (with_reducible repeat (first | apply Kd.R_alloc | apply Kd.R_drewN | apply Kd.R_drew)); exact HO_27.out) (Kd.R_typed (by (with_reducible repeat (first | apply Kd.R_alloc | apply Kd.R_drewN | apply Kd.R_drew)); exact HO10008.out)) (by decide) hg); have n1_ := Aside0.mk (blk_grown (g := gb10005) (o := .cells #[.int .i64 ((rd_T49 t10001 x29_2).f0), .int .i64 ((rd_T49 t10001 x29_2).f1), .int .i64 ((rd_T49 t10001 x29_2).f2)] 49 (0, 0)) (by (with_reducible repeat (first | refine blk_drewN ?_ _ | refine blk_drew ?_ | refine blk_alloc ?_ _)); exact BK10005.out) hg (Kd.R_ne HO10008.out BK10005.out (by decide))); have n2_ := Aside0.mk (hb); have n3_ := Aside0.mk (ho); clear HO_27; clear BK10005; clear HB; clear HO10008; have HO_27 := n0_; have BK10005 := n1_; have HB := n2_; have HO10011 := n3_; clear n0_ n1_ n2_ n3_; clear ho hb hg hat))
                        go_roundg k2
                        case measure => have := HJ2.out; have := HK2.out; omega
                        case rel => exact ⟨(y10009), (wrap64 (x29_2 + 1)), (by first | rfl | (simp; done) | (simp [*]; done)), H', ⟨by have := HJ2.out; have := HK2.out; omega⟩, ⟨by (with_reducible repeat (first | apply Kd.R_alloc | apply Kd.R_drewN | apply Kd.R_drew)); exact HO10011.out⟩, ⟨by (with_reducible repeat (first | apply Kd.R_alloc | apply Kd.R_drewN | apply Kd.R_drew)); exact Kd.R_mono HO_27.out (fun _ hk => trivial)⟩, ⟨by repeat (first | (with_reducible first | exact HB.out | apply below_alloc | apply pw_below_drewN | apply below_drew1 | refine below_set ?_ GE10005.out) | exact HB.out)⟩⟩
                      · rw [if_neg c16] at H
                        exact absurd H (by simp)
                    · rw [if_neg c15] at H
                      exact absurd H (by simp)
                  · rw [if_neg c14] at H
                    have c14b0 : decide (((rd_T49 t10001 x29_2).f2) < 512) = false := decide_eq_false c14
                    clear c14
                    by_cases c22 : x6_2.length < 8796093022208
                    · rw [if_pos c22] at H
                      have LMc22 := Aside0.mk c22
                      clear c22
                      obtain ⟨y10012, hy10012⟩ : ∃ y_ : List (S28), y_ = (x6_2 ++ [(⟨true, (rd_T49 t10001 x29_2).f0⟩ : S28)]) := ⟨_, rfl⟩
                      replace H : (block_Plan.l0 k2 y10012 t10001 (t10001.length : Int) (wrap64 (x29_2 + 1))) = some (r1, r2) := by first | (rw [hy10012]; with_reducible exact H) | (have H2_ := (Option.bind_some _ _).symm.trans H; rw [hy10012]; with_reducible exact H2_) | (have H2_ := (Option.bind_some _ _).symm.trans H; with_reducible exact H2_) | with_reducible exact H | (rw [hy10012]; exact H) | exact H
                      have Ny10012 := Aside0.mk hy10012
                      clear hy10012
                      have H' := Aside0.mk H
                      clear H
                      have p10004 : 0 ≤ (x29_2 : Int) := of_decide_eq_true (by first | (with_reducible assumption) | assumption)
                      have q10004 : x29_2 < (t10001.length : Int) := of_decide_eq_true (by first | (with_reducible assumption) | assumption)
                      obtain ⟨ad10004, e10004, hx10004_0, hx10004_1, hx10004_2⟩ := at_T49 (Kd.R_reads' HO_27.out).2.2 x29_2 p10004 q10004
                      cases e10004
                      replace p10004 := eq_true p10004
                      replace q10004 := eq_true q10004
                      go_wp2_with (first | ((with_reducible refine gate_dst (N := 8) rfl ?_); refine box_event ?hg (N := 8) ?hd (cs := #[.int .i64 0, .int .i64 0, .int .i64 0]) (t := 49) ?hr ?_; (case hd => rfl); (case hg => rfl); (case hr => first | (go_simp; done) | (go_simp; rfl)); intro gb10005 hg w23 hbox hb; have n0_ := Aside0.mk (Kd.R_below (by (with_reducible repeat (first | apply Kd.R_alloc | apply Kd.R_drewN | apply Kd.R_drew)); exact HO_6.out) hb); have n1_ := Aside0.mk (Kd.R_below (Kd.R_elderB (by (with_reducible repeat (first | apply Kd.R_alloc | apply Kd.R_drewN | apply Kd.R_drew)); exact HO_27.out) gb10005 (Nat.le_of_eq hg.symm)) hb); have n2_ := Aside0.mk (below_step (by repeat (first | (with_reducible first | exact HB.out | apply below_alloc | apply pw_below_drewN | apply below_drew1) | exact HB.out)) hb); have n3_ := Aside0.mk (hbox); have n4_ := Aside0.mk ((by rw [hg]; exact (below_size (by repeat (first | (with_reducible first | exact HB.out | apply below_alloc | apply pw_below_drewN | apply below_drew1) | exact HB.out))) : w.heap.size ≤ gb10005)); have n5_ := Aside0.mk ((by rw [hg]; exact (below_size (by repeat (first | (with_reducible first | exact HB.out | apply below_alloc | apply pw_below_drewN | apply below_drew1) | exact HB.out))) : w.heap.size ≤ gb10005)); clear HO_6; clear HO_27; clear HB; have HO_6 := n0_; have HO_27 := n1_; have HB := n2_; have BK10005 := n3_; have GW10005 := n4_; have GE10005 := n5_; clear n0_ n1_ n2_ n3_ n4_ n5_; clear hb hbox hg; have hcz24_0 : w23.cell? ⟨gb10005, 0, none⟩ = some (.int .i64 0) := (blk_cell BK10005.out 0).trans rfl; have hcz24_1 : w23.cell? ⟨gb10005, 1, none⟩ = some (.int .i64 0) := (blk_cell BK10005.out 1).trans rfl; have hcz24_2 : w23.cell? ⟨gb10005, 2, none⟩ = some (.int .i64 0) := (blk_cell BK10005.out 2).trans rfl; have hfz24_0 := blk_frozen BK10005.out 0; have hfz24_1 := blk_frozen BK10005.out 1; have hfz24_2 := blk_frozen BK10005.out 2) | ((with_reducible refine gate_builtin (b := .append) (xs := #[.tmp 42, .tmp 46]) rfl ?_); at_builtin; refine Kd.R_append k28 (w0 := w) w.heap.size rfl (.tmp 42) (.tmp 46) 23 28 (.agg #[(.bool false), (.int .i64 0)]) 16 rfl Try.underlying23 info28 rfl (by decide) (by omega) u6 x6_2 (⟨true, (rd_T49 t10001 x29_2).f0⟩ : S28) [.bool true, .int .i64 ((rd_T49 t10001 x29_2).f0)] (fun _ => True) (fun _ => False) rfl (by first | (go_simp; done) | (go_simp; rfl)) ?aP (fun _ hk => hk.elim) ?aF ?aO ?aB ?aS ?aL ?_; (case aP => exact k28_mkM _ _ _ (⟨true, (rd_T49 t10001 x29_2).f0⟩ : S28)); (case aB => exact (by repeat (first | (with_reducible first | exact HB.out | apply below_alloc | apply pw_below_drewN | apply below_drew1 | refine below_set ?_ GE10005.out) | exact HB.out))); (case aF => exact (fun _ _ => trivial)); (case aO => exact (by (with_reducible repeat (first | apply Kd.R_alloc | apply Kd.R_drewN | apply Kd.R_drew)); exact Kd.R_mono (Kd.R_far (p := ⟨gb10005, 2, none⟩) (Kd.R_far (p := ⟨gb10005, 1, none⟩) (Kd.R_far (p := ⟨gb10005, 0, none⟩) (Kd.R_types HO_6.out BK10005.out (by decide)) (fun _ hk => hk.2) (.int .i64 ((rd_T49 t10001 x29_2).f0))) (fun _ hk => hk.2) (.int .i64 ((rd_T49 t10001 x29_2).f1))) (fun _ hk => hk.2) (.int .i64 ((rd_T49 t10001 x29_2).f2))) (fun _ hk => trivial))); (case aS => exact (below_size (by repeat (first | (with_reducible first | exact HB.out | apply below_alloc | apply pw_below_drewN | apply below_drew1 | refine below_set ?_ GE10005.out) | exact HB.out)))); (case aL => have := LMc22.out; omega); intro v10013 w25 ho hb hg hat; rw [← Ny10012.out] at ho; have n0_ := Aside0.mk (Kd.R_over' (by (with_reducible repeat (first | apply Kd.R_alloc | apply Kd.R_drewN | apply Kd.R_drew)); exact (Kd.R_mono (Kd.R_far (p := ⟨gb10005, 2, none⟩) (Kd.R_far (p := ⟨gb10005, 1, none⟩) (Kd.R_far (p := ⟨gb10005, 0, none⟩) (Kd.R_mono HO_27.out (fun k_ hk => (⟨hk, hk.2⟩ : _ ∧ k_ ≠ gb10005))) (fun _ hk => hk.2) (.int .i64 ((rd_T49 t10001 x29_2).f0))) (fun _ hk => hk.2) (.int .i64 ((rd_T49 t10001 x29_2).f1))) (fun _ hk => hk.2) (.int .i64 ((rd_T49 t10001 x29_2).f2))) (fun _ h_ => h_.1))) (Kd.R_typed (by (with_reducible repeat (first | apply Kd.R_alloc | apply Kd.R_drewN | apply Kd.R_drew)); exact (Kd.R_mono (Kd.R_far (p := ⟨gb10005, 2, none⟩) (Kd.R_far (p := ⟨gb10005, 1, none⟩) (Kd.R_far (p := ⟨gb10005, 0, none⟩) (Kd.R_types HO_6.out BK10005.out (by decide)) (fun _ hk => hk.2) (.int .i64 ((rd_T49 t10001 x29_2).f0))) (fun _ hk => hk.2) (.int .i64 ((rd_T49 t10001 x29_2).f1))) (fun _ hk => hk.2) (.int .i64 ((rd_T49 t10001 x29_2).f2))) (fun _ h_ => h_.1)))) (by decide) hg); have n1_ := Aside0.mk (blk_grown (g := gb10005) (o := .cells #[.int .i64 ((rd_T49 t10001 x29_2).f0), .int .i64 ((rd_T49 t10001 x29_2).f1), .int .i64 ((rd_T49 t10001 x29_2).f2)] 49 (0, 0)) (by (with_reducible repeat (first | refine blk_drewN ?_ _ | refine blk_drew ?_ | refine blk_alloc ?_ _)); refine blk_put (cs := #[.int .i64 ((rd_T49 t10001 x29_2).f0), .int .i64 ((rd_T49 t10001 x29_2).f1), .int .i64 0]) ?_ 2 _ rfl; (with_reducible repeat (first | refine blk_drewN ?_ _ | refine blk_drew ?_ | refine blk_alloc ?_ _)); refine blk_put (cs := #[.int .i64 ((rd_T49 t10001 x29_2).f0), .int .i64 0, .int .i64 0]) ?_ 1 _ rfl; (with_reducible repeat (first | refine blk_drewN ?_ _ | refine blk_drew ?_ | refine blk_alloc ?_ _)); refine blk_put (cs := #[.int .i64 0, .int .i64 0, .int .i64 0]) ?_ 0 _ rfl; (with_reducible repeat (first | refine blk_drewN ?_ _ | refine blk_drew ?_ | refine blk_alloc ?_ _)); exact BK10005.out) hg (Kd.R_ne HO_6.out BK10005.out (by decide))); have n2_ := Aside0.mk (hb); have n3_ := Aside0.mk (ho); clear HO_27; clear BK10005; clear HB; clear HO_6; have HO_27 := n0_; have BK10005 := n1_; have HB := n2_; have HO10014 := n3_; clear n0_ n1_ n2_ n3_; clear ho hb hg hat))
                      go_roundg k2
                      case measure => have := HJ2.out; have := HK2.out; omega
                      case rel => exact ⟨(y10012), (wrap64 (x29_2 + 1)), (by first | rfl | (simp; done) | (simp [*]; done)), H', ⟨by have := HJ2.out; have := HK2.out; omega⟩, ⟨by (with_reducible repeat (first | apply Kd.R_alloc | apply Kd.R_drewN | apply Kd.R_drew)); exact HO10014.out⟩, ⟨by (with_reducible repeat (first | apply Kd.R_alloc | apply Kd.R_drewN | apply Kd.R_drew)); exact Kd.R_mono HO_27.out (fun _ hk => trivial)⟩, ⟨by repeat (first | (with_reducible first | exact HB.out | apply below_alloc | apply pw_below_drewN | apply below_drew1 | refine below_set ?_ GE10005.out) | exact HB.out)⟩⟩
                    · rw [if_neg c22] at H
                      exact absurd H (by simp)
                · rw [if_neg c13] at H
                  exact absurd H (by simp)
              · rw [if_neg c12] at H
                exact absurd H (by simp)
            · rw [if_neg c11] at H
              have c11b0 : decide (x29_2 < (t10001.length : Int)) = false := decide_eq_false c11
              clear c11
              simp only [Option.some.injEq, Prod.mk.injEq] at H
              obtain ⟨rfl, rfl⟩ := H
              go_wp2
              go_ret2
              exact ⟨_, by first | rfl | (simp [errW_none, errW_some] <;> rfl) | (simp [*, errW_none, errW_some] <;> rfl), by (with_reducible repeat (first | apply Kd.R_alloc | apply Kd.R_drewN | apply Kd.R_drew)); exact HO_6.out, by repeat (first | (with_reducible first | exact HB.out | apply below_alloc | apply pw_below_drewN | apply below_drew1) | exact HB.out)⟩

end Go.Proofs.Ytpjlhehmobhijaa.Q
