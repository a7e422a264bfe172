/- What Go functions of this program answer, as plain Lean functions, and that the calls answer so, wherever the plain function has an answer. Written by a program of this claim's own out of the translation. -/
import Derived.Test.YtpjlhehmobhijaaQ0
namespace Go.Proofs.Ytpjlhehmobhijaa.Q
open Go.RowKit Go.Proofs.YtpjlhehmobhijaaW.PrintWords Go.Proofs.YtpjlhehmobhijaaW.PrintLast Go.Proofs.YtpjlhehmobhijaaW.PrintMore
set_option linter.unusedVariables false
set_option linter.unusedSimpArgs false

attribute [local go_sem] max2_int min2_int max_two min_two max_three min_three max_four min_four
/-! ### tinderref20_Plan: function 10 -/
mutual
def tinderref20_Plan.j0 : Nat → Int → Int → Bool → Option ((List (S28)) × Int)
  | 0, _, _, _ => none
  | k + 1, x0, x1, x25 => if x25 = true then (some (([] : List (S28)), 1)) else (tinderref20_Plan.l0 k x0 x1 ([] : List (S28)) 0)
def tinderref20_Plan.l0 : Nat → Int → Int → List (S28) → Int → Option ((List (S28)) × Int)
  | 0, _, _, _, _ => none
  | k + 1, x0, x1, x6, x7 => if x7 < 64 then (if (mx x0 (wrap64 (512 * x7))) ≥ (mn (wrap64 (x0 + x1)) (wrap64 ((wrap64 (512 * x7)) + 512))) then (tinderref20_Plan.l0 k x0 x1 x6 (wrap64 (x7 + 1))) else (if (wrap64 ((mn (wrap64 (x0 + x1)) (wrap64 ((wrap64 (512 * x7)) + 512))) - (mx x0 (wrap64 (512 * x7))))) < 512 then (if x6.length < 8796093022208 then ((some (x6 ++ [(⟨false, x7⟩ : S28)] : List (S28))).bind fun y11001 => (if y11001.length < 8796093022208 then (tinderref20_Plan.l0 k x0 x1 (y11001 ++ [(⟨true, x7⟩ : S28)]) (wrap64 (x7 + 1))) else (none))) else (none)) else (if x6.length < 8796093022208 then (tinderref20_Plan.l0 k x0 x1 (x6 ++ [(⟨true, x7⟩ : S28)]) (wrap64 (x7 + 1))) else (none)))) else (some (x6, 0))
end
def tinderref20_Plan.f (k : Nat) (a0 : Int) (a1 : Int) : Option ((List (S28)) × Int) := if a0 < 0 then (tinderref20_Plan.j0 k a0 a1 true) else (if a1 < 0 then (tinderref20_Plan.j0 k a0 a1 true) else (if a0 > 32768 then (tinderref20_Plan.j0 k a0 a1 true) else (tinderref20_Plan.j0 k a0 a1 (decide (a1 > (wrap64 (32768 - a0)))))))
theorem tinderref20_Plan.mono_l : ∀ k, (∀ y0 y1 y2, LeO (tinderref20_Plan.j0 k y0 y1 y2) (tinderref20_Plan.j0 (k + 1) y0 y1 y2)) ∧ (∀ y0 y1 y2 y3, LeO (tinderref20_Plan.l0 k y0 y1 y2 y3) (tinderref20_Plan.l0 (k + 1) y0 y1 y2 y3))
  | 0 => ⟨fun _ _ _ r h => by simp [tinderref20_Plan.j0] at h, fun _ _ _ _ r h => by simp [tinderref20_Plan.l0] at h⟩
  | k + 1 => by
    obtain ⟨ih0, ih1⟩ := tinderref20_Plan.mono_l k
    refine ⟨?_, ?_⟩
    · intro y0 y1 y2
      unfold tinderref20_Plan.j0
      repeat' first
      | (with_reducible exact ih0 _ _ _)
      | (with_reducible exact ih1 _ _ _ _)
      | (with_reducible exact LeO.refl _)
      | (with_reducible exact LeO.none _)
      | (with_reducible refine LeO.ite ?_ ?_)
      | (with_reducible refine LeO.bind ?_ (fun _ => ?_))
      | exact ih0 _ _ _
      | exact ih1 _ _ _ _
      | exact LeO.none _
      | refine LeO.ite ?_ ?_
      | refine LeO.bind ?_ (fun _ => ?_)
    · intro y0 y1 y2 y3
      unfold tinderref20_Plan.l0
      repeat' first
      | (with_reducible exact ih0 _ _ _)
      | (with_reducible exact ih1 _ _ _ _)
      | (with_reducible exact LeO.refl _)
      | (with_reducible exact LeO.none _)
      | (with_reducible refine LeO.ite ?_ ?_)
      | (with_reducible refine LeO.bind ?_ (fun _ => ?_))
      | exact ih0 _ _ _
      | exact ih1 _ _ _ _
      | exact LeO.none _
      | refine LeO.ite ?_ ?_
      | refine LeO.bind ?_ (fun _ => ?_)
theorem tinderref20_Plan.mono : ∀ a0 a1 k, LeO (tinderref20_Plan.f k a0 a1) (tinderref20_Plan.f (k + 1) a0 a1) := by
  intro a0 a1 k
  obtain ⟨ih0, ih1⟩ := tinderref20_Plan.mono_l k
  unfold tinderref20_Plan.f
  repeat' first
      | (with_reducible exact ih0 _ _ _)
      | (with_reducible exact ih1 _ _ _ _)
      | (with_reducible exact LeO.refl _)
      | (with_reducible exact LeO.none _)
      | (with_reducible refine LeO.ite ?_ ?_)
      | (with_reducible refine LeO.bind ?_ (fun _ => ?_))
      | exact ih0 _ _ _
      | exact ih1 _ _ _ _
      | exact LeO.none _
      | refine LeO.ite ?_ ?_
      | refine LeO.bind ?_ (fun _ => ?_)
set_option maxHeartbeats 8000000 in
set_option maxRecDepth 100000 in
theorem tinderref20_Plan.calls (k : Nat) (a0 : Int) (a1 : Int) (r1 : List (S28)) (r2 : Int) (w : World) (h : tinderref20_Plan.f k a0 a1 = some (r1, r2)) :
    Calls Try.prog 10 #[.int .i64 a0, .int .i64 a1] w fun e w' => ∃ v0_ : Value, e = .returned (.tuple #[v0_, .int .i64 r2]) ∧ Kd.R k28 28 w' w.heap.size (fun _ => True) v0_ r1 ∧ Below w.heap.size w w' := by
  have hu28 := Try.underlying28
  have HB := Aside0.mk (Below.refl w.heap.size w)
  have H : (if a0 < 0 then (tinderref20_Plan.j0 k a0 a1 true) else (if a1 < 0 then (tinderref20_Plan.j0 k a0 a1 true) else (if a0 > 32768 then (tinderref20_Plan.j0 k a0 a1 true) else (tinderref20_Plan.j0 k a0 a1 (decide (a1 > (wrap64 (32768 - a0)))))))) = some (r1, r2) := h
  clear h
  have HC3 := Aside0.mk H
  clear H
  go_enter Try.func10, Try.ntmps10
  go_upto_region 1 with (fail)
  go_cut [25] (fun v25 wc => ∃ (kq : Nat) (x25_2 : Bool), v25 = .bool x25_2 ∧ Aside0 (tinderref20_Plan.j0 kq a0 a1 x25_2 = some (r1, r2)) ∧ Aside0 (kq ≤ k) ∧ Aside0 (Below w.heap.size w wc))
  case first =>
    have H := HC3.out
    clear HC3
    by_cases c4 : a0 < 0
    · rw [if_pos c4] at H
      have c4b0 : decide (a0 < 0) = true := decide_eq_true c4
      clear c4
      (first | rw [c4b0] | (simp only [i64_w, i32_w]; rw [c4b0]) | skip)
      have H' := Aside0.mk H
      clear H
      go_wp2
      go_meet
      case rel => exact ⟨_, (true), (by first | rfl | (simp; done) | (simp [*]; done)), H', ⟨by first | omega | exact Nat.le_refl _⟩, ⟨by repeat (first | (with_reducible first | exact HB.out | apply below_alloc | apply pw_below_drewN | apply below_drew1) | exact HB.out)⟩⟩
    · rw [if_neg c4] at H
      have c4b0 : decide (a0 < 0) = false := decide_eq_false c4
      clear c4
      (first | rw [c4b0] | (simp only [i64_w, i32_w]; rw [c4b0]) | skip)
      by_cases c5 : a1 < 0
      · rw [if_pos c5] at H
        have c5b0 : decide (a1 < 0) = true := decide_eq_true c5
        clear c5
        have H' := Aside0.mk H
        clear H
        go_wp2
        go_meet
        case rel => exact ⟨_, (true), (by first | rfl | (simp; done) | (simp [*]; done)), H', ⟨by first | omega | exact Nat.le_refl _⟩, ⟨by repeat (first | (with_reducible first | exact HB.out | apply below_alloc | apply pw_below_drewN | apply below_drew1) | exact HB.out)⟩⟩
      · rw [if_neg c5] at H
        have c5b0 : decide (a1 < 0) = false := decide_eq_false c5
        clear c5
        by_cases c6 : a0 > 32768
        · rw [if_pos c6] at H
          have c6b0 : decide (32768 < a0) = true := decide_eq_true c6
          clear c6
          have H' := Aside0.mk H
          clear H
          go_wp2
          go_meet
          case rel => exact ⟨_, (true), (by first | rfl | (simp; done) | (simp [*]; done)), H', ⟨by first | omega | exact Nat.le_refl _⟩, ⟨by repeat (first | (with_reducible first | exact HB.out | apply below_alloc | apply pw_below_drewN | apply below_drew1) | exact HB.out)⟩⟩
        · rw [if_neg c6] at H
          have c6b0 : decide (32768 < a0) = false := decide_eq_false c6
          clear c6
          have H' := Aside0.mk H
          clear H
          go_wp2
          go_meet
          case rel => exact ⟨_, (decide (a1 > (wrap64 (32768 - a0)))), (by first | rfl | (simp; done) | (simp [*]; done)), H', ⟨by first | omega | exact Nat.le_refl _⟩, ⟨by repeat (first | (with_reducible first | exact HB.out | apply below_alloc | apply pw_below_drewN | apply below_drew1) | exact HB.out)⟩⟩
  case rest =>
    clear HC3
    try clear c1
    try clear p2
    try clear c4
    try clear c4b0
    try clear c5
    try clear c5b0
    try clear c6
    try clear c6b0
    try clear p6
    obtain ⟨kq, x25_2, rfl, HA, HJ2, HB⟩ := hcut
    cases kq with
    | zero => exact absurd HA.out (by simp [tinderref20_Plan.j0])
    | succ kj2 =>
      have H := HA.out
      clear HA
      simp only [tinderref20_Plan.j0] at H
      by_cases c7 : x25_2 = true
      · subst c7
        have H1 : (some (([] : List (S28)), 1)) = some (r1, r2) := by rw [if_pos rfl] at H; exact H
        clear H
        have H := H1
        clear H1
        simp only [Option.some.injEq, Prod.mk.injEq] at H
        obtain ⟨rfl, rfl⟩ := H
        go_wp2
        go_ret2
        exact ⟨_, by first | rfl | (simp [errW_none, errW_some] <;> rfl) | (simp [*, errW_none, errW_some] <;> rfl), by first | exact Kd.R_nil _ _ _ _ _ | exact Kd.N_nil _ _ _ _ _ | exact Kd.V_nil _ _ _ _ _ | exact Kd.Q_nil _ _ _ _ _ | exact Kd.S_nil _ _ _ _ _, by repeat (first | (with_reducible first | exact HB.out | apply below_alloc | apply pw_below_drewN | apply below_drew1) | exact HB.out)⟩
      · replace c7 := Bool.eq_false_iff.mpr c7
        subst c7
        have H1 : (tinderref20_Plan.l0 kj2 a0 a1 ([] : List (S28)) 0) = some (r1, r2) := by rw [if_neg (show ¬ (false = true) by decide)] at H; exact H
        clear H
        have H := H1
        clear H1
        have H' := Aside0.mk H
        clear H
        go_wp2
        go_loopg [6, 7] kj2 (fun kq v6 v7 w' => ∃ (x6_2 : List (S28)) (x7_2 : Int), v7 = .int .i64 x7_2 ∧ Aside0 (tinderref20_Plan.l0 kq a0 a1 x6_2 x7_2 = some (r1, r2)) ∧ Aside0 (kq ≤ kj2) ∧ Aside0 (Kd.R k28 28 w' w.heap.size (fun _ => True) v6 x6_2) ∧ Aside0 (Below w.heap.size w w'))
        case atStart => exact ⟨(([] : List (S28))), (0), (by first | rfl | (simp; done) | (simp [*]; done)), H', ⟨Nat.le_refl _⟩, ⟨by first | exact Kd.R_nil _ _ _ _ _ | exact Kd.N_nil _ _ _ _ _ | exact Kd.V_nil _ _ _ _ _ | exact Kd.Q_nil _ _ _ _ _ | exact Kd.S_nil _ _ _ _ _⟩, ⟨by repeat (first | (with_reducible first | exact HB.out | apply below_alloc | apply pw_below_drewN | apply below_drew1) | exact HB.out)⟩⟩
        case round =>
          clear H'
          try clear c1
          try clear p2
          try clear c4
          try clear c4b0
          try clear c5
          try clear c5b0
          try clear c6
          try clear c6b0
          try clear p6
          try clear c7
          try clear p2
          try clear p6
          obtain ⟨x6_2, x7_2, rfl, HA, HK2, HO_6, HB⟩ := hrel
          cases gk with
          | zero => exact absurd HA.out (by simp [tinderref20_Plan.l0])
          | succ k2 =>
            have H := HA.out
            clear HA
            simp only [tinderref20_Plan.l0] at H
            by_cases c8 : x7_2 < 64
            · rw [if_pos c8] at H
              have c8b0 : decide (x7_2 < 64) = true := decide_eq_true c8
              clear c8
              obtain ⟨ji9, hji9⟩ : ∃ j_ : Int, (mx a0 (wrap64 (512 * x7_2))) = j_ := ⟨_, rfl⟩
              replace H : (if (ji9) ≥ (mn (wrap64 (a0 + a1)) (wrap64 ((wrap64 (512 * x7_2)) + 512))) then (tinderref20_Plan.l0 k2 a0 a1 x6_2 (wrap64 (x7_2 + 1))) else (if (wrap64 ((mn (wrap64 (a0 + a1)) (wrap64 ((wrap64 (512 * x7_2)) + 512))) - (ji9))) < 512 then (if x6_2.length < 8796093022208 then ((some (x6_2 ++ [(⟨false, x7_2⟩ : S28)] : List (S28))).bind fun y11001 => (if y11001.length < 8796093022208 then (tinderref20_Plan.l0 k2 a0 a1 (y11001 ++ [(⟨true, x7_2⟩ : S28)]) (wrap64 (x7_2 + 1))) else (none))) else (none)) else (if x6_2.length < 8796093022208 then (tinderref20_Plan.l0 k2 a0 a1 (x6_2 ++ [(⟨true, x7_2⟩ : S28)]) (wrap64 (x7_2 + 1))) else (none)))) = some (r1, r2) := by first | (rw [hji9] at H; exact H) | (simp only [hji9] at H ⊢; exact H)
              have hji9_ : (if a0 < (wrap64 (512 * x7_2)) then (wrap64 (512 * x7_2)) else a0) = ji9 := hji9
              obtain ⟨ji10, hji10⟩ : ∃ j_ : Int, (mn (wrap64 (a0 + a1)) (wrap64 ((wrap64 (512 * x7_2)) + 512))) = j_ := ⟨_, rfl⟩
              replace H : (if (ji9) ≥ (ji10) then (tinderref20_Plan.l0 k2 a0 a1 x6_2 (wrap64 (x7_2 + 1))) else (if (wrap64 ((ji10) - (ji9))) < 512 then (if x6_2.length < 8796093022208 then ((some (x6_2 ++ [(⟨false, x7_2⟩ : S28)] : List (S28))).bind fun y11001 => (if y11001.length < 8796093022208 then (tinderref20_Plan.l0 k2 a0 a1 (y11001 ++ [(⟨true, x7_2⟩ : S28)]) (wrap64 (x7_2 + 1))) else (none))) else (none)) else (if x6_2.length < 8796093022208 then (tinderref20_Plan.l0 k2 a0 a1 (x6_2 ++ [(⟨true, x7_2⟩ : S28)]) (wrap64 (x7_2 + 1))) else (none)))) = some (r1, r2) := by first | (rw [hji10] at H; exact H) | (simp only [hji10] at H ⊢; exact H)
              have hji10_ : (if (wrap64 ((wrap64 (512 * x7_2)) + 512)) < (wrap64 (a0 + a1)) then (wrap64 ((wrap64 (512 * x7_2)) + 512)) else (wrap64 (a0 + a1))) = ji10 := hji10
              by_cases c11 : (ji9) ≥ (ji10)
              · rw [if_pos c11] at H
                have c11b0 : decide ((ji10) ≤ (ji9)) = true := decide_eq_true c11
                clear c11
                have H' := Aside0.mk H
                clear H
                go_wp2
                go_roundg k2
                case measure => have := HJ2.out; have := HK2.out; omega
                case rel => exact ⟨(x6_2), (wrap64 (x7_2 + 1)), (by first | rfl | (simp; done) | (simp [*]; done)), H', ⟨by have := HJ2.out; have := HK2.out; omega⟩, ⟨by (with_reducible repeat (first | apply Kd.R_alloc | apply Kd.R_drewN | apply Kd.R_drew)); exact HO_6.out⟩, ⟨by repeat (first | (with_reducible first | exact HB.out | apply below_alloc | apply pw_below_drewN | apply below_drew1) | exact HB.out)⟩⟩
              · rw [if_neg c11] at H
                have c11b0 : decide ((ji10) ≤ (ji9)) = false := decide_eq_false c11
                clear c11
                by_cases c12 : (wrap64 ((ji10) - (ji9))) < 512
                · rw [if_pos c12] at H
                  have c12b0 : decide ((wrap64 ((ji10) - (ji9))) < 512) = true := decide_eq_true c12
                  clear c12
                  by_cases c13 : x6_2.length < 8796093022208
                  · rw [if_pos c13] at H
                    have LMc13 := Aside0.mk c13
                    clear c13
                    obtain ⟨y11001, hy11001⟩ : ∃ y_ : List (S28), y_ = (x6_2 ++ [(⟨false, x7_2⟩ : S28)]) := ⟨_, rfl⟩
                    replace H : (if y11001.length < 8796093022208 then (tinderref20_Plan.l0 k2 a0 a1 (y11001 ++ [(⟨true, x7_2⟩ : S28)]) (wrap64 (x7_2 + 1))) else (none)) = some (r1, r2) := by first | (rw [hy11001]; with_reducible exact H) | (have H2_ := (Option.bind_some _ _).symm.trans H; rw [hy11001]; with_reducible exact H2_) | (have H2_ := (Option.bind_some _ _).symm.trans H; with_reducible exact H2_) | with_reducible exact H | (rw [hy11001]; exact H) | exact H
                    have Ny11001 := Aside0.mk hy11001
                    clear hy11001
                    by_cases c14 : y11001.length < 8796093022208
                    · rw [if_pos c14] at H
                      have LMc14 := Aside0.mk c14
                      clear c14
                      obtain ⟨y11004, hy11004⟩ : ∃ y_ : List (S28), y_ = (y11001 ++ [(⟨true, x7_2⟩ : S28)]) := ⟨_, rfl⟩
                      replace H : (tinderref20_Plan.l0 k2 a0 a1 y11004 (wrap64 (x7_2 + 1))) = some (r1, r2) := by first | (rw [hy11004]; with_reducible exact H) | (have H2_ := (Option.bind_some _ _).symm.trans H; rw [hy11004]; with_reducible exact H2_) | (have H2_ := (Option.bind_some _ _).symm.trans H; with_reducible exact H2_) | with_reducible exact H | (rw [hy11004]; exact H) | exact H
                      have Ny11004 := Aside0.mk hy11004
                      clear hy11004
                      have H' := Aside0.mk H
                      clear H
                      go_wp2_with (first | ((with_reducible refine gate_builtin (b := .append) (xs := #[.tmp 48, .tmp 51]) rfl ?_); at_builtin; refine Kd.R_append k28 (w0 := w) w.heap.size rfl (.tmp 48) (.tmp 51) 23 28 (.agg #[(.bool false), (.int .i64 0)]) 16 rfl Try.underlying23 info28 rfl (by decide) (by omega) u6 x6_2 (⟨false, x7_2⟩ : S28) [.bool false, .int .i64 x7_2] (fun _ => True) (fun _ => False) rfl rfl ?aP (fun _ hk => hk.elim) ?aF ?aO ?aB ?aS ?aL ?_; (case aP => exact k28_mkM _ _ _ (⟨false, x7_2⟩ : S28)); (case aB => exact (by repeat (first | (with_reducible first | exact HB.out | apply below_alloc | apply pw_below_drewN | apply below_drew1) | exact HB.out))); (case aF => exact (fun _ _ => trivial)); (case aO => exact (by (with_reducible repeat (first | apply Kd.R_alloc | apply Kd.R_drewN | apply Kd.R_drew)); exact HO_6.out)); (case aS => exact (below_size (by repeat (first | (with_reducible first | exact HB.out | apply below_alloc | apply pw_below_drewN | apply below_drew1) | exact HB.out)))); (case aL => have := LMc13.out; omega); intro v11002 w15 ho hb hg hat; rw [← Ny11001.out] at ho; have n0_ := Aside0.mk (hb); have n1_ := Aside0.mk (ho); clear HB; clear HO_6; have HB := n0_; have HO11003 := n1_; clear n0_ n1_; clear ho hb hg hat) | ((with_reducible refine gate_builtin (b := .append) (xs := #[.tmp 53, .tmp 56]) rfl ?_); at_builtin; refine Kd.R_append k28 (w0 := w) w.heap.size rfl (.tmp 53) (.tmp 56) 23 28 (.agg #[(.bool false), (.int .i64 0)]) 16 rfl Try.underlying23 info28 rfl (by decide) (by omega) v11002 y11001 (⟨true, x7_2⟩ : S28) [.bool true, .int .i64 x7_2] (fun _ => True) (fun _ => False) rfl rfl ?aP (fun _ hk => hk.elim) ?aF ?aO ?aB ?aS ?aL ?_; (case aP => exact k28_mkM _ _ _ (⟨true, x7_2⟩ : S28)); (case aB => exact (by repeat (first | (with_reducible first | exact HB.out | apply below_alloc | apply pw_below_drewN | apply below_drew1) | exact HB.out))); (case aF => exact (fun _ _ => trivial)); (case aO => exact (by (with_reducible repeat (first | apply Kd.R_alloc | apply Kd.R_drewN | apply Kd.R_drew)); exact HO11003.out)); (case aS => exact (below_size (by repeat (first | (with_reducible first | exact HB.out | apply below_alloc | apply pw_below_drewN | apply below_drew1) | exact HB.out)))); (case aL => have := LMc14.out; omega); intro v11005 w16 ho hb hg hat; rw [← Ny11004.out] at ho; have n0_ := Aside0.mk (hb); have n1_ := Aside0.mk (ho); clear HB; clear HO11003; have HB := n0_; have HO11006 := n1_; clear n0_ n1_; clear ho hb hg hat))
                      go_roundg k2
                      case measure => have := HJ2.out; have := HK2.out; omega
                      case rel => exact ⟨(y11004), (wrap64 (x7_2 + 1)), (by first | rfl | (simp; done) | (simp [*]; done)), H', ⟨by have := HJ2.out; have := HK2.out; omega⟩, ⟨by (with_reducible repeat (first | apply Kd.R_alloc | apply Kd.R_drewN | apply Kd.R_drew)); exact HO11006.out⟩, ⟨by repeat (first | (with_reducible first | exact HB.out | apply below_alloc | apply pw_below_drewN | apply below_drew1) | exact HB.out)⟩⟩
                    · rw [if_neg c14] at H
                      exact absurd H (by simp)
                  · rw [if_neg c13] at H
                    exact absurd H (by simp)
                · rw [if_neg c12] at H
                  have c12b0 : decide ((wrap64 ((ji10) - (ji9))) < 512) = false := decide_eq_false c12
                  clear c12
                  by_cases c17 : x6_2.length < 8796093022208
                  · rw [if_pos c17] at H
                    have LMc17 := Aside0.mk c17
                    clear c17
                    obtain ⟨y11007, hy11007⟩ : ∃ y_ : List (S28), y_ = (x6_2 ++ [(⟨true, x7_2⟩ : S28)]) := ⟨_, rfl⟩
                    replace H : (tinderref20_Plan.l0 k2 a0 a1 y11007 (wrap64 (x7_2 + 1))) = some (r1, r2) := by first | (rw [hy11007]; with_reducible exact H) | (have H2_ := (Option.bind_some _ _).symm.trans H; rw [hy11007]; with_reducible exact H2_) | (have H2_ := (Option.bind_some _ _).symm.trans H; with_reducible exact H2_) | with_reducible exact H | (rw [hy11007]; exact H) | exact H
                    have Ny11007 := Aside0.mk hy11007
                    clear hy11007
                    have H' := Aside0.mk H
                    clear H
                    go_wp2_with (first | ((with_reducible refine gate_builtin (b := .append) (xs := #[.tmp 53, .tmp 56]) rfl ?_); at_builtin; refine Kd.R_append k28 (w0 := w) w.heap.size rfl (.tmp 53) (.tmp 56) 23 28 (.agg #[(.bool false), (.int .i64 0)]) 16 rfl Try.underlying23 info28 rfl (by decide) (by omega) u6 x6_2 (⟨true, x7_2⟩ : S28) [.bool true, .int .i64 x7_2] (fun _ => True) (fun _ => False) rfl rfl ?aP (fun _ hk => hk.elim) ?aF ?aO ?aB ?aS ?aL ?_; (case aP => exact k28_mkM _ _ _ (⟨true, x7_2⟩ : S28)); (case aB => exact (by repeat (first | (with_reducible first | exact HB.out | apply below_alloc | apply pw_below_drewN | apply below_drew1) | exact HB.out))); (case aF => exact (fun _ _ => trivial)); (case aO => exact (by (with_reducible repeat (first | apply Kd.R_alloc | apply Kd.R_drewN | apply Kd.R_drew)); exact HO_6.out)); (case aS => exact (below_size (by repeat (first | (with_reducible first | exact HB.out | apply below_alloc | apply pw_below_drewN | apply below_drew1) | exact HB.out)))); (case aL => have := LMc17.out; omega); intro v11008 w18 ho hb hg hat; rw [← Ny11007.out] at ho; have n0_ := Aside0.mk (hb); have n1_ := Aside0.mk (ho); clear HB; clear HO_6; have HB := n0_; have HO11009 := n1_; clear n0_ n1_; clear ho hb hg hat))
                    go_roundg k2
                    case measure => have := HJ2.out; have := HK2.out; omega
                    case rel => exact ⟨(y11007), (wrap64 (x7_2 + 1)), (by first | rfl | (simp; done) | (simp [*]; done)), H', ⟨by have := HJ2.out; have := HK2.out; omega⟩, ⟨by (with_reducible repeat (first | apply Kd.R_alloc | apply Kd.R_drewN | apply Kd.R_drew)); exact HO11009.out⟩, ⟨by repeat (first | (with_reducible first | exact HB.out | apply below_alloc | apply pw_below_drewN | apply below_drew1) | exact HB.out)⟩⟩
                  · rw [if_neg c17] at H
                    exact absurd H (by simp)
            · rw [if_neg c8] at H
              have c8b0 : decide (x7_2 < 64) = false := decide_eq_false c8
              clear c8
              simp only [Option.some.injEq, Prod.mk.injEq] at H
              obtain ⟨rfl, rfl⟩ := H
              go_wp2
              go_ret2
              exact ⟨_, by first | rfl | (simp [errW_none, errW_some] <;> rfl) | (simp [*, errW_none, errW_some] <;> rfl), by (with_reducible repeat (first | apply Kd.R_alloc | apply Kd.R_drewN | apply Kd.R_drew)); exact HO_6.out, by repeat (first | (with_reducible first | exact HB.out | apply below_alloc | apply pw_below_drewN | apply below_drew1) | exact HB.out)⟩

end Go.Proofs.Ytpjlhehmobhijaa.Q
