/- What Go functions of this program answer, as plain Lean functions, and that the calls answer so, wherever the plain function has an answer. Written by a program of this claim's own out of the translation. -/
import Derived.Test.YtpjlhehmobhijaaQ0
import Derived.Test.YtpjlhehmobhijaaQBlockPlan
import Derived.Test.YtpjlhehmobhijaaQTinderlaw20Alive
import Derived.Test.YtpjlhehmobhijaaQTinderref20Plan
import Derived.Test.YtpjlhehmobhijaaQEq28
namespace Go.Proofs.Ytpjlhehmobhijaa.Q
open Go.RowKit Go.Proofs.YtpjlhehmobhijaaW.PrintWords Go.Proofs.YtpjlhehmobhijaaW.PrintLast Go.Proofs.YtpjlhehmobhijaaW.PrintMore
set_option linter.unusedVariables false
set_option linter.unusedSimpArgs false

attribute [local go_sem] max2_int min2_int max_two min_two max_three min_three max_four min_four
attribute [local go_sem high] eqA28
/-! ### tinderlaw20_BlockPlans: function 3 -/
mutual
def tinderlaw20_BlockPlans.j0 : Nat → List (S28) → List (S28) → Bool → Option (Bool)
  | 0, _, _, _ => none
  | k + 1, x5, x7, x33 => if x33 = true then (some false) else (tinderlaw20_BlockPlans.l0 k x5 x7 0)
def tinderlaw20_BlockPlans.l0 : Nat → List (S28) → List (S28) → Int → Option (Bool)
  | 0, _, _, _ => none
  | k + 1, x5, x7, x9 => if x9 < (x5.length : Int) then (if 0 ≤ x9 then (if x9 < (x7.length : Int) then (if (!(((rd_T28 x5 x9).f0) == ((rd_T28 x7 x9).f0)) || (!(((rd_T28 x5 x9).f1) == ((rd_T28 x7 x9).f1)))) = true then (some false) else (tinderlaw20_BlockPlans.l0 k x5 x7 (wrap64 (x9 + 1)))) else (none)) else (none)) else (some true)
end
def tinderlaw20_BlockPlans.f (k : Nat) (a0 : Int) (a1 : Int) : Option (Bool) := (tinderlaw20_alive.f k).bind fun t4001 => (if t4001 = true then ((block_Plan.f k a0 a1).bind fun bt4002 => ((tinderref20_Plan.f k a0 a1).bind fun bt4006 => (if bt4002.2 = bt4006.2 then (tinderlaw20_BlockPlans.j0 k bt4002.1 bt4006.1 ((bt4002.1.length : Int) != (bt4006.1.length : Int))) else (tinderlaw20_BlockPlans.j0 k bt4002.1 bt4006.1 true)))) else (some false))
theorem tinderlaw20_BlockPlans.mono_l : ∀ k, (∀ y0 y1 y2, LeO (tinderlaw20_BlockPlans.j0 k y0 y1 y2) (tinderlaw20_BlockPlans.j0 (k + 1) y0 y1 y2)) ∧ (∀ y0 y1 y2, LeO (tinderlaw20_BlockPlans.l0 k y0 y1 y2) (tinderlaw20_BlockPlans.l0 (k + 1) y0 y1 y2))
  | 0 => ⟨fun _ _ _ r h => by simp [tinderlaw20_BlockPlans.j0] at h, fun _ _ _ r h => by simp [tinderlaw20_BlockPlans.l0] at h⟩
  | k + 1 => by
    obtain ⟨ih0, ih1⟩ := tinderlaw20_BlockPlans.mono_l k
    refine ⟨?_, ?_⟩
    · intro y0 y1 y2
      unfold tinderlaw20_BlockPlans.j0
      repeat' first
      | (with_reducible exact ih0 _ _ _)
      | (with_reducible exact ih1 _ _ _)
      | (with_reducible exact block_Plan.mono _ _ _)
      | (with_reducible exact tinderlaw20_alive.mono _)
      | (with_reducible exact tinderref20_Plan.mono _ _ _)
      | (with_reducible exact LeO.refl _)
      | (with_reducible exact LeO.none _)
      | (with_reducible refine LeO.ite ?_ ?_)
      | (with_reducible refine LeO.bind ?_ (fun _ => ?_))
      | exact ih0 _ _ _
      | exact ih1 _ _ _
      | exact block_Plan.mono _ _ _
      | exact tinderlaw20_alive.mono _
      | exact tinderref20_Plan.mono _ _ _
      | exact LeO.none _
      | refine LeO.ite ?_ ?_
      | refine LeO.bind ?_ (fun _ => ?_)
    · intro y0 y1 y2
      unfold tinderlaw20_BlockPlans.l0
      repeat' first
      | (with_reducible exact ih0 _ _ _)
      | (with_reducible exact ih1 _ _ _)
      | (with_reducible exact block_Plan.mono _ _ _)
      | (with_reducible exact tinderlaw20_alive.mono _)
      | (with_reducible exact tinderref20_Plan.mono _ _ _)
      | (with_reducible exact LeO.refl _)
      | (with_reducible exact LeO.none _)
      | (with_reducible refine LeO.ite ?_ ?_)
      | (with_reducible refine LeO.bind ?_ (fun _ => ?_))
      | exact ih0 _ _ _
      | exact ih1 _ _ _
      | exact block_Plan.mono _ _ _
      | exact tinderlaw20_alive.mono _
      | exact tinderref20_Plan.mono _ _ _
      | exact LeO.none _
      | refine LeO.ite ?_ ?_
      | refine LeO.bind ?_ (fun _ => ?_)
theorem tinderlaw20_BlockPlans.mono : ∀ a0 a1 k, LeO (tinderlaw20_BlockPlans.f k a0 a1) (tinderlaw20_BlockPlans.f (k + 1) a0 a1) := by
  intro a0 a1 k
  obtain ⟨ih0, ih1⟩ := tinderlaw20_BlockPlans.mono_l k
  unfold tinderlaw20_BlockPlans.f
  repeat' first
      | (with_reducible exact ih0 _ _ _)
      | (with_reducible exact ih1 _ _ _)
      | (with_reducible exact block_Plan.mono _ _ _)
      | (with_reducible exact tinderlaw20_alive.mono _)
      | (with_reducible exact tinderref20_Plan.mono _ _ _)
      | (with_reducible exact LeO.refl _)
      | (with_reducible exact LeO.none _)
      | (with_reducible refine LeO.ite ?_ ?_)
      | (with_reducible refine LeO.bind ?_ (fun _ => ?_))
      | exact ih0 _ _ _
      | exact ih1 _ _ _
      | exact block_Plan.mono _ _ _
      | exact tinderlaw20_alive.mono _
      | exact tinderref20_Plan.mono _ _ _
      | exact LeO.none _
      | refine LeO.ite ?_ ?_
      | refine LeO.bind ?_ (fun _ => ?_)
set_option maxHeartbeats 8000000 in
set_option maxRecDepth 100000 in
theorem tinderlaw20_BlockPlans.calls (k : Nat) (a0 : Int) (a1 : Int) (r : Bool) (w : World) (h : tinderlaw20_BlockPlans.f k a0 a1 = some r) :
    Calls Try.prog 3 #[.int .i64 a0, .int .i64 a1] w fun e w' => e = .returned (.bool r) ∧ Below w.heap.size w w' := by
  have hu28 := Try.underlying28
  have HB := Aside0.mk (Below.refl w.heap.size w)
  have H : ((tinderlaw20_alive.f k).bind fun t4001 => (if t4001 = true then ((block_Plan.f k a0 a1).bind fun bt4002 => ((tinderref20_Plan.f k a0 a1).bind fun bt4006 => (if bt4002.2 = bt4006.2 then (tinderlaw20_BlockPlans.j0 k bt4002.1 bt4006.1 ((bt4002.1.length : Int) != (bt4006.1.length : Int))) else (tinderlaw20_BlockPlans.j0 k bt4002.1 bt4006.1 true)))) else (some false))) = some r := h
  clear h
  replace H := Option.bind_eq_some_iff.mp H
  obtain ⟨t4001, A30, H⟩ := H
  replace H : (if t4001 = true then ((block_Plan.f k a0 a1).bind fun bt4002 => ((tinderref20_Plan.f k a0 a1).bind fun bt4006 => (if bt4002.2 = bt4006.2 then (tinderlaw20_BlockPlans.j0 k bt4002.1 bt4006.1 ((bt4002.1.length : Int) != (bt4006.1.length : Int))) else (tinderlaw20_BlockPlans.j0 k bt4002.1 bt4006.1 true)))) else (some false)) = some r := H
  have A3 := Aside0.mk A30
  clear A30
  by_cases c4 : t4001 = true
  · subst c4
    have H1 : ((block_Plan.f k a0 a1).bind fun bt4002 => ((tinderref20_Plan.f k a0 a1).bind fun bt4006 => (if bt4002.2 = bt4006.2 then (tinderlaw20_BlockPlans.j0 k bt4002.1 bt4006.1 ((bt4002.1.length : Int) != (bt4006.1.length : Int))) else (tinderlaw20_BlockPlans.j0 k bt4002.1 bt4006.1 true)))) = some r := by rw [if_pos rfl] at H; exact H
    clear H
    have H := H1
    clear H1
    replace H := Option.bind_eq_some_iff.mp H
    obtain ⟨⟨t4002, t4003⟩, A50, H⟩ := H
    replace H : ((tinderref20_Plan.f k a0 a1).bind fun bt4006 => (if t4003 = bt4006.2 then (tinderlaw20_BlockPlans.j0 k t4002 bt4006.1 ((t4002.length : Int) != (bt4006.1.length : Int))) else (tinderlaw20_BlockPlans.j0 k t4002 bt4006.1 true))) = some r := H
    have A5 := Aside0.mk A50
    clear A50
    replace H := Option.bind_eq_some_iff.mp H
    obtain ⟨⟨t4006, t4007⟩, A60, H⟩ := H
    replace H : (if t4003 = t4007 then (tinderlaw20_BlockPlans.j0 k t4002 t4006 ((t4002.length : Int) != (t4006.length : Int))) else (tinderlaw20_BlockPlans.j0 k t4002 t4006 true)) = some r := H
    have A6 := Aside0.mk A60
    clear A60
    have HC7 := Aside0.mk H
    clear H
    go_enter Try.func3, Try.ntmps3
    go_upto_region 5 with (first | (go_at_call 8; (with_reducible refine (tinderlaw20_alive.calls k  true _ A3.out).mono ?_); rintro e w8 ⟨rfl, hb⟩; have n0_ := Aside0.mk (below_step (by repeat (first | (with_reducible first | exact HB.out | apply below_alloc | apply pw_below_drewN | apply below_drew1) | exact HB.out)) hb); clear HB; have HB := n0_; clear n0_; (try clear hb); (try clear hb2); (try clear hk); (try clear hi)) | (go_at_call 9; (with_reducible refine (block_Plan.calls k a0 a1 t4002 t4003 _ A5.out).mono ?_); rintro e w9 ⟨v4004, rfl, ho0, hb⟩; have n0_ := Aside0.mk (Kd.R_lower ho0 (below_size (by repeat (first | (with_reducible first | exact HB.out | apply below_alloc | apply pw_below_drewN | apply below_drew1) | exact HB.out)))); have n1_ := Aside0.mk (below_step (by repeat (first | (with_reducible first | exact HB.out | apply below_alloc | apply pw_below_drewN | apply below_drew1) | exact HB.out)) hb); clear HB; have HO4005 := n0_; have HB := n1_; clear n0_ n1_; (try clear hb); (try clear hb2); (try clear hk); (try clear hi); (try clear ho0)) | (go_at_call 10; (with_reducible refine (tinderref20_Plan.calls k a0 a1 t4006 t4007 _ A6.out).mono ?_); rintro e w10 ⟨v4008, rfl, ho0, hb⟩; have n0_ := Aside0.mk (Kd.R_elder' (by (with_reducible repeat (first | apply Kd.R_alloc | apply Kd.R_drewN | apply Kd.R_drew)); exact HO4005.out) (Kd.R_base ho0) hb); have n1_ := Aside0.mk (Kd.R_lower (Kd.R_new' ho0 (Kd.R_lt (by (with_reducible repeat (first | apply Kd.R_alloc | apply Kd.R_drewN | apply Kd.R_drew)); exact HO4005.out))) (below_size (by repeat (first | (with_reducible first | exact HB.out | apply below_alloc | apply pw_below_drewN | apply below_drew1) | exact HB.out)))); have n2_ := Aside0.mk (below_step (by repeat (first | (with_reducible first | exact HB.out | apply below_alloc | apply pw_below_drewN | apply below_drew1) | exact HB.out)) hb); clear HO4005; clear HB; have HO4005 := n0_; have HO4009 := n1_; have HB := n2_; clear n0_ n1_ n2_; (try clear hb); (try clear hb2); (try clear hk); (try clear hi); (try clear ho0)))
    repeat (go_quiet (first | (go_at_call 8; (with_reducible refine (tinderlaw20_alive.calls k  true _ A3.out).mono ?_); rintro e w8 ⟨rfl, hb⟩; have n0_ := Aside0.mk (below_step (by repeat (first | (with_reducible first | exact HB.out | apply below_alloc | apply pw_below_drewN | apply below_drew1) | exact HB.out)) hb); clear HB; have HB := n0_; clear n0_; (try clear hb); (try clear hb2); (try clear hk); (try clear hi)) | (go_at_call 9; (with_reducible refine (block_Plan.calls k a0 a1 t4002 t4003 _ A5.out).mono ?_); rintro e w9 ⟨v4004, rfl, ho0, hb⟩; have n0_ := Aside0.mk (Kd.R_lower ho0 (below_size (by repeat (first | (with_reducible first | exact HB.out | apply below_alloc | apply pw_below_drewN | apply below_drew1) | exact HB.out)))); have n1_ := Aside0.mk (below_step (by repeat (first | (with_reducible first | exact HB.out | apply below_alloc | apply pw_below_drewN | apply below_drew1) | exact HB.out)) hb); clear HB; have HO4005 := n0_; have HB := n1_; clear n0_ n1_; (try clear hb); (try clear hb2); (try clear hk); (try clear hi); (try clear ho0)) | (go_at_call 10; (with_reducible refine (tinderref20_Plan.calls k a0 a1 t4006 t4007 _ A6.out).mono ?_); rintro e w10 ⟨v4008, rfl, ho0, hb⟩; have n0_ := Aside0.mk (Kd.R_elder' (by (with_reducible repeat (first | apply Kd.R_alloc | apply Kd.R_drewN | apply Kd.R_drew)); exact HO4005.out) (Kd.R_base ho0) hb); have n1_ := Aside0.mk (Kd.R_lower (Kd.R_new' ho0 (Kd.R_lt (by (with_reducible repeat (first | apply Kd.R_alloc | apply Kd.R_drewN | apply Kd.R_drew)); exact HO4005.out))) (below_size (by repeat (first | (with_reducible first | exact HB.out | apply below_alloc | apply pw_below_drewN | apply below_drew1) | exact HB.out)))); have n2_ := Aside0.mk (below_step (by repeat (first | (with_reducible first | exact HB.out | apply below_alloc | apply pw_below_drewN | apply below_drew1) | exact HB.out)) hb); clear HO4005; clear HB; have HO4005 := n0_; have HO4009 := n1_; have HB := n2_; clear n0_ n1_ n2_; (try clear hb); (try clear hb2); (try clear hk); (try clear hi); (try clear ho0))); go_upto_region 5 with (first | (go_at_call 8; (with_reducible refine (tinderlaw20_alive.calls k  true _ A3.out).mono ?_); rintro e w8 ⟨rfl, hb⟩; have n0_ := Aside0.mk (below_step (by repeat (first | (with_reducible first | exact HB.out | apply below_alloc | apply pw_below_drewN | apply below_drew1) | exact HB.out)) hb); clear HB; have HB := n0_; clear n0_; (try clear hb); (try clear hb2); (try clear hk); (try clear hi)) | (go_at_call 9; (with_reducible refine (block_Plan.calls k a0 a1 t4002 t4003 _ A5.out).mono ?_); rintro e w9 ⟨v4004, rfl, ho0, hb⟩; have n0_ := Aside0.mk (Kd.R_lower ho0 (below_size (by repeat (first | (with_reducible first | exact HB.out | apply below_alloc | apply pw_below_drewN | apply below_drew1) | exact HB.out)))); have n1_ := Aside0.mk (below_step (by repeat (first | (with_reducible first | exact HB.out | apply below_alloc | apply pw_below_drewN | apply below_drew1) | exact HB.out)) hb); clear HB; have HO4005 := n0_; have HB := n1_; clear n0_ n1_; (try clear hb); (try clear hb2); (try clear hk); (try clear hi); (try clear ho0)) | (go_at_call 10; (with_reducible refine (tinderref20_Plan.calls k a0 a1 t4006 t4007 _ A6.out).mono ?_); rintro e w10 ⟨v4008, rfl, ho0, hb⟩; have n0_ := Aside0.mk (Kd.R_elder' (by (with_reducible repeat (first | apply Kd.R_alloc | apply Kd.R_drewN | apply Kd.R_drew)); exact HO4005.out) (Kd.R_base ho0) hb); have n1_ := Aside0.mk (Kd.R_lower (Kd.R_new' ho0 (Kd.R_lt (by (with_reducible repeat (first | apply Kd.R_alloc | apply Kd.R_drewN | apply Kd.R_drew)); exact HO4005.out))) (below_size (by repeat (first | (with_reducible first | exact HB.out | apply below_alloc | apply pw_below_drewN | apply below_drew1) | exact HB.out)))); have n2_ := Aside0.mk (below_step (by repeat (first | (with_reducible first | exact HB.out | apply below_alloc | apply pw_below_drewN | apply below_drew1) | exact HB.out)) hb); clear HO4005; clear HB; have HO4005 := n0_; have HO4009 := n1_; have HB := n2_; clear n0_ n1_ n2_; (try clear hb); (try clear hb2); (try clear hk); (try clear hi); (try clear ho0))))
    (try simp only [Act.put, List.setIfInBounds_toArray, List.set_cons_zero, List.set_cons_succ])
    go_cut [33] (fun v33 wc => ∃ (kq : Nat) (x33_6 : Bool), v33 = .bool x33_6 ∧ Aside0 (tinderlaw20_BlockPlans.j0 kq t4002 t4006 x33_6 = some r) ∧ Aside0 (kq ≤ k) ∧ Aside0 (Kd.R k28 28 wc w.heap.size (fun k_ => some k_ ≠ (v4008 : Value).ownBlock) v4004 t4002) ∧ Aside0 (Kd.R k28 28 wc w.heap.size (fun k_ => some k_ ≠ (v4004 : Value).ownBlock) v4008 t4006) ∧ Aside0 (Below w.heap.size w wc))
    case first =>
      have H := HC7.out
      clear HC7
      by_cases c11 : t4003 = t4007
      · rw [if_pos c11] at H
        have c11b0 : (t4003 == t4007) = true := beq_iff_eq.mpr c11
        have c11b1 : (t4003 != t4007) = false := bne_eq_false_iff_eq.mpr c11
        clear c11
        (first | rw [c11b0] | (simp only [i64_w, i32_w]; rw [c11b0]) | skip)
        have H' := Aside0.mk H
        clear H
        obtain ⟨Ao12, co12, eo12⟩ := Kd.R_slice HO4005.out
        subst eo12
        obtain ⟨Ao13, co13, eo13⟩ := Kd.R_slice HO4009.out
        subst eo13
        go_wp2
        repeat (go_quiet (fail); try go_wp2)
        go_meet
        case rel => exact ⟨_, (((t4002.length : Int) != (t4006.length : Int))), (by first | rfl | (simp; done) | (simp [*]; done)), H', ⟨by first | omega | exact Nat.le_refl _⟩, ⟨by (with_reducible repeat (first | apply Kd.R_alloc | apply Kd.R_drewN | apply Kd.R_drew)); exact Kd.R_mono HO4005.out (fun _ hk => hk.2)⟩, ⟨by (with_reducible repeat (first | apply Kd.R_alloc | apply Kd.R_drewN | apply Kd.R_drew)); exact Kd.R_mono HO4009.out (fun _ hk => hk.2)⟩, ⟨by repeat (first | (with_reducible first | exact HB.out | apply below_alloc | apply pw_below_drewN | apply below_drew1) | exact HB.out)⟩⟩
      · rw [if_neg c11] at H
        have c11b0 : (t4003 == t4007) = false := beq_eq_false_iff_ne.mpr c11
        have c11b1 : (t4003 != t4007) = true := bne_iff_ne.mpr c11
        (first | rw [c11b0] | (simp only [i64_w, i32_w]; rw [c11b0]) | skip)
        have H' := Aside0.mk H
        clear H
        go_wp2
        repeat (go_quiet (fail); try go_wp2)
        go_meet
        case rel => exact ⟨_, (true), (by first | rfl | (simp; done) | (simp [*]; done)), H', ⟨by first | omega | exact Nat.le_refl _⟩, ⟨by (with_reducible repeat (first | apply Kd.R_alloc | apply Kd.R_drewN | apply Kd.R_drew)); exact Kd.R_mono HO4005.out (fun _ hk => hk.2)⟩, ⟨by (with_reducible repeat (first | apply Kd.R_alloc | apply Kd.R_drewN | apply Kd.R_drew)); exact Kd.R_mono HO4009.out (fun _ hk => hk.2)⟩, ⟨by repeat (first | (with_reducible first | exact HB.out | apply below_alloc | apply pw_below_drewN | apply below_drew1) | exact HB.out)⟩⟩
    case rest =>
      clear HC7
      try clear c1
      try clear p2
      try clear c3
      try clear c4
      try clear c11
      try clear c11b0
      try clear c11b1
      obtain ⟨kq, x33_6, rfl, HA, HJ6, HO_5, HO_7, HB⟩ := hcut
      cases kq with
      | zero => exact absurd HA.out (by simp [tinderlaw20_BlockPlans.j0])
      | succ kj6 =>
        have H := HA.out
        clear HA
        simp only [tinderlaw20_BlockPlans.j0] at H
        by_cases c14 : x33_6 = true
        · subst c14
          have H1 : (some false) = some r := by rw [if_pos rfl] at H; exact H
          clear H
          have H := H1
          clear H1
          obtain rfl := Option.some.inj H
          go_wp2
          repeat (go_quiet (fail); try go_wp2)
          go_ret
          exact ⟨by first | rfl | (simp [errW_none, errW_some] <;> rfl) | (simp [*, errW_none, errW_some] <;> rfl), by repeat (first | (with_reducible first | exact HB.out | apply below_alloc | apply pw_below_drewN | apply below_drew1) | exact HB.out)⟩
        · replace c14 := Bool.eq_false_iff.mpr c14
          subst c14
          have H1 : (tinderlaw20_BlockPlans.l0 kj6 t4002 t4006 0) = some r := by rw [if_neg (show ¬ (false = true) by decide)] at H; exact H
          clear H
          have H := H1
          clear H1
          have H' := Aside0.mk H
          clear H
          go_wp2
          repeat (go_quiet (fail); try go_wp2)
          go_loopg [9] kj6 (fun kq v9 w' => ∃ (x9_2 : Int), v9 = .int .i64 x9_2 ∧ Aside0 (tinderlaw20_BlockPlans.l0 kq t4002 t4006 x9_2 = some r) ∧ Aside0 (kq ≤ kj6) ∧ Aside0 (Kd.R k28 28 w' w.heap.size (fun k_ => some k_ ≠ (v4008 : Value).ownBlock) v4004 t4002) ∧ Aside0 (Kd.R k28 28 w' w.heap.size (fun k_ => some k_ ≠ (v4004 : Value).ownBlock) v4008 t4006) ∧ Aside0 (Below w.heap.size w w'))
          case atStart => exact ⟨(0), (by first | rfl | (simp; done) | (simp [*]; done)), H', ⟨Nat.le_refl _⟩, ⟨by (with_reducible repeat (first | apply Kd.R_alloc | apply Kd.R_drewN | apply Kd.R_drew)); exact HO_5.out⟩, ⟨by (with_reducible repeat (first | apply Kd.R_alloc | apply Kd.R_drewN | apply Kd.R_drew)); exact HO_7.out⟩, ⟨by repeat (first | (with_reducible first | exact HB.out | apply below_alloc | apply pw_below_drewN | apply below_drew1) | exact HB.out)⟩⟩
          case round =>
            clear H'
            try clear c1
            try clear p2
            try clear c3
            try clear c4
            try clear c11
            try clear c11b0
            try clear c11b1
            try clear c14
            try clear p2
            obtain ⟨x9_2, rfl, HA, HK2, HO_5, HO_7, HB⟩ := hrel
            cases gk with
            | zero => exact absurd HA.out (by simp [tinderlaw20_BlockPlans.l0])
            | succ k2 =>
              have H := HA.out
              clear HA
              simp only [tinderlaw20_BlockPlans.l0] at H
              by_cases c15 : x9_2 < (t4002.length : Int)
              · rw [if_pos c15] at H
                have c15b0 : decide (x9_2 < (t4002.length : Int)) = true := decide_eq_true c15
                clear c15
                by_cases c16 : 0 ≤ x9_2
                · rw [if_pos c16] at H
                  have c16b0 : decide (0 ≤ x9_2) = true := decide_eq_true c16
                  clear c16
                  by_cases c17 : x9_2 < (t4006.length : Int)
                  · rw [if_pos c17] at H
                    have c17b0 : decide (x9_2 < (t4006.length : Int)) = true := decide_eq_true c17
                    clear c17
                    by_cases c18 : (!(((rd_T28 t4002 x9_2).f0) == ((rd_T28 t4006 x9_2).f0)) || (!(((rd_T28 t4002 x9_2).f1) == ((rd_T28 t4006 x9_2).f1)))) = true
                    · rw [if_pos c18] at H
                      have c18b0 : (!(((rd_T28 t4002 x9_2).f0) == ((rd_T28 t4006 x9_2).f0)) || (!(((rd_T28 t4002 x9_2).f1) == ((rd_T28 t4006 x9_2).f1)))) = true := c18
                      clear c18
                      obtain rfl := Option.some.inj H
                      obtain ⟨Ao19, co19, eo19⟩ := Kd.R_slice HO_5.out
                      subst eo19
                      have p4010 : 0 ≤ (x9_2 : Int) := of_decide_eq_true (by first | (with_reducible assumption) | assumption)
                      have q4010 : x9_2 < (t4002.length : Int) := of_decide_eq_true (by first | (with_reducible assumption) | assumption)
                      obtain ⟨ad4010, e4010, hx4010_0, hx4010_1⟩ := at_T28 (Kd.R_reads' HO_5.out).2.2 x9_2 p4010 q4010
                      cases e4010
                      replace p4010 := eq_true p4010
                      replace q4010 := eq_true q4010
                      obtain ⟨Ao20, co20, eo20⟩ := Kd.R_slice HO_7.out
                      subst eo20
                      have p4011 : 0 ≤ (x9_2 : Int) := of_decide_eq_true (by first | (with_reducible assumption) | assumption)
                      have q4011 : x9_2 < (t4006.length : Int) := of_decide_eq_true (by first | (with_reducible assumption) | assumption)
                      obtain ⟨ad4011, e4011, hx4011_0, hx4011_1⟩ := at_T28 (Kd.R_reads' HO_7.out).2.2 x9_2 p4011 q4011
                      cases e4011
                      replace p4011 := eq_true p4011
                      replace q4011 := eq_true q4011
                      go_wp2
                      repeat (go_quiet (fail); try go_wp2)
                      go_ret
                      exact ⟨by first | rfl | (simp [errW_none, errW_some] <;> rfl) | (simp [*, errW_none, errW_some] <;> rfl), by repeat (first | (with_reducible first | exact HB.out | apply below_alloc | apply pw_below_drewN | apply below_drew1) | exact HB.out)⟩
                    · rw [if_neg c18] at H
                      have c18b0 : (!(((rd_T28 t4002 x9_2).f0) == ((rd_T28 t4006 x9_2).f0)) || (!(((rd_T28 t4002 x9_2).f1) == ((rd_T28 t4006 x9_2).f1)))) = false := by simpa using c18
                      clear c18
                      have H' := Aside0.mk H
                      clear H
                      obtain ⟨Ao21, co21, eo21⟩ := Kd.R_slice HO_5.out
                      subst eo21
                      have p4010 : 0 ≤ (x9_2 : Int) := of_decide_eq_true (by first | (with_reducible assumption) | assumption)
                      have q4010 : x9_2 < (t4002.length : Int) := of_decide_eq_true (by first | (with_reducible assumption) | assumption)
                      obtain ⟨ad4010, e4010, hx4010_0, hx4010_1⟩ := at_T28 (Kd.R_reads' HO_5.out).2.2 x9_2 p4010 q4010
                      cases e4010
                      replace p4010 := eq_true p4010
                      replace q4010 := eq_true q4010
                      obtain ⟨Ao22, co22, eo22⟩ := Kd.R_slice HO_7.out
                      subst eo22
                      have p4011 : 0 ≤ (x9_2 : Int) := of_decide_eq_true (by first | (with_reducible assumption) | assumption)
                      have q4011 : x9_2 < (t4006.length : Int) := of_decide_eq_true (by first | (with_reducible assumption) | assumption)
                      obtain ⟨ad4011, e4011, hx4011_0, hx4011_1⟩ := at_T28 (Kd.R_reads' HO_7.out).2.2 x9_2 p4011 q4011
                      cases e4011
                      replace p4011 := eq_true p4011
                      replace q4011 := eq_true q4011
                      go_wp2
                      repeat (go_quiet (fail); try go_wp2)
                      go_roundg k2
                      case measure => have := HJ6.out; have := HK2.out; omega
                      case rel => exact ⟨(wrap64 (x9_2 + 1)), (by first | rfl | (simp; done) | (simp [*]; done)), H', ⟨by have := HJ6.out; have := HK2.out; omega⟩, ⟨by (with_reducible repeat (first | apply Kd.R_alloc | apply Kd.R_drewN | apply Kd.R_drew)); exact HO_5.out⟩, ⟨by (with_reducible repeat (first | apply Kd.R_alloc | apply Kd.R_drewN | apply Kd.R_drew)); exact HO_7.out⟩, ⟨by repeat (first | (with_reducible first | exact HB.out | apply below_alloc | apply pw_below_drewN | apply below_drew1) | exact HB.out)⟩⟩
                  · rw [if_neg c17] at H
                    exact absurd H (by simp)
                · rw [if_neg c16] at H
                  exact absurd H (by simp)
              · rw [if_neg c15] at H
                have c15b0 : decide (x9_2 < (t4002.length : Int)) = false := decide_eq_false c15
                clear c15
                obtain rfl := Option.some.inj H
                obtain ⟨Ao23, co23, eo23⟩ := Kd.R_slice HO_5.out
                subst eo23
                go_wp2
                repeat (go_quiet (fail); try go_wp2)
                go_ret
                exact ⟨by first | rfl | (simp [errW_none, errW_some] <;> rfl) | (simp [*, errW_none, errW_some] <;> rfl), by repeat (first | (with_reducible first | exact HB.out | apply below_alloc | apply pw_below_drewN | apply below_drew1) | exact HB.out)⟩
  · replace c4 := Bool.eq_false_iff.mpr c4
    subst c4
    have H1 : (some false) = some r := by rw [if_neg (show ¬ (false = true) by decide)] at H; exact H
    clear H
    have H := H1
    clear H1
    obtain rfl := Option.some.inj H
    go_enter Try.func3, Try.ntmps3
    go_wp2_with (first | (go_at_call 8; (with_reducible refine (tinderlaw20_alive.calls k  false _ A3.out).mono ?_); rintro e w24 ⟨rfl, hb⟩; have n0_ := Aside0.mk (below_step (by repeat (first | (with_reducible first | exact HB.out | apply below_alloc | apply pw_below_drewN | apply below_drew1) | exact HB.out)) hb); clear HB; have HB := n0_; clear n0_; (try clear hb); (try clear hb2); (try clear hk); (try clear hi)))
    repeat (go_quiet (first | (go_at_call 8; (with_reducible refine (tinderlaw20_alive.calls k  false _ A3.out).mono ?_); rintro e w24 ⟨rfl, hb⟩; have n0_ := Aside0.mk (below_step (by repeat (first | (with_reducible first | exact HB.out | apply below_alloc | apply pw_below_drewN | apply below_drew1) | exact HB.out)) hb); clear HB; have HB := n0_; clear n0_; (try clear hb); (try clear hb2); (try clear hk); (try clear hi))); try go_wp2_with (first | (go_at_call 8; (with_reducible refine (tinderlaw20_alive.calls k  false _ A3.out).mono ?_); rintro e w24 ⟨rfl, hb⟩; have n0_ := Aside0.mk (below_step (by repeat (first | (with_reducible first | exact HB.out | apply below_alloc | apply pw_below_drewN | apply below_drew1) | exact HB.out)) hb); clear HB; have HB := n0_; clear n0_; (try clear hb); (try clear hb2); (try clear hk); (try clear hi))))
    go_ret
    exact ⟨by first | rfl | (simp [errW_none, errW_some] <;> rfl) | (simp [*, errW_none, errW_some] <;> rfl), by repeat (first | (with_reducible first | exact HB.out | apply below_alloc | apply pw_below_drewN | apply below_drew1) | exact HB.out)⟩

/-- THE ONE PURE STATEMENT of tinderlaw20_BlockPlans: yours. -/
def tinderlaw20_BlockPlans.Pure : Prop := ∀ (a0 : Int) (a1 : Int), (Lit.int .i64 a0).wf = true → (Lit.int .i64 a1).wf = true → ∃ k, tinderlaw20_BlockPlans.f k a0 a1 = some true
theorem tinderlaw20_BlockPlans.walk (P : tinderlaw20_BlockPlans.Pure) (a0 : Int) (a1 : Int) (w : World) (w0 : (Lit.int .i64 a0).wf = true) (w1 : (Lit.int .i64 a1).wf = true) :
    Calls Try.prog 3 #[.int .i64 a0, .int .i64 a1] w fun e w' => e = .returned (.bool true) ∧ Below w.heap.size w w' := by
  obtain ⟨k, h⟩ := P a0 a1 w0 w1
  refine (tinderlaw20_BlockPlans.calls k a0 a1 true w h).mono ?_
  rintro e w' ⟨rfl, hd⟩
  exact ⟨rfl, hd⟩

end Go.Proofs.Ytpjlhehmobhijaa.Q
