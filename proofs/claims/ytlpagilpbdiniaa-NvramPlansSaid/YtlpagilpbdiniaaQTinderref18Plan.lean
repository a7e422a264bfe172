/- What Go functions of this program answer, as plain Lean functions, and that the calls answer so, wherever the plain function has an answer. Written by a program of this claim's own out of the translation. -/
import Derived.Test.YtlpagilpbdiniaaQ0
import Derived.Test.YtlpagilpbdiniaaQTinderref05EncodeInt
import Derived.Test.YtlpagilpbdiniaaQTinderref18Sum
import Derived.Test.YtlpagilpbdiniaaHNvRef
namespace Go.Proofs.Ytlpagilpbdiniaa.Q
open Go.RowKit Go.Proofs.YtlpagilpbdiniaaW.PrintWords Go.Proofs.YtlpagilpbdiniaaW.PrintLast Go.Proofs.YtlpagilpbdiniaaW.PrintMore
set_option linter.unusedVariables false
set_option linter.unusedSimpArgs false

attribute [local go_sem] max2_int min2_int max_two min_two max_three min_three max_four min_four
/-! ### tinderref18_Plan: function 18 -/
mutual
def tinderref18_Plan.j0 : Nat → List Int → Int → Int → Option ((List (S62)) × Int)
  | 0, _, _, _ => none
  | k + 1, x1, x7, x8 => (some (([x7, 0, ((x1.length : Int)) % 256] : List Int) : List Int)).bind fun y19003 => ((tinderref18_Sum.f k x7 x1).bind fun t19006 => ((tinderref05_EncodeInt.f k t19006).bind fun t19007 => (if y19003.length + t19007.length < 140737488355328 then ((some (y19003 ++ t19007 : List Int)).bind fun y19010 => (if y19010.length + x1.length < 140737488355328 then (tinderref18_Plan.l0 k x8 (y19010 ++ x1) (([(⟨x8, 0⟩ : S62)] : List (S62))) 0) else (none))) else (none))))
def tinderref18_Plan.l0 : Nat → Int → List Int → List (S62) → Int → Option ((List (S62)) × Int)
  | 0, _, _, _, _ => none
  | k + 1, x8, x9, x10, x11 => if x11 < (x9.length : Int) then (if 0 ≤ x11 then (if x10.length < 8796093022208 then (tinderref18_Plan.l0 k x8 x9 (x10 ++ [(⟨wrap64 ((wrap64 (x8 + 1)) + x11), rd x9 x11⟩ : S62)]) (wrap64 (x11 + 1))) else (none)) else (none)) else (if x10.length < 8796093022208 then (some ((x10 ++ [(⟨x8, 165⟩ : S62)]), 0)) else (none))
end
def tinderref18_Plan.f (k : Nat) (l0 : List Int) (l1 : List Int) : Option ((List (S62)) × Int) := if (l0.length : Int) = 512 then (if (l1.length : Int) > 248 then (some (([] : List (S62)), 3)) else ((tinderref18_Counts.f l0).bind fun bt19001 => (if bt19001.1 = 0 then (tinderref18_Plan.j0 k l1 ((bt19001.2 + 1) % 256) 256) else (tinderref18_Plan.j0 k l1 ((bt19001.2 + 1) % 256) 0)))) else (some (([] : List (S62)), 1))
theorem tinderref18_Plan.mono_l : ∀ k, (∀ y0 y1 y2, LeO (tinderref18_Plan.j0 k y0 y1 y2) (tinderref18_Plan.j0 (k + 1) y0 y1 y2)) ∧ (∀ y0 y1 y2 y3, LeO (tinderref18_Plan.l0 k y0 y1 y2 y3) (tinderref18_Plan.l0 (k + 1) y0 y1 y2 y3))
  | 0 => ⟨fun _ _ _ r h => by simp [tinderref18_Plan.j0] at h, fun _ _ _ _ r h => by simp [tinderref18_Plan.l0] at h⟩
  | k + 1 => by
    obtain ⟨ih0, ih1⟩ := tinderref18_Plan.mono_l k
    refine ⟨?_, ?_⟩
    · intro y0 y1 y2
      unfold tinderref18_Plan.j0
      repeat' first
      | (with_reducible exact ih0 _ _ _)
      | (with_reducible exact ih1 _ _ _ _)
      | (with_reducible exact tinderref05_EncodeInt.mono _ _)
      | (with_reducible exact tinderref18_Sum.mono _ _ _)
      | (with_reducible exact LeO.refl _)
      | (with_reducible exact LeO.none _)
      | (with_reducible refine LeO.ite ?_ ?_)
      | (with_reducible refine LeO.bind ?_ (fun _ => ?_))
      | exact ih0 _ _ _
      | exact ih1 _ _ _ _
      | exact tinderref05_EncodeInt.mono _ _
      | exact tinderref18_Sum.mono _ _ _
      | exact LeO.none _
      | refine LeO.ite ?_ ?_
      | refine LeO.bind ?_ (fun _ => ?_)
    · intro y0 y1 y2 y3
      unfold tinderref18_Plan.l0
      repeat' first
      | (with_reducible exact ih0 _ _ _)
      | (with_reducible exact ih1 _ _ _ _)
      | (with_reducible exact tinderref05_EncodeInt.mono _ _)
      | (with_reducible exact tinderref18_Sum.mono _ _ _)
      | (with_reducible exact LeO.refl _)
      | (with_reducible exact LeO.none _)
      | (with_reducible refine LeO.ite ?_ ?_)
      | (with_reducible refine LeO.bind ?_ (fun _ => ?_))
      | exact ih0 _ _ _
      | exact ih1 _ _ _ _
      | exact tinderref05_EncodeInt.mono _ _
      | exact tinderref18_Sum.mono _ _ _
      | exact LeO.none _
      | refine LeO.ite ?_ ?_
      | refine LeO.bind ?_ (fun _ => ?_)
theorem tinderref18_Plan.mono : ∀ a0 a1 k, LeO (tinderref18_Plan.f k a0 a1) (tinderref18_Plan.f (k + 1) a0 a1) := by
  intro a0 a1 k
  obtain ⟨ih0, ih1⟩ := tinderref18_Plan.mono_l k
  unfold tinderref18_Plan.f
  repeat' first
      | (with_reducible exact ih0 _ _ _)
      | (with_reducible exact ih1 _ _ _ _)
      | (with_reducible exact tinderref05_EncodeInt.mono _ _)
      | (with_reducible exact tinderref18_Sum.mono _ _ _)
      | (with_reducible exact LeO.refl _)
      | (with_reducible exact LeO.none _)
      | (with_reducible refine LeO.ite ?_ ?_)
      | (with_reducible refine LeO.bind ?_ (fun _ => ?_))
      | exact ih0 _ _ _
      | exact ih1 _ _ _ _
      | exact tinderref05_EncodeInt.mono _ _
      | exact tinderref18_Sum.mono _ _ _
      | exact LeO.none _
      | refine LeO.ite ?_ ?_
      | refine LeO.bind ?_ (fun _ => ?_)
set_option maxHeartbeats 8000000 in
set_option maxRecDepth 100000 in
theorem tinderref18_Plan.calls (k : Nat) (A0 : Option Addr) (c0 : Nat) (l0 : List Int) (A1 : Option Addr) (c1 : Nat) (l1 : List Int) (r1 : List (S62)) (r2 : Int) (w : World) (hr0 : Kd.C (Kd.int .u8) w A0 l0.length l0) (hc0 : l0.length ≤ c0) (hr1 : Kd.C (Kd.int .u8) w A1 l1.length l1) (hc1 : l1.length ≤ c1) (h : tinderref18_Plan.f k l0 l1 = some (r1, r2)) :
    Calls Try.prog 18 #[.slice A0 l0.length c0, .slice A1 l1.length c1] w fun e w' => ∃ v0_ : Value, e = .returned (.tuple #[v0_, .int .i64 r2]) ∧ Kd.R k62 62 w' w.heap.size (fun _ => True) v0_ r1 ∧ Below w.heap.size w w' := by
  have hu62 := Try.underlying62
  have HR0 := Aside0.mk hr0
  have HC0 := Aside0.mk hc0
  clear hr0 hc0
  have HR1 := Aside0.mk hr1
  have HC1 := Aside0.mk hc1
  clear hr1 hc1
  have HB := Aside0.mk (Below.refl w.heap.size w)
  have H : (if (l0.length : Int) = 512 then (if (l1.length : Int) > 248 then (some (([] : List (S62)), 3)) else ((tinderref18_Counts.f l0).bind fun bt19001 => (if bt19001.1 = 0 then (tinderref18_Plan.j0 k l1 ((bt19001.2 + 1) % 256) 256) else (tinderref18_Plan.j0 k l1 ((bt19001.2 + 1) % 256) 0)))) else (some (([] : List (S62)), 1))) = some (r1, r2) := h
  clear h
  by_cases c3 : (l0.length : Int) = 512
  · rw [if_pos c3] at H
    have c3b0 : ((l0.length : Int) == 512) = true := beq_iff_eq.mpr c3
    have c3b1 : ((l0.length : Int) != 512) = false := bne_eq_false_iff_eq.mpr c3
    clear c3
    by_cases c4 : (l1.length : Int) > 248
    · rw [if_pos c4] at H
      have c4b0 : decide (248 < (l1.length : Int)) = true := decide_eq_true c4
      have c4b1 : decide (248 < l1.length) = true := decide_eq_true (by omega)
      clear c4
      simp only [Option.some.injEq, Prod.mk.injEq] at H
      obtain ⟨rfl, rfl⟩ := H
      go_enter Try.func18, Try.ntmps18
      go_wp2
      go_ret2
      exact ⟨_, by first | rfl | (simp [errW_none, errW_some] <;> rfl) | (simp [*, errW_none, errW_some] <;> rfl), by first | exact Kd.R_nil _ _ _ _ _ | exact Kd.N_nil _ _ _ _ _ | exact Kd.V_nil _ _ _ _ _ | exact Kd.Q_nil _ _ _ _ _ | exact Kd.S_nil _ _ _ _ _, by repeat (first | (with_reducible first | exact HB.out | apply below_alloc | apply pw_below_drewN | apply below_drew1) | exact HB.out)⟩
    · rw [if_neg c4] at H
      have c4b0 : decide (248 < (l1.length : Int)) = false := decide_eq_false c4
      have c4b1 : decide (248 < l1.length) = false := decide_eq_false (by omega)
      clear c4
      replace H := Option.bind_eq_some_iff.mp H
      obtain ⟨⟨t19001, t19002⟩, A50, H⟩ := H
      replace H : (if t19001 = 0 then (tinderref18_Plan.j0 k l1 ((t19002 + 1) % 256) 256) else (tinderref18_Plan.j0 k l1 ((t19002 + 1) % 256) 0)) = some (r1, r2) := H
      have A5 := Aside0.mk A50
      clear A50
      have HC6 := Aside0.mk H
      clear H
      go_enter Try.func18, Try.ntmps18
      go_upto_if 26 with (first | ((with_reducible refine gate_callee (f := 27) rfl ?_); refine goesL_ (some 20) rfl rfl Try.func27 (by kernel_rfl) rfl #[.slice A0 l0.length c0] rfl (by (try simp only [List.map_toArray, List.map_cons, List.map_nil]); first | done | rfl | (simp only [List.length_drop, List.length_take]; rfl)) ?_; (with_reducible refine (tinderref18_Counts.calls _ _ l0 t19001 t19002 _ ?side1 ?side2 A5.out).mono ?_); (case side1 => repeat (first | exact HR0.out | (with_reducible refine Kd.C_alloc ?_ _) | (with_reducible refine Kd.C_drewN ?_ _) | (with_reducible refine Kd.C_drew ?_))); (case side2 => exact HC0.out); rintro e w7 ⟨rfl, hb⟩; refine ⟨_, rfl, ?_⟩; have n0_ := Aside0.mk (below_step (by repeat (first | (with_reducible first | exact HB.out | apply below_alloc | apply pw_below_drewN | apply below_drew1) | exact HB.out)) hb); clear HB; have HB := n0_; clear n0_; (try clear hb); (try clear hb2); (try clear hk); (try clear hi)))
      (try simp only [Act.put, List.setIfInBounds_toArray, List.set_cons_zero, List.set_cons_succ])
      go_cut [8] (fun v8 wc => ∃ (kq : Nat) (x8_5 : Int), v8 = .int .i64 x8_5 ∧ Aside0 (tinderref18_Plan.j0 kq l1 ((t19002 + 1) % 256) x8_5 = some (r1, r2)) ∧ Aside0 (kq ≤ k) ∧ Aside0 (Below w.heap.size w wc))
      case first =>
        have H := HC6.out
        clear HC6
        by_cases c8 : t19001 = 0
        · rw [if_pos c8] at H
          have c8b0 : (t19001 == 0) = true := beq_iff_eq.mpr c8
          have c8b1 : (t19001 != 0) = false := bne_eq_false_iff_eq.mpr c8
          clear c8
          (first | rw [c8b0] | (simp only [i64_w, i32_w]; rw [c8b0]) | skip)
          have H' := Aside0.mk H
          clear H
          go_wp2
          go_meet
          case rel => exact ⟨_, (256), (by first | rfl | (simp; done) | (simp [*]; done)), H', ⟨by first | omega | exact Nat.le_refl _⟩, ⟨by repeat (first | (with_reducible first | exact HB.out | apply below_alloc | apply pw_below_drewN | apply below_drew1) | exact HB.out)⟩⟩
        · rw [if_neg c8] at H
          have c8b0 : (t19001 == 0) = false := beq_eq_false_iff_ne.mpr c8
          have c8b1 : (t19001 != 0) = true := bne_iff_ne.mpr c8
          (first | rw [c8b0] | (simp only [i64_w, i32_w]; rw [c8b0]) | skip)
          have H' := Aside0.mk H
          clear H
          go_wp2
          go_meet
          case rel => exact ⟨_, (0), (by first | rfl | (simp; done) | (simp [*]; done)), H', ⟨by first | omega | exact Nat.le_refl _⟩, ⟨by repeat (first | (with_reducible first | exact HB.out | apply below_alloc | apply pw_below_drewN | apply below_drew1) | exact HB.out)⟩⟩
      case rest =>
        clear HC6
        try clear c1
        try clear c2
        try clear p2
        try clear c3
        try clear c3b0
        try clear c3b1
        try clear c4
        try clear c4b0
        try clear c4b1
        try clear c8
        try clear c8b0
        try clear c8b1
        obtain ⟨kq, x8_5, rfl, HA, HJ5, HB⟩ := hcut
        cases kq with
        | zero => exact absurd HA.out (by simp [tinderref18_Plan.j0])
        | succ kj5 =>
          have H := HA.out
          clear HA
          simp only [tinderref18_Plan.j0] at H
          obtain ⟨y19003, hy19003⟩ : ∃ y_ : List Int, y_ = (([((t19002 + 1) % 256), 0, ((l1.length : Int)) % 256] : List Int)) := ⟨_, rfl⟩
          replace H : ((tinderref18_Sum.f kj5 ((t19002 + 1) % 256) l1).bind fun t19006 => ((tinderref05_EncodeInt.f kj5 t19006).bind fun t19007 => (if y19003.length + t19007.length < 140737488355328 then ((some (y19003 ++ t19007 : List Int)).bind fun y19010 => (if y19010.length + l1.length < 140737488355328 then (tinderref18_Plan.l0 kj5 x8_5 (y19010 ++ l1) (([(⟨x8_5, 0⟩ : S62)] : List (S62))) 0) else (none))) else (none)))) = some (r1, r2) := by first | (rw [hy19003]; with_reducible exact H) | (have H2_ := (Option.bind_some _ _).symm.trans H; rw [hy19003]; with_reducible exact H2_) | (have H2_ := (Option.bind_some _ _).symm.trans H; with_reducible exact H2_) | with_reducible exact H | (rw [hy19003]; exact H) | exact H
          have Ny19003 := Aside0.mk hy19003
          clear hy19003
          replace H := Option.bind_eq_some_iff.mp H
          obtain ⟨t19006, A90, H⟩ := H
          replace H : ((tinderref05_EncodeInt.f kj5 t19006).bind fun t19007 => (if y19003.length + t19007.length < 140737488355328 then ((some (y19003 ++ t19007 : List Int)).bind fun y19010 => (if y19010.length + l1.length < 140737488355328 then (tinderref18_Plan.l0 kj5 x8_5 (y19010 ++ l1) (([(⟨x8_5, 0⟩ : S62)] : List (S62))) 0) else (none))) else (none))) = some (r1, r2) := H
          have A9 := Aside0.mk A90
          clear A90
          replace H := Option.bind_eq_some_iff.mp H
          obtain ⟨t19007, A100, H⟩ := H
          replace H : (if y19003.length + t19007.length < 140737488355328 then ((some (y19003 ++ t19007 : List Int)).bind fun y19010 => (if y19010.length + l1.length < 140737488355328 then (tinderref18_Plan.l0 kj5 x8_5 (y19010 ++ l1) (([(⟨x8_5, 0⟩ : S62)] : List (S62))) 0) else (none))) else (none)) = some (r1, r2) := H
          have A10 := Aside0.mk A100
          clear A100
          by_cases c11 : y19003.length + t19007.length < 140737488355328
          · rw [if_pos c11] at H
            have LMc11 := Aside0.mk c11
            clear c11
            obtain ⟨y19010, hy19010⟩ : ∃ y_ : List Int, y_ = (y19003 ++ t19007) := ⟨_, rfl⟩
            replace H : (if y19010.length + l1.length < 140737488355328 then (tinderref18_Plan.l0 kj5 x8_5 (y19010 ++ l1) (([(⟨x8_5, 0⟩ : S62)] : List (S62))) 0) else (none)) = some (r1, r2) := by first | (rw [hy19010]; with_reducible exact H) | (have H2_ := (Option.bind_some _ _).symm.trans H; rw [hy19010]; with_reducible exact H2_) | (have H2_ := (Option.bind_some _ _).symm.trans H; with_reducible exact H2_) | with_reducible exact H | (rw [hy19010]; exact H) | exact H
            have Ny19010 := Aside0.mk hy19010
            clear hy19010
            by_cases c12 : y19010.length + l1.length < 140737488355328
            · rw [if_pos c12] at H
              have LMc12 := Aside0.mk c12
              clear c12
              obtain ⟨y19013, hy19013⟩ : ∃ y_ : List Int, y_ = (y19010 ++ l1) := ⟨_, rfl⟩
              replace H : (tinderref18_Plan.l0 kj5 x8_5 y19013 (([(⟨x8_5, 0⟩ : S62)] : List (S62))) 0) = some (r1, r2) := by first | (rw [hy19013]; with_reducible exact H) | (have H2_ := (Option.bind_some _ _).symm.trans H; rw [hy19013]; with_reducible exact H2_) | (have H2_ := (Option.bind_some _ _).symm.trans H; with_reducible exact H2_) | with_reducible exact H | (rw [hy19013]; exact H) | exact H
              have Ny19013 := Aside0.mk hy19013
              clear hy19013
              obtain ⟨y19016, hy19016⟩ : ∃ y_ : List (S62), y_ = (([(⟨x8_5, 0⟩ : S62)] : List (S62))) := ⟨_, rfl⟩
              replace H : (tinderref18_Plan.l0 kj5 x8_5 y19013 y19016 0) = some (r1, r2) := by first | (rw [hy19016]; with_reducible exact H) | (have H2_ := (Option.bind_some _ _).symm.trans H; rw [hy19016]; with_reducible exact H2_) | (have H2_ := (Option.bind_some _ _).symm.trans H; with_reducible exact H2_) | with_reducible exact H | (rw [hy19016]; exact H) | exact H
              have Ny19016 := Aside0.mk hy19016
              clear hy19016
              have H' := Aside0.mk H
              clear H
              go_wp2_with (first | ((with_reducible refine gate_dst (N := 31) rfl ?_); refine Kd.R_lit (Kd.int .u8) _ 5 ?hg (N := 31) ?hd (xs := ([((t19002 + 1) % 256), 0, ((l1.length : Int)) % 256] : List Int)) (inner := [.int .u8 ((t19002 + 1) % 256), .int .u8 0, .int .u8 (((l1.length : Int)) % 256)]) (ok := fun _ => True) (okp := fun _ => True) ?hr ?hp (fun _ hk => hk) trivial (Below.refl _ _) (Nat.le_refl _) (by simp) ?_; (case hd => rfl); (case hg => rfl); (case hr => first | (go_simp; done) | (go_simp; rfl)); (case hp => exact (Reps.one (show Kd.M (Kd.int .u8) _ _ _ ((t19002 + 1) % 256) [.int .u8 ((t19002 + 1) % 256)] from rfl) (Reps.one (show Kd.M (Kd.int .u8) _ _ _ 0 [.int .u8 0] from rfl) (Reps.one (show Kd.M (Kd.int .u8) _ _ _ (((l1.length : Int)) % 256) [.int .u8 (((l1.length : Int)) % 256)] from rfl) (Reps.none _ _))))); intro v19004 w13 ho14 hb hg_ hnew_; clear hg_ hnew_; (first | rw [← Ny19003.out] at ho14 | (simp only [Int.reduceToNat] at ho14; rw [← Ny19003.out] at ho14)); have n0_ := Aside0.mk (Kd.R_lower ho14 (below_size (by repeat (first | (with_reducible first | exact HB.out | apply below_alloc | apply pw_below_drewN | apply below_drew1) | exact HB.out)))); have n1_ := Aside0.mk (below_step (by repeat (first | (with_reducible first | exact HB.out | apply below_alloc | apply pw_below_drewN | apply below_drew1) | exact HB.out)) hb); clear HB; have HO19005 := n0_; have HB := n1_; clear n0_ n1_; clear hb ho14) | ((with_reducible refine gate_callee (f := 12) rfl ?_); refine goesL_ (some 35) rfl rfl Try.func12 (by kernel_rfl) rfl #[.int .u8 ((t19002 + 1) % 256), .slice A1 l1.length c1] rfl (by (try simp only [List.map_toArray, List.map_cons, List.map_nil]); first | done | rfl | (simp only [List.length_drop, List.length_take]; rfl)) ?_; (with_reducible refine (tinderref18_Sum.calls kj5 ((t19002 + 1) % 256) _ _ l1 t19006 _ ?side1 ?side2 A9.out).mono ?_); (case side1 => repeat (first | exact (Kd.C_below HR1.out HB.out) | (with_reducible refine Kd.C_alloc ?_ _) | (with_reducible refine Kd.C_drewN ?_ _) | (with_reducible refine Kd.C_drew ?_))); (case side2 => exact HC1.out); rintro e w15 ⟨rfl, hb⟩; refine ⟨_, rfl, ?_⟩; have n0_ := Aside0.mk (Kd.R_below (by (with_reducible repeat (first | apply Kd.R_alloc | apply Kd.R_drewN | apply Kd.R_drew)); exact HO19005.out) hb); have n1_ := Aside0.mk (below_step (by repeat (first | (with_reducible first | exact HB.out | apply below_alloc | apply pw_below_drewN | apply below_drew1) | exact HB.out)) hb); clear HO19005; clear HB; have HO19005 := n0_; have HB := n1_; clear n0_ n1_; (try clear hb); (try clear hb2); (try clear hk); (try clear hi)) | ((with_reducible refine gate_callee (f := 31) rfl ?_); refine goesL_ (some 36) rfl rfl Try.func31 (by kernel_rfl) rfl #[.int .u32 t19006] rfl (by (try simp only [List.map_toArray, List.map_cons, List.map_nil]); first | done | rfl | (simp only [List.length_drop, List.length_take]; rfl)) ?_; (with_reducible refine (tinderref05_EncodeInt.calls kj5 t19006 t19007 _ A10.out).mono ?_); rintro e w16 ⟨v19008, rfl, ho0, hb⟩; refine ⟨_, rfl, ?_⟩; have n0_ := Aside0.mk (Kd.R_elder' (by (with_reducible repeat (first | apply Kd.R_alloc | apply Kd.R_drewN | apply Kd.R_drew)); exact HO19005.out) (Kd.R_base ho0) hb); have n1_ := Aside0.mk (Kd.R_lower (Kd.R_new' ho0 (Kd.R_lt (by (with_reducible repeat (first | apply Kd.R_alloc | apply Kd.R_drewN | apply Kd.R_drew)); exact HO19005.out))) (below_size (by repeat (first | (with_reducible first | exact HB.out | apply below_alloc | apply pw_below_drewN | apply below_drew1) | exact HB.out)))); have n2_ := Aside0.mk (below_step (by repeat (first | (with_reducible first | exact HB.out | apply below_alloc | apply pw_below_drewN | apply below_drew1) | exact HB.out)) hb); clear HO19005; clear HB; have HO19005 := n0_; have HO19009 := n1_; have HB := n2_; clear n0_ n1_ n2_; (try clear hb); (try clear hb2); (try clear hk); (try clear hi); (try clear ho0); obtain ⟨Ao18, co18, eo18⟩ := Kd.R_slice HO19009.out; subst eo18) | ((with_reducible refine gate_builtin (b := .append) (xs := #[.tmp 32, .tmp 36]) rfl ?_); at_builtin; refine Kd.R_append_rows (Kd.int .u8) (w0 := w) w.heap.size rfl (.tmp 32) (.tmp 36) 22 5 (.int .u8 0) 1 rfl Try.underlying22 info5 rfl (by decide) (by omega) v19004 y19003 t19007 _ _ _ (fun k_ => some k_ ≠ (.slice Ao18 t19007.length co18 : Value).ownBlock) (fun _ => False) rfl rfl ?aO ?aR (fun _ _ h => h) (fun _ h => h.elim) ?aF ?aB ?aS ?aL ?_; (case aR => repeat (first | exact (Kd.R_reads' HO19009.out).2.2 | (with_reducible refine Kd.C_alloc ?_ _) | (with_reducible refine Kd.C_drewN ?_ _) | (with_reducible refine Kd.C_drew ?_))); (case aB => exact (by repeat (first | (with_reducible first | exact HB.out | apply below_alloc | apply pw_below_drewN | apply below_drew1) | exact HB.out))); (case aF => exact (fun k_ hk => Kd.fresh' (Kd.R_lt (by (with_reducible repeat (first | apply Kd.R_alloc | apply Kd.R_drewN | apply Kd.R_drew)); exact HO19009.out)) k_ hk)); (case aO => exact (by (with_reducible repeat (first | apply Kd.R_alloc | apply Kd.R_drewN | apply Kd.R_drew)); exact Kd.R_mono HO19005.out (fun _ hk => hk.2))); (case aS => exact (below_size (by repeat (first | (with_reducible first | exact HB.out | apply below_alloc | apply pw_below_drewN | apply below_drew1) | exact HB.out)))); (case aL => have := LMc11.out; omega); intro v19011 w17 ho hb hg hat; rw [← Ny19010.out] at ho; have n0_ := Aside0.mk (Kd.R_after (ok := (fun _ => True)) (by (with_reducible repeat (first | apply Kd.R_alloc | apply Kd.R_drewN | apply Kd.R_drew)); exact HO19009.out) hg hat); have n1_ := Aside0.mk (hb); have n2_ := Aside0.mk (ho); clear HO19009; clear HB; clear HO19005; have HO19009 := n0_; have HB := n1_; have HO19012 := n2_; clear n0_ n1_ n2_; clear ho hb hg hat) | ((with_reducible refine gate_builtin (b := .append) (xs := #[.tmp 38, .tmp 39]) rfl ?_); at_builtin; refine Kd.R_append_rows (Kd.int .u8) (w0 := w) w.heap.size rfl (.tmp 38) (.tmp 39) 22 5 (.int .u8 0) 1 rfl Try.underlying22 info5 rfl (by decide) (by omega) v19011 y19010 l1 _ _ _ (fun k_ => some k_ ≠ (.slice Ao18 t19007.length co18 : Value).ownBlock) (fun _ => False) rfl rfl ?aO ?aR (fun _ _ h => h) (fun _ h => h.elim) ?aF ?aB ?aS ?aL ?_; (case aR => repeat (first | exact (Kd.C_below HR1.out HB.out) | (with_reducible refine Kd.C_alloc ?_ _) | (with_reducible refine Kd.C_drewN ?_ _) | (with_reducible refine Kd.C_drew ?_))); (case aB => exact (by repeat (first | (with_reducible first | exact HB.out | apply below_alloc | apply pw_below_drewN | apply below_drew1) | exact HB.out))); (case aF => exact (fun k_ hk => Kd.fresh' (Kd.R_lt (by (with_reducible repeat (first | apply Kd.R_alloc | apply Kd.R_drewN | apply Kd.R_drew)); exact HO19009.out)) k_ hk)); (case aO => exact (by (with_reducible repeat (first | apply Kd.R_alloc | apply Kd.R_drewN | apply Kd.R_drew)); exact HO19012.out)); (case aS => exact (below_size (by repeat (first | (with_reducible first | exact HB.out | apply below_alloc | apply pw_below_drewN | apply below_drew1) | exact HB.out)))); (case aL => have := LMc12.out; omega); intro v19014 w19 ho hb hg hat; rw [← Ny19013.out] at ho; have n0_ := Aside0.mk (Kd.R_after (ok := (fun _ => True)) (by (with_reducible repeat (first | apply Kd.R_alloc | apply Kd.R_drewN | apply Kd.R_drew)); exact HO19009.out) hg hat); have n1_ := Aside0.mk (hb); have n2_ := Aside0.mk (ho); clear HO19009; clear HB; clear HO19012; have HO19009 := n0_; have HB := n1_; have HO19015 := n2_; clear n0_ n1_ n2_; clear ho hb hg hat) | ((with_reducible refine gate_dst (N := 43) rfl ?_); refine Kd.R_lit k62 _ 62 ?hg (N := 43) ?hd (xs := ([(⟨x8_5, 0⟩ : S62)] : List (S62))) (inner := [.int .i64 x8_5, .int .u8 0]) (ok := fun _ => True) (okp := fun _ => True) ?hr ?hp (fun _ hk => hk) trivial (Below.refl _ _) (Nat.le_refl _) (by simp) ?_; (case hd => rfl); (case hg => rfl); (case hr => first | (go_simp; done) | (go_simp; rfl)); (case hp => exact (Reps.c2 (show Kd.M k62 _ _ _ (⟨x8_5, 0⟩ : S62) [.int .i64 x8_5, .int .u8 0] from (k62_mkM _ _ _ (⟨x8_5, 0⟩ : S62) )) (Reps.none _ _))); intro v19017 w20 ho21 hb hg_ hnew_; clear hg_ hnew_; (first | rw [← Ny19016.out] at ho21 | (simp only [Int.reduceToNat] at ho21; rw [← Ny19016.out] at ho21)); have n0_ := Aside0.mk (Kd.R_below (by (with_reducible repeat (first | apply Kd.R_alloc | apply Kd.R_drewN | apply Kd.R_drew)); exact HO19009.out) hb); have n1_ := Aside0.mk (Kd.R_below (by (with_reducible repeat (first | apply Kd.R_alloc | apply Kd.R_drewN | apply Kd.R_drew)); exact HO19015.out) hb); have n2_ := Aside0.mk (Kd.R_lower ho21 (below_size (by repeat (first | (with_reducible first | exact HB.out | apply below_alloc | apply pw_below_drewN | apply below_drew1) | exact HB.out)))); have n3_ := Aside0.mk (below_step (by repeat (first | (with_reducible first | exact HB.out | apply below_alloc | apply pw_below_drewN | apply below_drew1) | exact HB.out)) hb); clear HO19009; clear HO19015; clear HB; have HO19009 := n0_; have HO19015 := n1_; have HO19018 := n2_; have HB := n3_; clear n0_ n1_ n2_ n3_; clear hb ho21))
              go_loopg [10, 11] kj5 (fun kq v10 v11 w' => ∃ (x10_2 : List (S62)) (x11_2 : Int), v11 = .int .i64 x11_2 ∧ Aside0 (tinderref18_Plan.l0 kq x8_5 y19013 x10_2 x11_2 = some (r1, r2)) ∧ Aside0 (kq ≤ kj5) ∧ Aside0 (Kd.R (Kd.int .u8) 5 w' w.heap.size (fun _ => True) v19014 y19013) ∧ Aside0 (Kd.R k62 62 w' w.heap.size (fun _ => True) v10 x10_2) ∧ Aside0 (Below w.heap.size w w'))
              case atStart => exact ⟨(y19016), (0), (by first | rfl | (simp; done) | (simp [*]; done)), H', ⟨Nat.le_refl _⟩, ⟨by (with_reducible repeat (first | apply Kd.R_alloc | apply Kd.R_drewN | apply Kd.R_drew)); exact Kd.R_mono HO19015.out (fun _ hk => trivial)⟩, ⟨by (with_reducible repeat (first | apply Kd.R_alloc | apply Kd.R_drewN | apply Kd.R_drew)); exact HO19018.out⟩, ⟨by repeat (first | (with_reducible first | exact HB.out | apply below_alloc | apply pw_below_drewN | apply below_drew1) | exact HB.out)⟩⟩
              case round =>
                clear H'
                try clear c1
                try clear c2
                try clear p2
                try clear c3
                try clear c3b0
                try clear c3b1
                try clear c4
                try clear c4b0
                try clear c4b1
                try clear c8
                try clear c8b0
                try clear c8b1
                try clear c11
                try clear c12
                try clear c18
                try clear p2
                obtain ⟨x10_2, x11_2, rfl, HA, HK2, HO_9, HO_10, HB⟩ := hrel
                cases gk with
                | zero => exact absurd HA.out (by simp [tinderref18_Plan.l0])
                | succ k2 =>
                  have H := HA.out
                  clear HA
                  simp only [tinderref18_Plan.l0] at H
                  by_cases c22 : x11_2 < (y19013.length : Int)
                  · rw [if_pos c22] at H
                    have c22b0 : decide (x11_2 < (y19013.length : Int)) = true := decide_eq_true c22
                    clear c22
                    by_cases c23 : 0 ≤ x11_2
                    · rw [if_pos c23] at H
                      have c23b0 : decide (0 ≤ x11_2) = true := decide_eq_true c23
                      clear c23
                      by_cases c24 : x10_2.length < 8796093022208
                      · rw [if_pos c24] at H
                        have LMc24 := Aside0.mk c24
                        clear c24
                        obtain ⟨y19020, hy19020⟩ : ∃ y_ : List (S62), y_ = (x10_2 ++ [(⟨wrap64 ((wrap64 (x8_5 + 1)) + x11_2), rd y19013 x11_2⟩ : S62)]) := ⟨_, rfl⟩
                        replace H : (tinderref18_Plan.l0 k2 x8_5 y19013 y19020 (wrap64 (x11_2 + 1))) = some (r1, r2) := by first | (rw [hy19020]; with_reducible exact H) | (have H2_ := (Option.bind_some _ _).symm.trans H; rw [hy19020]; with_reducible exact H2_) | (have H2_ := (Option.bind_some _ _).symm.trans H; with_reducible exact H2_) | with_reducible exact H | (rw [hy19020]; exact H) | exact H
                        have Ny19020 := Aside0.mk hy19020
                        clear hy19020
                        have H' := Aside0.mk H
                        clear H
                        obtain ⟨Ao25, co25, eo25⟩ := Kd.R_slice HO_9.out
                        subst eo25
                        have p19019 : 0 ≤ (x11_2 : Int) := of_decide_eq_true (by first | (with_reducible assumption) | assumption)
                        have q19019 : x11_2 < (y19013.length : Int) := of_decide_eq_true (by first | (with_reducible assumption) | assumption)
                        obtain ⟨ad19019, e19019, hx19019_0⟩ := Kd.at_int (Kd.R_reads' HO_9.out).2.2 x11_2 p19019 q19019
                        cases e19019
                        replace p19019 := eq_true p19019
                        replace q19019 := eq_true q19019
                        go_wp2_with (first | ((with_reducible refine gate_builtin (b := .append) (xs := #[.tmp 50, .tmp 60]) rfl ?_); at_builtin; refine Kd.R_append k62 (w0 := w) w.heap.size rfl (.tmp 50) (.tmp 60) 32 62 (.agg #[(.int .i64 0), (.int .u8 0)]) 16 rfl Try.underlying32 info62 rfl (by decide) (by omega) u10 x10_2 (⟨wrap64 ((wrap64 (x8_5 + 1)) + x11_2), rd y19013 x11_2⟩ : S62) [.int .i64 (wrap64 ((wrap64 (x8_5 + 1)) + x11_2)), .int .u8 (rd y19013 x11_2)] (fun _ => True) (fun _ => False) rfl rfl ?aP (fun _ hk => hk.elim) ?aF ?aO ?aB ?aS ?aL ?_; (case aP => exact k62_mkM _ _ _ (⟨wrap64 ((wrap64 (x8_5 + 1)) + x11_2), rd y19013 x11_2⟩ : S62)); (case aB => exact (by repeat (first | (with_reducible first | exact HB.out | apply below_alloc | apply pw_below_drewN | apply below_drew1) | exact HB.out))); (case aF => exact (fun _ _ => trivial)); (case aO => exact (by (with_reducible repeat (first | apply Kd.R_alloc | apply Kd.R_drewN | apply Kd.R_drew)); exact HO_10.out)); (case aS => exact (below_size (by repeat (first | (with_reducible first | exact HB.out | apply below_alloc | apply pw_below_drewN | apply below_drew1) | exact HB.out)))); (case aL => have := LMc24.out; omega); intro v19021 w26 ho hb hg hat; rw [← Ny19020.out] at ho; have n0_ := Aside0.mk (Kd.R_over' (by (with_reducible repeat (first | apply Kd.R_alloc | apply Kd.R_drewN | apply Kd.R_drew)); exact HO_9.out) (Kd.R_typed (by (with_reducible repeat (first | apply Kd.R_alloc | apply Kd.R_drewN | apply Kd.R_drew)); exact HO_10.out)) (by decide) hg); have n1_ := Aside0.mk (hb); have n2_ := Aside0.mk (ho); clear HO_9; clear HB; clear HO_10; have HO_9 := n0_; have HB := n1_; have HO19022 := n2_; clear n0_ n1_ n2_; clear ho hb hg hat))
                        go_roundg k2
                        case measure => have := HJ5.out; have := HK2.out; omega
                        case rel => exact ⟨(y19020), (wrap64 (x11_2 + 1)), (by first | rfl | (simp; done) | (simp [*]; done)), H', ⟨by have := HJ5.out; have := HK2.out; omega⟩, ⟨by (with_reducible repeat (first | apply Kd.R_alloc | apply Kd.R_drewN | apply Kd.R_drew)); exact HO_9.out⟩, ⟨by (with_reducible repeat (first | apply Kd.R_alloc | apply Kd.R_drewN | apply Kd.R_drew)); exact HO19022.out⟩, ⟨by repeat (first | (with_reducible first | exact HB.out | apply below_alloc | apply pw_below_drewN | apply below_drew1) | exact HB.out)⟩⟩
                      · rw [if_neg c24] at H
                        exact absurd H (by simp)
                    · rw [if_neg c23] at H
                      exact absurd H (by simp)
                  · rw [if_neg c22] at H
                    have c22b0 : decide (x11_2 < (y19013.length : Int)) = false := decide_eq_false c22
                    clear c22
                    by_cases c27 : x10_2.length < 8796093022208
                    · rw [if_pos c27] at H
                      have LMc27 := Aside0.mk c27
                      clear c27
                      obtain ⟨y19023, hy19023⟩ : ∃ y_ : List (S62), y_ = (x10_2 ++ [(⟨x8_5, 165⟩ : S62)]) := ⟨_, rfl⟩
                      replace H : (some (y19023, 0)) = some (r1, r2) := by first | (rw [hy19023]; with_reducible exact H) | (have H2_ := (Option.bind_some _ _).symm.trans H; rw [hy19023]; with_reducible exact H2_) | (have H2_ := (Option.bind_some _ _).symm.trans H; with_reducible exact H2_) | with_reducible exact H | (rw [hy19023]; exact H) | exact H
                      have Ny19023 := Aside0.mk hy19023
                      clear hy19023
                      simp only [Option.some.injEq, Prod.mk.injEq] at H
                      obtain ⟨rfl, rfl⟩ := H
                      obtain ⟨Ao28, co28, eo28⟩ := Kd.R_slice HO_9.out
                      subst eo28
                      go_wp2_with (first | ((with_reducible refine gate_builtin (b := .append) (xs := #[.tmp 62, .tmp 65]) rfl ?_); at_builtin; refine Kd.R_append k62 (w0 := w) w.heap.size rfl (.tmp 62) (.tmp 65) 32 62 (.agg #[(.int .i64 0), (.int .u8 0)]) 16 rfl Try.underlying32 info62 rfl (by decide) (by omega) u10 x10_2 (⟨x8_5, 165⟩ : S62) [.int .i64 x8_5, .int .u8 165] (fun _ => True) (fun _ => False) rfl rfl ?aP (fun _ hk => hk.elim) ?aF ?aO ?aB ?aS ?aL ?_; (case aP => exact k62_mkM _ _ _ (⟨x8_5, 165⟩ : S62)); (case aB => exact (by repeat (first | (with_reducible first | exact HB.out | apply below_alloc | apply pw_below_drewN | apply below_drew1) | exact HB.out))); (case aF => exact (fun _ _ => trivial)); (case aO => exact (by (with_reducible repeat (first | apply Kd.R_alloc | apply Kd.R_drewN | apply Kd.R_drew)); exact HO_10.out)); (case aS => exact (below_size (by repeat (first | (with_reducible first | exact HB.out | apply below_alloc | apply pw_below_drewN | apply below_drew1) | exact HB.out)))); (case aL => have := LMc27.out; omega); intro v19024 w29 ho hb hg hat; rw [← Ny19023.out] at ho; have n0_ := Aside0.mk (Kd.R_over' (by (with_reducible repeat (first | apply Kd.R_alloc | apply Kd.R_drewN | apply Kd.R_drew)); exact HO_9.out) (Kd.R_typed (by (with_reducible repeat (first | apply Kd.R_alloc | apply Kd.R_drewN | apply Kd.R_drew)); exact HO_10.out)) (by decide) hg); have n1_ := Aside0.mk (hb); have n2_ := Aside0.mk (ho); clear HO_9; clear HB; clear HO_10; have HO_9 := n0_; have HB := n1_; have HO19025 := n2_; clear n0_ n1_ n2_; clear ho hb hg hat))
                      go_ret2
                      exact ⟨_, by first | rfl | (simp [errW_none, errW_some] <;> rfl) | (simp [*, errW_none, errW_some] <;> rfl), by (with_reducible repeat (first | apply Kd.R_alloc | apply Kd.R_drewN | apply Kd.R_drew)); exact HO19025.out, by repeat (first | (with_reducible first | exact HB.out | apply below_alloc | apply pw_below_drewN | apply below_drew1) | exact HB.out)⟩
                    · rw [if_neg c27] at H
                      exact absurd H (by simp)
            · rw [if_neg c12] at H
              exact absurd H (by simp)
          · rw [if_neg c11] at H
            exact absurd H (by simp)
  · rw [if_neg c3] at H
    have c3b0 : ((l0.length : Int) == 512) = false := beq_eq_false_iff_ne.mpr c3
    have c3b1 : ((l0.length : Int) != 512) = true := bne_iff_ne.mpr c3
    simp only [Option.some.injEq, Prod.mk.injEq] at H
    obtain ⟨rfl, rfl⟩ := H
    go_enter Try.func18, Try.ntmps18
    go_wp2
    go_ret2
    exact ⟨_, by first | rfl | (simp [errW_none, errW_some] <;> rfl) | (simp [*, errW_none, errW_some] <;> rfl), by first | exact Kd.R_nil _ _ _ _ _ | exact Kd.N_nil _ _ _ _ _ | exact Kd.V_nil _ _ _ _ _ | exact Kd.Q_nil _ _ _ _ _ | exact Kd.S_nil _ _ _ _ _, by repeat (first | (with_reducible first | exact HB.out | apply below_alloc | apply pw_below_drewN | apply below_drew1) | exact HB.out)⟩

end Go.Proofs.Ytlpagilpbdiniaa.Q
