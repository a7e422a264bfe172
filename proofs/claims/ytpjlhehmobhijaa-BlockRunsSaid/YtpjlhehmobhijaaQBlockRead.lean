/- What Go functions of this program answer, as plain Lean functions, and that the calls answer so, wherever the plain function has an answer. Written by a program of this claim's own out of the translation. -/
import Derived.Test.YtpjlhehmobhijaaQ0
import Derived.Test.YtpjlhehmobhijaaQBlockCheck
import Derived.Test.YtpjlhehmobhijaaHClone
namespace Go.Proofs.Ytpjlhehmobhijaa.Q
open Go.RowKit Go.Proofs.YtpjlhehmobhijaaW.PrintWords Go.Proofs.YtpjlhehmobhijaaW.PrintLast Go.Proofs.YtpjlhehmobhijaaW.PrintMore
set_option linter.unusedVariables false
set_option linter.unusedSimpArgs false

attribute [local go_sem] max2_int min2_int max_two min_two max_three min_three max_four min_four
/-! ### block_Read: function 12 -/
def block_Read.f (l0 : List Int) (a1 : Int) : Option (List Int × Int) := (block_check.f l0 a1).bind fun t13001 => (if t13001 = 0 then (if 0 ≤ (wrap64 (a1 * 512)) then (if (wrap64 (a1 * 512)) ≤ (l0.length : Int) then (if 512 ≤ ((l0.drop ((wrap64 (a1 * 512)) : Int).toNat).length : Int) then ((slices_Clone_byte_byte.f ((l0.drop ((wrap64 (a1 * 512)) : Int).toNat).take 512)).bind fun t13004 => (some (t13004, 0))) else (none)) else (none)) else (none)) else (some (([] : List Int), t13001)))
set_option maxHeartbeats 8000000 in
set_option maxRecDepth 100000 in
theorem block_Read.calls (A0 : Option Addr) (c0 : Nat) (l0 : List Int) (a1 : Int) (r1 : List Int) (r2 : Int) (w : World) (hr0 : Kd.C (Kd.int .u8) w A0 l0.length l0) (hc0 : l0.length ≤ c0) (h : block_Read.f l0 a1 = some (r1, r2)) :
    Calls Try.prog 12 #[.slice A0 l0.length c0, .int .i64 a1] w fun e w' => ∃ v0_ : Value, e = .returned (.tuple #[v0_, .int .i64 r2]) ∧ Kd.R (Kd.int .u8) 5 w' w.heap.size (fun _ => True) v0_ r1 ∧ Below w.heap.size w w' := by
  have HR0 := Aside0.mk hr0
  have HC0 := Aside0.mk hc0
  clear hr0 hc0
  have HB := Aside0.mk (Below.refl w.heap.size w)
  have H : ((block_check.f l0 a1).bind fun t13001 => (if t13001 = 0 then (if 0 ≤ (wrap64 (a1 * 512)) then (if (wrap64 (a1 * 512)) ≤ (l0.length : Int) then (if 512 ≤ ((l0.drop ((wrap64 (a1 * 512)) : Int).toNat).length : Int) then ((slices_Clone_byte_byte.f ((l0.drop ((wrap64 (a1 * 512)) : Int).toNat).take 512)).bind fun t13004 => (some (t13004, 0))) else (none)) else (none)) else (none)) else (some (([] : List Int), t13001)))) = some (r1, r2) := h
  clear h
  replace H := Option.bind_eq_some_iff.mp H
  obtain ⟨t13001, A30, H⟩ := H
  replace H : (if t13001 = 0 then (if 0 ≤ (wrap64 (a1 * 512)) then (if (wrap64 (a1 * 512)) ≤ (l0.length : Int) then (if 512 ≤ ((l0.drop ((wrap64 (a1 * 512)) : Int).toNat).length : Int) then ((slices_Clone_byte_byte.f ((l0.drop ((wrap64 (a1 * 512)) : Int).toNat).take 512)).bind fun t13004 => (some (t13004, 0))) else (none)) else (none)) else (none)) else (some (([] : List Int), t13001))) = some (r1, r2) := H
  have A3 := Aside0.mk A30
  clear A30
  by_cases c4 : t13001 = 0
  · rw [if_pos c4] at H
    have c4b0 : (t13001 == 0) = true := beq_iff_eq.mpr c4
    have c4b1 : (t13001 != 0) = false := bne_eq_false_iff_eq.mpr c4
    clear c4
    obtain ⟨ji5, hji5⟩ : ∃ j_ : Int, (wrap64 (a1 * 512)) = j_ := ⟨_, rfl⟩
    replace H : (if 0 ≤ (ji5) then (if (ji5) ≤ (l0.length : Int) then (if 512 ≤ ((l0.drop ((ji5) : Int).toNat).length : Int) then ((slices_Clone_byte_byte.f ((l0.drop ((ji5) : Int).toNat).take 512)).bind fun t13004 => (some (t13004, 0))) else (none)) else (none)) else (none)) = some (r1, r2) := by first | (rw [hji5] at H; exact H) | (simp only [hji5] at H ⊢; exact H)
    (try rw [hji5] at A3)
    have hji5w : (IntKind.i64.wrap (a1 * 512)) = ji5 := (i64_w _).trans hji5
    by_cases c6 : 0 ≤ (ji5)
    · rw [if_pos c6] at H
      have c6b0 := eq_true c6
      have c6b1 : decide (0 ≤ (ji5)) = true := decide_eq_true c6
      clear c6
      by_cases c7 : (ji5) ≤ (l0.length : Int)
      · rw [if_pos c7] at H
        have c7b0 := eq_true c7
        have c7b1 : decide ((ji5) ≤ (l0.length : Int)) = true := decide_eq_true c7
        clear c7
        by_cases c8 : 512 ≤ ((l0.drop ((ji5) : Int).toNat).length : Int)
        · rw [if_pos c8] at H
          have c8b0 := eq_true c8
          have c8b1 : decide (512 ≤ ((l0.drop ((ji5) : Int).toNat).length : Int)) = true := decide_eq_true c8
          clear c8
          replace H := Option.bind_eq_some_iff.mp H
          obtain ⟨t13004, A90, H⟩ := H
          replace H : (some (t13004, 0)) = some (r1, r2) := H
          have A9 := Aside0.mk A90
          clear A90
          simp only [Option.some.injEq, Prod.mk.injEq] at H
          obtain ⟨rfl, rfl⟩ := H
          (try (have hcap_ : 512 ≤ c0 - ji5.toNat := (by have h1 := HC0.out; have h2 := of_eq_true c8b0; have h3 := of_eq_true c7b0; have h4 := of_eq_true c6b0; rw [List.length_drop] at h2; omega)))
          go_enter Try.func12, Try.ntmps12
          go_wp2_with (first | ((with_reducible refine gate_callee (f := 25) rfl ?_); refine goesL_ (some 9) rfl rfl Try.func25 (by kernel_rfl) rfl #[.slice A0 l0.length c0, .int .i64 a1] rfl (by (try simp only [List.map_toArray, List.map_cons, List.map_nil]); first | done | rfl | (simp only [List.length_drop, List.length_take]; rfl)) ?_; (with_reducible refine (block_check.calls _ _ l0 a1 t13001 _ ?side1 ?side2 A3.out).mono ?_); (case side1 => repeat (first | exact HR0.out | (with_reducible refine Kd.C_alloc ?_ _) | (with_reducible refine Kd.C_drewN ?_ _) | (with_reducible refine Kd.C_drew ?_))); (case side2 => exact HC0.out); rintro e w' ⟨rfl, ⟨nd, rfl⟩⟩; refine ⟨_, rfl, ?_⟩; obtain ⟨i010, hi010, _, hsz10, _⟩ := info_parts info5; obtain ⟨A10, hcut10, hA10, hC10⟩ := print_drop_of (P := Try.prog) (Value.int .u8) 0 30 5 .i64 Try.underlying30 hi010 hsz10 A0 c0 l0 (ji5) (of_decide_eq_true (by first | (with_reducible assumption) | assumption)) (of_decide_eq_true (by first | (with_reducible assumption) | assumption)) HC0.out; have HR13002 := Aside0.mk (Kd.C_of_reads (h1 := fun _ => rfl) (hA10 _ (Kd.reads_of_C HR0.out))); have HC13002 := Aside0.mk hC10; clear hA10 hC10 hi010 hsz10; obtain ⟨i011, hi011, _, hsz11, _⟩ := info_parts info5; obtain ⟨hcut11, hA11, hC11⟩ := print_take_of (P := Try.prog) (Value.int .u8) 0 30 5 .i64 Try.underlying30 hi011 hsz11 A10 (c0 - (ji5).toNat) (l0.drop ((ji5) : Int).toNat) 512 (by omega) (of_decide_eq_true (by first | (with_reducible assumption) | assumption)) HC13002.out; have HR13003 := Aside0.mk (Kd.C_of_reads (h1 := fun _ => rfl) (hA11 _ (Kd.reads_of_C HR13002.out))); have HC13003 := Aside0.mk hC11; clear hA11 hC11 hi011 hsz11) | ((with_reducible refine gate_callee (f := 26) rfl ?_); refine goesL_ (some 18) rfl rfl Try.func26 (by kernel_rfl) rfl #[.slice A10 ((l0.drop ((ji5) : Int).toNat).take 512).length (c0 - (ji5).toNat)] rfl (by (try simp only [List.map_toArray, List.map_cons, List.map_nil]); first | done | (rw [show ((l0.drop ((ji5) : Int).toNat).take 512).length = 512 from (by rw [List.length_take]; have h_ : (512 : Int) ≤ ((l0.drop ((ji5) : Int).toNat).length : Int) := of_decide_eq_true (by first | (with_reducible assumption) | assumption); omega)] <;> rfl) | (simp only [hji5]; rfl) | rfl | (simp only [List.length_drop, List.length_take]; rfl)) ?_; (with_reducible refine (slices_Clone_byte_byte.calls _ _ ((l0.drop ((ji5) : Int).toNat).take 512) t13004 _ ?side1 ?side2 A9.out).mono ?_); (case side1 => repeat (first | exact HR13003.out | (with_reducible refine Kd.C_alloc ?_ _) | (with_reducible refine Kd.C_drewN ?_ _) | (with_reducible refine Kd.C_drew ?_))); (case side2 => exact HC13003.out); rintro e w12 ⟨v13005, rfl, ho0, hb⟩; refine ⟨_, rfl, ?_⟩; have n0_ := Aside0.mk (Kd.R_lower ho0 (below_size (by repeat (first | (with_reducible first | exact HB.out | apply below_alloc | apply pw_below_drewN | apply below_drew1) | exact HB.out)))); have n1_ := Aside0.mk (below_step (by repeat (first | (with_reducible first | exact HB.out | apply below_alloc | apply pw_below_drewN | apply below_drew1) | exact HB.out)) hb); clear HB; have HO13006 := n0_; have HB := n1_; clear n0_ n1_; (try clear hb); (try clear hb2); (try clear hk); (try clear hi); (try clear ho0)))
          go_ret2
          exact ⟨_, by first | rfl | (simp [errW_none, errW_some] <;> rfl) | (simp only [← hji5]; first | rfl | (simp [errW_none, errW_some] <;> rfl)) | (simp [*, errW_none, errW_some] <;> rfl), by (with_reducible repeat (first | apply Kd.R_alloc | apply Kd.R_drewN | apply Kd.R_drew)); exact HO13006.out, by repeat (first | (with_reducible first | exact HB.out | apply below_alloc | apply pw_below_drewN | apply below_drew1) | exact HB.out)⟩
        · rw [if_neg c8] at H
          exact absurd H (by simp)
      · rw [if_neg c7] at H
        exact absurd H (by simp)
    · rw [if_neg c6] at H
      exact absurd H (by simp)
  · rw [if_neg c4] at H
    have c4b0 : (t13001 == 0) = false := beq_eq_false_iff_ne.mpr c4
    have c4b1 : (t13001 != 0) = true := bne_iff_ne.mpr c4
    simp only [Option.some.injEq, Prod.mk.injEq] at H
    obtain ⟨rfl, rfl⟩ := H
    (try (have hcap_ : 512 ≤ c0 - ji5.toNat := (by have h1 := HC0.out; have h2 := of_eq_true c8b0; have h3 := of_eq_true c7b0; have h4 := of_eq_true c6b0; rw [List.length_drop] at h2; omega)))
    go_enter Try.func12, Try.ntmps12
    go_wp2_with (first | ((with_reducible refine gate_callee (f := 25) rfl ?_); refine goesL_ (some 9) rfl rfl Try.func25 (by kernel_rfl) rfl #[.slice A0 l0.length c0, .int .i64 a1] rfl (by (try simp only [List.map_toArray, List.map_cons, List.map_nil]); first | done | rfl | (simp only [List.length_drop, List.length_take]; rfl)) ?_; (with_reducible refine (block_check.calls _ _ l0 a1 t13001 _ ?side1 ?side2 A3.out).mono ?_); (case side1 => repeat (first | exact HR0.out | (with_reducible refine Kd.C_alloc ?_ _) | (with_reducible refine Kd.C_drewN ?_ _) | (with_reducible refine Kd.C_drew ?_))); (case side2 => exact HC0.out); rintro e w' ⟨rfl, ⟨nd, rfl⟩⟩; refine ⟨_, rfl, ?_⟩))
    go_ret2
    exact ⟨_, by first | rfl | (simp [errW_none, errW_some] <;> rfl) | (simp [*, errW_none, errW_some] <;> rfl), by first | exact Kd.R_nil _ _ _ _ _ | exact Kd.N_nil _ _ _ _ _ | exact Kd.V_nil _ _ _ _ _ | exact Kd.Q_nil _ _ _ _ _ | exact Kd.S_nil _ _ _ _ _, by repeat (first | (with_reducible first | exact HB.out | apply below_alloc | apply pw_below_drewN | apply below_drew1) | exact HB.out)⟩

end Go.Proofs.Ytpjlhehmobhijaa.Q
