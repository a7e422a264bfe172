/- Contracts of Go functions and plain facts, of several texts, one behind the other; no condition. -/
import Derived.Test.YtefhngadeimklaaDoorMVarsBack1
import Derived.Test.YtefhngadeimklaaDoorMVarsBack4
import Derived.Test.YtefhngadeimklaaDoorMVarsBack3
import Derived.ChangeArms
import Derived.OpenShut
import Derived.SizedLaws
section
namespace Go.Proofs.YtefhngadeimklaaDoor.Q
open Go.RowKit Go.Proofs.YtefhngadeimklaaDoorW.PrintWords Go.Proofs.YtefhngadeimklaaDoorW.PrintLast Go.Proofs.YtefhngadeimklaaDoorW.PrintMore
set_option linter.unusedVariables false
set_option linter.unusedSimpArgs false

attribute [local go_sem] max2_int min2_int max_two min_two max_three min_three max_four min_four
/-! ### tinderlaw19_VarsBack: function 8 -/
def tinderlaw19_VarsBack.j0 : Nat → List Int → Option (Bool)
  | 0, _ => none
  | k + 1, x1 => (vars_Decode.f k x1).bind fun bt9011 => (if bt9011.2 = 0 then ((vars_Encode.f k bt9011.1).bind fun bt9015 => (if (x1.length : Int) > 248 then (some (bt9015.2 == 10)) else (if bt9015.2 = 0 then ((tinderref04_Same.f bt9015.1 x1).bind fun t9019 => (some t9019)) else (some false)))) else (some ((bt9011.1.length : Int) == 0)))
def tinderlaw19_VarsBack.f (k : Nat) (l0 : List (S40)) (l1 : List Int) : Option (Bool) := (tinderlaw19_alive.f).bind fun t9001 => (if t9001 = true then ((vars_Encode.f k l0).bind fun bt9002 => (if bt9002.2 = 0 then ((vars_Decode.f k bt9002.1).bind fun bt9006 => (if bt9006.2 = 0 then ((tinderref19_Same.f k bt9006.1 l0).bind fun t9010 => (if t9010 = true then (tinderlaw19_VarsBack.j0 k l1) else (some false))) else (some false))) else (tinderlaw19_VarsBack.j0 k l1))) else (some false))
theorem tinderlaw19_VarsBack.mono_l : ∀ k, (∀ y0, LeO (tinderlaw19_VarsBack.j0 k y0) (tinderlaw19_VarsBack.j0 (k + 1) y0))
  | 0 => fun _ r h => by simp [tinderlaw19_VarsBack.j0] at h
  | k + 1 => by
    have ih0 := tinderlaw19_VarsBack.mono_l k
    · intro y0
      unfold tinderlaw19_VarsBack.j0
      repeat' first
      | (with_reducible exact ih0 _)
      | (with_reducible exact tinderref19_Same.mono _ _ _)
      | (with_reducible exact vars_Decode.mono _ _)
      | (with_reducible exact vars_Encode.mono _ _)
      | (with_reducible exact LeO.refl _)
      | (with_reducible exact LeO.none _)
      | (with_reducible refine LeO.ite ?_ ?_)
      | (with_reducible refine LeO.bind ?_ (fun _ => ?_))
      | exact ih0 _
      | exact tinderref19_Same.mono _ _ _
      | exact vars_Decode.mono _ _
      | exact vars_Encode.mono _ _
      | exact LeO.none _
      | refine LeO.ite ?_ ?_
      | refine LeO.bind ?_ (fun _ => ?_)
theorem tinderlaw19_VarsBack.mono : ∀ a0 a1 k, LeO (tinderlaw19_VarsBack.f k a0 a1) (tinderlaw19_VarsBack.f (k + 1) a0 a1) := by
  intro a0 a1 k
  have ih0 := tinderlaw19_VarsBack.mono_l k
  unfold tinderlaw19_VarsBack.f
  repeat' first
      | (with_reducible exact ih0 _)
      | (with_reducible exact tinderref19_Same.mono _ _ _)
      | (with_reducible exact vars_Decode.mono _ _)
      | (with_reducible exact vars_Encode.mono _ _)
      | (with_reducible exact LeO.refl _)
      | (with_reducible exact LeO.none _)
      | (with_reducible refine LeO.ite ?_ ?_)
      | (with_reducible refine LeO.bind ?_ (fun _ => ?_))
      | exact ih0 _
      | exact tinderref19_Same.mono _ _ _
      | exact vars_Decode.mono _ _
      | exact vars_Encode.mono _ _
      | exact LeO.none _
      | refine LeO.ite ?_ ?_
      | refine LeO.bind ?_ (fun _ => ?_)
set_option maxHeartbeats 8000000 in
set_option maxRecDepth 100000 in
theorem tinderlaw19_VarsBack.calls (k : Nat) (A0 : Option Addr) (c0 : Nat) (l0 : List (S40)) (A1 : Option Addr) (c1 : Nat) (l1 : List Int) (r : Bool) (w : World) (ht : Tabs w) (hr0 : Kd.C k40 w A0 l0.length l0) (hc0 : l0.length ≤ c0) (hr1 : Kd.C (Kd.int .u8) w A1 l1.length l1) (hc1 : l1.length ≤ c1) (h : tinderlaw19_VarsBack.f k l0 l1 = some r) :
    Calls Tryd.prog 8 #[.slice A0 l0.length c0, .slice A1 l1.length c1] w fun e w' => e = .returned (.bool r) ∧ Below w.heap.size w w' := by
  have HR0 := Aside0.mk hr0
  have HC0 := Aside0.mk hc0
  clear hr0 hc0
  have HR1 := Aside0.mk hr1
  have HC1 := Aside0.mk hc1
  clear hr1 hc1
  have HB := Aside0.mk (Below.refl w.heap.size w)
  have H : ((tinderlaw19_alive.f).bind fun t9001 => (if t9001 = true then ((vars_Encode.f k l0).bind fun bt9002 => (if bt9002.2 = 0 then ((vars_Decode.f k bt9002.1).bind fun bt9006 => (if bt9006.2 = 0 then ((tinderref19_Same.f k bt9006.1 l0).bind fun t9010 => (if t9010 = true then (tinderlaw19_VarsBack.j0 k l1) else (some false))) else (some false))) else (tinderlaw19_VarsBack.j0 k l1))) else (some false))) = some r := h
  clear h
  replace H := Option.bind_eq_some_iff.mp H
  obtain ⟨t9001, A30, H⟩ := H
  replace H : (if t9001 = true then ((vars_Encode.f k l0).bind fun bt9002 => (if bt9002.2 = 0 then ((vars_Decode.f k bt9002.1).bind fun bt9006 => (if bt9006.2 = 0 then ((tinderref19_Same.f k bt9006.1 l0).bind fun t9010 => (if t9010 = true then (tinderlaw19_VarsBack.j0 k l1) else (some false))) else (some false))) else (tinderlaw19_VarsBack.j0 k l1))) else (some false)) = some r := H
  have A3 := Aside0.mk A30
  clear A30
  by_cases c4 : t9001 = true
  · subst c4
    have H1 : ((vars_Encode.f k l0).bind fun bt9002 => (if bt9002.2 = 0 then ((vars_Decode.f k bt9002.1).bind fun bt9006 => (if bt9006.2 = 0 then ((tinderref19_Same.f k bt9006.1 l0).bind fun t9010 => (if t9010 = true then (tinderlaw19_VarsBack.j0 k l1) else (some false))) else (some false))) else (tinderlaw19_VarsBack.j0 k l1))) = some r := by rw [if_pos rfl] at H; exact H
    clear H
    have H := H1
    clear H1
    replace H := Option.bind_eq_some_iff.mp H
    obtain ⟨⟨t9002, t9003⟩, A50, H⟩ := H
    replace H : (if t9003 = 0 then ((vars_Decode.f k t9002).bind fun bt9006 => (if bt9006.2 = 0 then ((tinderref19_Same.f k bt9006.1 l0).bind fun t9010 => (if t9010 = true then (tinderlaw19_VarsBack.j0 k l1) else (some false))) else (some false))) else (tinderlaw19_VarsBack.j0 k l1)) = some r := H
    have A5 := Aside0.mk A50
    clear A50
    have HC6 := Aside0.mk H
    clear H
    go_enter Tryd.func8, Tryd.ntmps8
    go_upto_if 21 with (first | ((with_reducible refine gate_callee (f := 11) rfl ?_); refine goesL_ (some 13) rfl rfl Tryd.func11 (by kernel_rfl) rfl #[] rfl (by (try simp only [List.map_toArray, List.map_cons, List.map_nil]); first | done | rfl | (simp only [List.length_drop, List.length_take]; rfl)) ?_; (with_reducible refine (tinderlaw19_alive.calls  true _ ht A3.out).mono ?_); rintro e w7 ⟨rfl, hb⟩; refine ⟨_, rfl, ?_⟩; have n0_ := Aside0.mk (below_step (by repeat (first | (with_reducible first | exact HB.out | apply below_alloc | apply pw_below_drewN | apply below_drew1) | exact HB.out)) hb); clear HB; have HB := n0_; clear n0_; (try clear hb); (try clear hb2); (try clear hk); (try clear hi)) | ((with_reducible refine gate_callee (f := 26) rfl ?_); refine goesL_ (some 17) rfl rfl Tryd.func26 (by kernel_rfl) rfl #[.slice A0 l0.length c0] rfl (by (try simp only [List.map_toArray, List.map_cons, List.map_nil]); first | done | rfl | (simp only [List.length_drop, List.length_take]; rfl)) ?_; (with_reducible refine (vars_Encode.calls k _ _ l0 t9002 t9003 _ (Tabs.below ht (by repeat (first | (with_reducible first | exact HB.out | apply below_alloc | apply pw_below_drewN | apply below_drew1 | refine below_set ?_ (Aside0.out (by assumption))) | exact HB.out))) ?side1 ?side2 A5.out).mono ?_); (case side1 => repeat (first | exact (Kd.C_below HR0.out HB.out) | (with_reducible refine Kd.C_alloc ?_ _) | (with_reducible refine Kd.C_drewN ?_ _) | (with_reducible refine Kd.C_drew ?_))); (case side2 => exact HC0.out); rintro e w8 ⟨v9004, rfl, ho0, hb⟩; refine ⟨_, rfl, ?_⟩; have n0_ := Aside0.mk (Kd.R_lower ho0 (below_size (by repeat (first | (with_reducible first | exact HB.out | apply below_alloc | apply pw_below_drewN | apply below_drew1) | exact HB.out)))); have n1_ := Aside0.mk (below_step (by repeat (first | (with_reducible first | exact HB.out | apply below_alloc | apply pw_below_drewN | apply below_drew1) | exact HB.out)) hb); clear HB; have HO9005 := n0_; have HB := n1_; clear n0_ n1_; (try clear hb); (try clear hb2); (try clear hk); (try clear hi); (try clear ho0)))
    (try simp only [Act.put, List.setIfInBounds_toArray, List.set_cons_zero, List.set_cons_succ])
    go_cut [] (fun wc => ∃ (kq : Nat), Aside0 (tinderlaw19_VarsBack.j0 kq l1 = some r) ∧ Aside0 (kq ≤ k) ∧ Aside0 (Below w.heap.size w wc))
    case first =>
      have H := HC6.out
      clear HC6
      by_cases c9 : t9003 = 0
      · rw [if_pos c9] at H
        have c9b0 : (t9003 == 0) = true := beq_iff_eq.mpr c9
        have c9b1 : (t9003 != 0) = false := bne_eq_false_iff_eq.mpr c9
        clear c9
        (first | rw [c9b0] | (simp only [i64_w, i32_w]; rw [c9b0]) | skip)
        replace H := Option.bind_eq_some_iff.mp H
        obtain ⟨⟨t9006, t9007⟩, A100, H⟩ := H
        replace H : (if t9007 = 0 then ((tinderref19_Same.f k t9006 l0).bind fun t9010 => (if t9010 = true then (tinderlaw19_VarsBack.j0 k l1) else (some false))) else (some false)) = some r := H
        have A10 := Aside0.mk A100
        clear A100
        by_cases c11 : t9007 = 0
        · rw [if_pos c11] at H
          have c11b0 : (t9007 == 0) = true := beq_iff_eq.mpr c11
          have c11b1 : (t9007 != 0) = false := bne_eq_false_iff_eq.mpr c11
          clear c11
          replace H := Option.bind_eq_some_iff.mp H
          obtain ⟨t9010, A120, H⟩ := H
          replace H : (if t9010 = true then (tinderlaw19_VarsBack.j0 k l1) else (some false)) = some r := H
          have A12 := Aside0.mk A120
          clear A120
          by_cases c13 : t9010 = true
          · subst c13
            have H1 : (tinderlaw19_VarsBack.j0 k l1) = some r := by rw [if_pos rfl] at H; exact H
            clear H
            have H := H1
            clear H1
            have H' := Aside0.mk H
            clear H
            obtain ⟨Ao14, co14, eo14⟩ := Kd.R_slice HO9005.out
            subst eo14
            go_wp2_with (first | ((with_reducible refine gate_callee (f := 28) rfl ?_); refine goesL_ (some 24) rfl rfl Tryd.func28 (by kernel_rfl) rfl #[.slice Ao14 t9002.length co14] rfl (by (try simp only [List.map_toArray, List.map_cons, List.map_nil]); first | done | rfl | (simp only [List.length_drop, List.length_take]; rfl)) ?_; (with_reducible refine (vars_Decode.calls k _ _ t9002 t9006 t9007 _ (Tabs.below ht (by repeat (first | (with_reducible first | exact HB.out | apply below_alloc | apply pw_below_drewN | apply below_drew1 | refine below_set ?_ (Aside0.out (by assumption))) | exact HB.out))) ?side1 ?side2 A10.out).mono ?_); (case side1 => repeat (first | exact (Kd.R_reads' HO9005.out).2.2 | (with_reducible refine Kd.C_alloc ?_ _) | (with_reducible refine Kd.C_drewN ?_ _) | (with_reducible refine Kd.C_drew ?_))); (case side2 => exact (Kd.R_reads' HO9005.out).2.1); rintro e w15 ⟨v9008, rfl, ho0, hb⟩; refine ⟨_, rfl, ?_⟩; have n0_ := Aside0.mk (Kd.R_below (by (with_reducible repeat (first | apply Kd.R_alloc | apply Kd.R_drewN | apply Kd.R_drew)); exact HO9005.out) hb); have n1_ := Aside0.mk (Kd.R_lower ho0 (below_size (by repeat (first | (with_reducible first | exact HB.out | apply below_alloc | apply pw_below_drewN | apply below_drew1) | exact HB.out)))); have n2_ := Aside0.mk (below_step (by repeat (first | (with_reducible first | exact HB.out | apply below_alloc | apply pw_below_drewN | apply below_drew1) | exact HB.out)) hb); clear HO9005; clear HB; have HO9005 := n0_; have HO9009 := n1_; have HB := n2_; clear n0_ n1_ n2_; (try clear hb); (try clear hb2); (try clear hk); (try clear hi); (try clear ho0); obtain ⟨Ao16, co16, eo16⟩ := Kd.R_slice HO9009.out; subst eo16) | (go_at_call 15; (with_reducible refine (tinderref19_Same.calls k _ _ t9006 _ _ l0 true _ ?side1 ?side2 ?side3 ?side4 A12.out).mono ?_); (case side1 => repeat (first | exact (Kd.R_reads' HO9009.out).2.2 | (with_reducible refine Kd.C_alloc ?_ _) | (with_reducible refine Kd.C_drewN ?_ _) | (with_reducible refine Kd.C_drew ?_))); (case side2 => exact (Kd.R_reads' HO9009.out).2.1); (case side3 => repeat (first | exact (Kd.C_below HR0.out HB.out) | (with_reducible refine Kd.C_alloc ?_ _) | (with_reducible refine Kd.C_drewN ?_ _) | (with_reducible refine Kd.C_drew ?_))); (case side4 => exact HC0.out); rintro e w' ⟨rfl, ⟨nd, rfl⟩⟩))
            go_meet
            case rel => exact ⟨_, H', ⟨by first | omega | exact Nat.le_refl _⟩, ⟨by repeat (first | (with_reducible first | exact HB.out | apply below_alloc | apply pw_below_drewN | apply below_drew1) | exact HB.out)⟩⟩
          · replace c13 := Bool.eq_false_iff.mpr c13
            subst c13
            have H1 : (some false) = some r := by rw [if_neg (show ¬ (false = true) by decide)] at H; exact H
            clear H
            have H := H1
            clear H1
            obtain rfl := Option.some.inj H
            obtain ⟨Ao17, co17, eo17⟩ := Kd.R_slice HO9005.out
            subst eo17
            go_wp2_with (first | ((with_reducible refine gate_callee (f := 28) rfl ?_); refine goesL_ (some 24) rfl rfl Tryd.func28 (by kernel_rfl) rfl #[.slice Ao17 t9002.length co17] rfl (by (try simp only [List.map_toArray, List.map_cons, List.map_nil]); first | done | rfl | (simp only [List.length_drop, List.length_take]; rfl)) ?_; (with_reducible refine (vars_Decode.calls k _ _ t9002 t9006 t9007 _ (Tabs.below ht (by repeat (first | (with_reducible first | exact HB.out | apply below_alloc | apply pw_below_drewN | apply below_drew1 | refine below_set ?_ (Aside0.out (by assumption))) | exact HB.out))) ?side1 ?side2 A10.out).mono ?_); (case side1 => repeat (first | exact (Kd.R_reads' HO9005.out).2.2 | (with_reducible refine Kd.C_alloc ?_ _) | (with_reducible refine Kd.C_drewN ?_ _) | (with_reducible refine Kd.C_drew ?_))); (case side2 => exact (Kd.R_reads' HO9005.out).2.1); rintro e w18 ⟨v9008, rfl, ho0, hb⟩; refine ⟨_, rfl, ?_⟩; have n0_ := Aside0.mk (Kd.R_below (by (with_reducible repeat (first | apply Kd.R_alloc | apply Kd.R_drewN | apply Kd.R_drew)); exact HO9005.out) hb); have n1_ := Aside0.mk (Kd.R_lower ho0 (below_size (by repeat (first | (with_reducible first | exact HB.out | apply below_alloc | apply pw_below_drewN | apply below_drew1) | exact HB.out)))); have n2_ := Aside0.mk (below_step (by repeat (first | (with_reducible first | exact HB.out | apply below_alloc | apply pw_below_drewN | apply below_drew1) | exact HB.out)) hb); clear HO9005; clear HB; have HO9005 := n0_; have HO9009 := n1_; have HB := n2_; clear n0_ n1_ n2_; (try clear hb); (try clear hb2); (try clear hk); (try clear hi); (try clear ho0); obtain ⟨Ao19, co19, eo19⟩ := Kd.R_slice HO9009.out; subst eo19) | (go_at_call 15; (with_reducible refine (tinderref19_Same.calls k _ _ t9006 _ _ l0 false _ ?side1 ?side2 ?side3 ?side4 A12.out).mono ?_); (case side1 => repeat (first | exact (Kd.R_reads' HO9009.out).2.2 | (with_reducible refine Kd.C_alloc ?_ _) | (with_reducible refine Kd.C_drewN ?_ _) | (with_reducible refine Kd.C_drew ?_))); (case side2 => exact (Kd.R_reads' HO9009.out).2.1); (case side3 => repeat (first | exact (Kd.C_below HR0.out HB.out) | (with_reducible refine Kd.C_alloc ?_ _) | (with_reducible refine Kd.C_drewN ?_ _) | (with_reducible refine Kd.C_drew ?_))); (case side4 => exact HC0.out); rintro e w' ⟨rfl, ⟨nd, rfl⟩⟩))
            go_ret
            exact ⟨by first | rfl | (simp [errW_none, errW_some] <;> rfl) | (simp [*, errW_none, errW_some] <;> rfl), by repeat (first | (with_reducible first | exact HB.out | apply below_alloc | apply pw_below_drewN | apply below_drew1) | exact HB.out)⟩
        · rw [if_neg c11] at H
          have c11b0 : (t9007 == 0) = false := beq_eq_false_iff_ne.mpr c11
          have c11b1 : (t9007 != 0) = true := bne_iff_ne.mpr c11
          obtain rfl := Option.some.inj H
          obtain ⟨Ao20, co20, eo20⟩ := Kd.R_slice HO9005.out
          subst eo20
          go_wp2_with (first | ((with_reducible refine gate_callee (f := 28) rfl ?_); refine goesL_ (some 24) rfl rfl Tryd.func28 (by kernel_rfl) rfl #[.slice Ao20 t9002.length co20] rfl (by (try simp only [List.map_toArray, List.map_cons, List.map_nil]); first | done | rfl | (simp only [List.length_drop, List.length_take]; rfl)) ?_; (with_reducible refine (vars_Decode.calls k _ _ t9002 t9006 t9007 _ (Tabs.below ht (by repeat (first | (with_reducible first | exact HB.out | apply below_alloc | apply pw_below_drewN | apply below_drew1 | refine below_set ?_ (Aside0.out (by assumption))) | exact HB.out))) ?side1 ?side2 A10.out).mono ?_); (case side1 => repeat (first | exact (Kd.R_reads' HO9005.out).2.2 | (with_reducible refine Kd.C_alloc ?_ _) | (with_reducible refine Kd.C_drewN ?_ _) | (with_reducible refine Kd.C_drew ?_))); (case side2 => exact (Kd.R_reads' HO9005.out).2.1); rintro e w21 ⟨v9008, rfl, ho0, hb⟩; refine ⟨_, rfl, ?_⟩; have n0_ := Aside0.mk (Kd.R_below (by (with_reducible repeat (first | apply Kd.R_alloc | apply Kd.R_drewN | apply Kd.R_drew)); exact HO9005.out) hb); have n1_ := Aside0.mk (Kd.R_lower ho0 (below_size (by repeat (first | (with_reducible first | exact HB.out | apply below_alloc | apply pw_below_drewN | apply below_drew1) | exact HB.out)))); have n2_ := Aside0.mk (below_step (by repeat (first | (with_reducible first | exact HB.out | apply below_alloc | apply pw_below_drewN | apply below_drew1) | exact HB.out)) hb); clear HO9005; clear HB; have HO9005 := n0_; have HO9009 := n1_; have HB := n2_; clear n0_ n1_ n2_; (try clear hb); (try clear hb2); (try clear hk); (try clear hi); (try clear ho0)))
          go_ret
          exact ⟨by first | rfl | (simp [errW_none, errW_some] <;> rfl) | (simp [*, errW_none, errW_some] <;> rfl), by repeat (first | (with_reducible first | exact HB.out | apply below_alloc | apply pw_below_drewN | apply below_drew1) | exact HB.out)⟩
      · rw [if_neg c9] at H
        have c9b0 : (t9003 == 0) = false := beq_eq_false_iff_ne.mpr c9
        have c9b1 : (t9003 != 0) = true := bne_iff_ne.mpr c9
        (first | rw [c9b0] | (simp only [i64_w, i32_w]; rw [c9b0]) | skip)
        have H' := Aside0.mk H
        clear H
        go_wp2
        go_meet
        case rel => exact ⟨_, H', ⟨by first | omega | exact Nat.le_refl _⟩, ⟨by repeat (first | (with_reducible first | exact HB.out | apply below_alloc | apply pw_below_drewN | apply below_drew1) | exact HB.out)⟩⟩
    case rest =>
      clear HC6
      try clear c1
      try clear c2
      try clear p2
      try clear c4
      try clear c8
      try clear c9
      try clear c9b0
      try clear c9b1
      try clear c11
      try clear c11b0
      try clear c11b1
      try clear c13
      obtain ⟨kq, HA, HJ5, HB⟩ := hcut
      cases kq with
      | zero => exact absurd HA.out (by simp [tinderlaw19_VarsBack.j0])
      | succ kj5 =>
        have H := HA.out
        clear HA
        simp only [tinderlaw19_VarsBack.j0] at H
        replace H := Option.bind_eq_some_iff.mp H
        obtain ⟨⟨t9011, t9012⟩, A220, H⟩ := H
        replace H : (if t9012 = 0 then ((vars_Encode.f kj5 t9011).bind fun bt9015 => (if (l1.length : Int) > 248 then (some (bt9015.2 == 10)) else (if bt9015.2 = 0 then ((tinderref04_Same.f bt9015.1 l1).bind fun t9019 => (some t9019)) else (some false)))) else (some ((t9011.length : Int) == 0))) = some r := H
        have A22 := Aside0.mk A220
        clear A220
        by_cases c23 : t9012 = 0
        · rw [if_pos c23] at H
          have c23b0 : (t9012 == 0) = true := beq_iff_eq.mpr c23
          have c23b1 : (t9012 != 0) = false := bne_eq_false_iff_eq.mpr c23
          clear c23
          replace H := Option.bind_eq_some_iff.mp H
          obtain ⟨⟨t9015, t9016⟩, A240, H⟩ := H
          replace H : (if (l1.length : Int) > 248 then (some (t9016 == 10)) else (if t9016 = 0 then ((tinderref04_Same.f t9015 l1).bind fun t9019 => (some t9019)) else (some false))) = some r := H
          have A24 := Aside0.mk A240
          clear A240
          by_cases c25 : (l1.length : Int) > 248
          · rw [if_pos c25] at H
            have c25b0 : decide (248 < (l1.length : Int)) = true := decide_eq_true c25
            have c25b1 : decide (248 < l1.length) = true := decide_eq_true (by omega)
            clear c25
            obtain rfl := Option.some.inj H
            go_wp2_with (first | ((with_reducible refine gate_callee (f := 28) rfl ?_); refine goesL_ (some 37) rfl rfl Tryd.func28 (by kernel_rfl) rfl #[.slice A1 l1.length c1] rfl (by (try simp only [List.map_toArray, List.map_cons, List.map_nil]); first | done | rfl | (simp only [List.length_drop, List.length_take]; rfl)) ?_; (with_reducible refine (vars_Decode.calls kj5 _ _ l1 t9011 t9012 _ (Tabs.below ht (by repeat (first | (with_reducible first | exact HB.out | apply below_alloc | apply pw_below_drewN | apply below_drew1 | refine below_set ?_ (Aside0.out (by assumption))) | exact HB.out))) ?side1 ?side2 A22.out).mono ?_); (case side1 => repeat (first | exact (Kd.C_below HR1.out HB.out) | (with_reducible refine Kd.C_alloc ?_ _) | (with_reducible refine Kd.C_drewN ?_ _) | (with_reducible refine Kd.C_drew ?_))); (case side2 => exact HC1.out); rintro e w26 ⟨v9013, rfl, ho0, hb⟩; refine ⟨_, rfl, ?_⟩; have n0_ := Aside0.mk (Kd.R_lower ho0 (below_size (by repeat (first | (with_reducible first | exact HB.out | apply below_alloc | apply pw_below_drewN | apply below_drew1) | exact HB.out)))); have n1_ := Aside0.mk (below_step (by repeat (first | (with_reducible first | exact HB.out | apply below_alloc | apply pw_below_drewN | apply below_drew1) | exact HB.out)) hb); clear HB; have HO9014 := n0_; have HB := n1_; clear n0_ n1_; (try clear hb); (try clear hb2); (try clear hk); (try clear hi); (try clear ho0); obtain ⟨Ao27, co27, eo27⟩ := Kd.R_slice HO9014.out; subst eo27) | ((with_reducible refine gate_callee (f := 26) rfl ?_); refine goesL_ (some 47) rfl rfl Tryd.func26 (by kernel_rfl) rfl #[.slice Ao27 t9011.length co27] rfl (by (try simp only [List.map_toArray, List.map_cons, List.map_nil]); first | done | rfl | (simp only [List.length_drop, List.length_take]; rfl)) ?_; (with_reducible refine (vars_Encode.calls kj5 _ _ t9011 t9015 t9016 _ (Tabs.below ht (by repeat (first | (with_reducible first | exact HB.out | apply below_alloc | apply pw_below_drewN | apply below_drew1 | refine below_set ?_ (Aside0.out (by assumption))) | exact HB.out))) ?side1 ?side2 A24.out).mono ?_); (case side1 => repeat (first | exact (Kd.R_reads' HO9014.out).2.2 | (with_reducible refine Kd.C_alloc ?_ _) | (with_reducible refine Kd.C_drewN ?_ _) | (with_reducible refine Kd.C_drew ?_))); (case side2 => exact (Kd.R_reads' HO9014.out).2.1); rintro e w28 ⟨v9017, rfl, ho0, hb⟩; refine ⟨_, rfl, ?_⟩; have n0_ := Aside0.mk (Kd.R_below (by (with_reducible repeat (first | apply Kd.R_alloc | apply Kd.R_drewN | apply Kd.R_drew)); exact HO9014.out) hb); have n1_ := Aside0.mk (Kd.R_lower ho0 (below_size (by repeat (first | (with_reducible first | exact HB.out | apply below_alloc | apply pw_below_drewN | apply below_drew1) | exact HB.out)))); have n2_ := Aside0.mk (below_step (by repeat (first | (with_reducible first | exact HB.out | apply below_alloc | apply pw_below_drewN | apply below_drew1) | exact HB.out)) hb); clear HO9014; clear HB; have HO9014 := n0_; have HO9018 := n1_; have HB := n2_; clear n0_ n1_ n2_; (try clear hb); (try clear hb2); (try clear hk); (try clear hi); (try clear ho0)))
            go_ret
            exact ⟨by first | rfl | (simp [errW_none, errW_some] <;> rfl) | (simp [*, errW_none, errW_some] <;> rfl), by repeat (first | (with_reducible first | exact HB.out | apply below_alloc | apply pw_below_drewN | apply below_drew1) | exact HB.out)⟩
          · rw [if_neg c25] at H
            have c25b0 : decide (248 < (l1.length : Int)) = false := decide_eq_false c25
            have c25b1 : decide (248 < l1.length) = false := decide_eq_false (by omega)
            clear c25
            by_cases c29 : t9016 = 0
            · rw [if_pos c29] at H
              have c29b0 : (t9016 == 0) = true := beq_iff_eq.mpr c29
              have c29b1 : (t9016 != 0) = false := bne_eq_false_iff_eq.mpr c29
              clear c29
              replace H := Option.bind_eq_some_iff.mp H
              obtain ⟨t9019, A300, H⟩ := H
              replace H : (some t9019) = some r := H
              have A30 := Aside0.mk A300
              clear A300
              obtain rfl := Option.some.inj H
              go_wp2_with (first | ((with_reducible refine gate_callee (f := 28) rfl ?_); refine goesL_ (some 37) rfl rfl Tryd.func28 (by kernel_rfl) rfl #[.slice A1 l1.length c1] rfl (by (try simp only [List.map_toArray, List.map_cons, List.map_nil]); first | done | rfl | (simp only [List.length_drop, List.length_take]; rfl)) ?_; (with_reducible refine (vars_Decode.calls kj5 _ _ l1 t9011 t9012 _ (Tabs.below ht (by repeat (first | (with_reducible first | exact HB.out | apply below_alloc | apply pw_below_drewN | apply below_drew1 | refine below_set ?_ (Aside0.out (by assumption))) | exact HB.out))) ?side1 ?side2 A22.out).mono ?_); (case side1 => repeat (first | exact (Kd.C_below HR1.out HB.out) | (with_reducible refine Kd.C_alloc ?_ _) | (with_reducible refine Kd.C_drewN ?_ _) | (with_reducible refine Kd.C_drew ?_))); (case side2 => exact HC1.out); rintro e w31 ⟨v9013, rfl, ho0, hb⟩; refine ⟨_, rfl, ?_⟩; have n0_ := Aside0.mk (Kd.R_lower ho0 (below_size (by repeat (first | (with_reducible first | exact HB.out | apply below_alloc | apply pw_below_drewN | apply below_drew1) | exact HB.out)))); have n1_ := Aside0.mk (below_step (by repeat (first | (with_reducible first | exact HB.out | apply below_alloc | apply pw_below_drewN | apply below_drew1) | exact HB.out)) hb); clear HB; have HO9014 := n0_; have HB := n1_; clear n0_ n1_; (try clear hb); (try clear hb2); (try clear hk); (try clear hi); (try clear ho0); obtain ⟨Ao32, co32, eo32⟩ := Kd.R_slice HO9014.out; subst eo32) | ((with_reducible refine gate_callee (f := 26) rfl ?_); refine goesL_ (some 47) rfl rfl Tryd.func26 (by kernel_rfl) rfl #[.slice Ao32 t9011.length co32] rfl (by (try simp only [List.map_toArray, List.map_cons, List.map_nil]); first | done | rfl | (simp only [List.length_drop, List.length_take]; rfl)) ?_; (with_reducible refine (vars_Encode.calls kj5 _ _ t9011 t9015 t9016 _ (Tabs.below ht (by repeat (first | (with_reducible first | exact HB.out | apply below_alloc | apply pw_below_drewN | apply below_drew1 | refine below_set ?_ (Aside0.out (by assumption))) | exact HB.out))) ?side1 ?side2 A24.out).mono ?_); (case side1 => repeat (first | exact (Kd.R_reads' HO9014.out).2.2 | (with_reducible refine Kd.C_alloc ?_ _) | (with_reducible refine Kd.C_drewN ?_ _) | (with_reducible refine Kd.C_drew ?_))); (case side2 => exact (Kd.R_reads' HO9014.out).2.1); rintro e w33 ⟨v9017, rfl, ho0, hb⟩; refine ⟨_, rfl, ?_⟩; have n0_ := Aside0.mk (Kd.R_below (by (with_reducible repeat (first | apply Kd.R_alloc | apply Kd.R_drewN | apply Kd.R_drew)); exact HO9014.out) hb); have n1_ := Aside0.mk (Kd.R_lower ho0 (below_size (by repeat (first | (with_reducible first | exact HB.out | apply below_alloc | apply pw_below_drewN | apply below_drew1) | exact HB.out)))); have n2_ := Aside0.mk (below_step (by repeat (first | (with_reducible first | exact HB.out | apply below_alloc | apply pw_below_drewN | apply below_drew1) | exact HB.out)) hb); clear HO9014; clear HB; have HO9014 := n0_; have HO9018 := n1_; have HB := n2_; clear n0_ n1_ n2_; (try clear hb); (try clear hb2); (try clear hk); (try clear hi); (try clear ho0); obtain ⟨Ao34, co34, eo34⟩ := Kd.R_slice HO9018.out; subst eo34) | (go_at_call 30; (with_reducible refine (tinderref04_Same.calls _ _ t9015 _ _ l1 t9019 _ ?side1 ?side2 ?side3 ?side4 A30.out).mono ?_); (case side1 => repeat (first | exact (Kd.R_reads' HO9018.out).2.2 | (with_reducible refine Kd.C_alloc ?_ _) | (with_reducible refine Kd.C_drewN ?_ _) | (with_reducible refine Kd.C_drew ?_))); (case side2 => exact (Kd.R_reads' HO9018.out).2.1); (case side3 => repeat (first | exact (Kd.C_below HR1.out HB.out) | (with_reducible refine Kd.C_alloc ?_ _) | (with_reducible refine Kd.C_drewN ?_ _) | (with_reducible refine Kd.C_drew ?_))); (case side4 => exact HC1.out); rintro e w' ⟨rfl, ⟨nd, rfl⟩⟩))
              go_ret
              exact ⟨by first | rfl | (simp [errW_none, errW_some] <;> rfl) | (simp [*, errW_none, errW_some] <;> rfl), by repeat (first | (with_reducible first | exact HB.out | apply below_alloc | apply pw_below_drewN | apply below_drew1) | exact HB.out)⟩
            · rw [if_neg c29] at H
              have c29b0 : (t9016 == 0) = false := beq_eq_false_iff_ne.mpr c29
              have c29b1 : (t9016 != 0) = true := bne_iff_ne.mpr c29
              obtain rfl := Option.some.inj H
              go_wp2_with (first | ((with_reducible refine gate_callee (f := 28) rfl ?_); refine goesL_ (some 37) rfl rfl Tryd.func28 (by kernel_rfl) rfl #[.slice A1 l1.length c1] rfl (by (try simp only [List.map_toArray, List.map_cons, List.map_nil]); first | done | rfl | (simp only [List.length_drop, List.length_take]; rfl)) ?_; (with_reducible refine (vars_Decode.calls kj5 _ _ l1 t9011 t9012 _ (Tabs.below ht (by repeat (first | (with_reducible first | exact HB.out | apply below_alloc | apply pw_below_drewN | apply below_drew1 | refine below_set ?_ (Aside0.out (by assumption))) | exact HB.out))) ?side1 ?side2 A22.out).mono ?_); (case side1 => repeat (first | exact (Kd.C_below HR1.out HB.out) | (with_reducible refine Kd.C_alloc ?_ _) | (with_reducible refine Kd.C_drewN ?_ _) | (with_reducible refine Kd.C_drew ?_))); (case side2 => exact HC1.out); rintro e w35 ⟨v9013, rfl, ho0, hb⟩; refine ⟨_, rfl, ?_⟩; have n0_ := Aside0.mk (Kd.R_lower ho0 (below_size (by repeat (first | (with_reducible first | exact HB.out | apply below_alloc | apply pw_below_drewN | apply below_drew1) | exact HB.out)))); have n1_ := Aside0.mk (below_step (by repeat (first | (with_reducible first | exact HB.out | apply below_alloc | apply pw_below_drewN | apply below_drew1) | exact HB.out)) hb); clear HB; have HO9014 := n0_; have HB := n1_; clear n0_ n1_; (try clear hb); (try clear hb2); (try clear hk); (try clear hi); (try clear ho0); obtain ⟨Ao36, co36, eo36⟩ := Kd.R_slice HO9014.out; subst eo36) | ((with_reducible refine gate_callee (f := 26) rfl ?_); refine goesL_ (some 47) rfl rfl Tryd.func26 (by kernel_rfl) rfl #[.slice Ao36 t9011.length co36] rfl (by (try simp only [List.map_toArray, List.map_cons, List.map_nil]); first | done | rfl | (simp only [List.length_drop, List.length_take]; rfl)) ?_; (with_reducible refine (vars_Encode.calls kj5 _ _ t9011 t9015 t9016 _ (Tabs.below ht (by repeat (first | (with_reducible first | exact HB.out | apply below_alloc | apply pw_below_drewN | apply below_drew1 | refine below_set ?_ (Aside0.out (by assumption))) | exact HB.out))) ?side1 ?side2 A24.out).mono ?_); (case side1 => repeat (first | exact (Kd.R_reads' HO9014.out).2.2 | (with_reducible refine Kd.C_alloc ?_ _) | (with_reducible refine Kd.C_drewN ?_ _) | (with_reducible refine Kd.C_drew ?_))); (case side2 => exact (Kd.R_reads' HO9014.out).2.1); rintro e w37 ⟨v9017, rfl, ho0, hb⟩; refine ⟨_, rfl, ?_⟩; have n0_ := Aside0.mk (Kd.R_below (by (with_reducible repeat (first | apply Kd.R_alloc | apply Kd.R_drewN | apply Kd.R_drew)); exact HO9014.out) hb); have n1_ := Aside0.mk (Kd.R_lower ho0 (below_size (by repeat (first | (with_reducible first | exact HB.out | apply below_alloc | apply pw_below_drewN | apply below_drew1) | exact HB.out)))); have n2_ := Aside0.mk (below_step (by repeat (first | (with_reducible first | exact HB.out | apply below_alloc | apply pw_below_drewN | apply below_drew1) | exact HB.out)) hb); clear HO9014; clear HB; have HO9014 := n0_; have HO9018 := n1_; have HB := n2_; clear n0_ n1_ n2_; (try clear hb); (try clear hb2); (try clear hk); (try clear hi); (try clear ho0)))
              go_ret
              exact ⟨by first | rfl | (simp [errW_none, errW_some] <;> rfl) | (simp [*, errW_none, errW_some] <;> rfl), by repeat (first | (with_reducible first | exact HB.out | apply below_alloc | apply pw_below_drewN | apply below_drew1) | exact HB.out)⟩
        · rw [if_neg c23] at H
          have c23b0 : (t9012 == 0) = false := beq_eq_false_iff_ne.mpr c23
          have c23b1 : (t9012 != 0) = true := bne_iff_ne.mpr c23
          obtain rfl := Option.some.inj H
          go_wp2_with (first | ((with_reducible refine gate_callee (f := 28) rfl ?_); refine goesL_ (some 37) rfl rfl Tryd.func28 (by kernel_rfl) rfl #[.slice A1 l1.length c1] rfl (by (try simp only [List.map_toArray, List.map_cons, List.map_nil]); first | done | rfl | (simp only [List.length_drop, List.length_take]; rfl)) ?_; (with_reducible refine (vars_Decode.calls kj5 _ _ l1 t9011 t9012 _ (Tabs.below ht (by repeat (first | (with_reducible first | exact HB.out | apply below_alloc | apply pw_below_drewN | apply below_drew1 | refine below_set ?_ (Aside0.out (by assumption))) | exact HB.out))) ?side1 ?side2 A22.out).mono ?_); (case side1 => repeat (first | exact (Kd.C_below HR1.out HB.out) | (with_reducible refine Kd.C_alloc ?_ _) | (with_reducible refine Kd.C_drewN ?_ _) | (with_reducible refine Kd.C_drew ?_))); (case side2 => exact HC1.out); rintro e w38 ⟨v9013, rfl, ho0, hb⟩; refine ⟨_, rfl, ?_⟩; have n0_ := Aside0.mk (Kd.R_lower ho0 (below_size (by repeat (first | (with_reducible first | exact HB.out | apply below_alloc | apply pw_below_drewN | apply below_drew1) | exact HB.out)))); have n1_ := Aside0.mk (below_step (by repeat (first | (with_reducible first | exact HB.out | apply below_alloc | apply pw_below_drewN | apply below_drew1) | exact HB.out)) hb); clear HB; have HO9014 := n0_; have HB := n1_; clear n0_ n1_; (try clear hb); (try clear hb2); (try clear hk); (try clear hi); (try clear ho0); obtain ⟨Ao39, co39, eo39⟩ := Kd.R_slice HO9014.out; subst eo39))
          go_ret
          exact ⟨by first | rfl | (simp [errW_none, errW_some] <;> rfl) | (simp [*, errW_none, errW_some] <;> rfl), by repeat (first | (with_reducible first | exact HB.out | apply below_alloc | apply pw_below_drewN | apply below_drew1) | exact HB.out)⟩
  · replace c4 := Bool.eq_false_iff.mpr c4
    subst c4
    have H1 : (some false) = some r := by rw [if_neg (show ¬ (false = true) by decide)] at H; exact H
    clear H
    have H := H1
    clear H1
    obtain rfl := Option.some.inj H
    go_enter Tryd.func8, Tryd.ntmps8
    go_wp2_with (first | ((with_reducible refine gate_callee (f := 11) rfl ?_); refine goesL_ (some 13) rfl rfl Tryd.func11 (by kernel_rfl) rfl #[] rfl (by (try simp only [List.map_toArray, List.map_cons, List.map_nil]); first | done | rfl | (simp only [List.length_drop, List.length_take]; rfl)) ?_; (with_reducible refine (tinderlaw19_alive.calls  false _ ht A3.out).mono ?_); rintro e w40 ⟨rfl, hb⟩; refine ⟨_, rfl, ?_⟩; have n0_ := Aside0.mk (below_step (by repeat (first | (with_reducible first | exact HB.out | apply below_alloc | apply pw_below_drewN | apply below_drew1) | exact HB.out)) hb); clear HB; have HB := n0_; clear n0_; (try clear hb); (try clear hb2); (try clear hk); (try clear hi)))
    go_ret
    exact ⟨by first | rfl | (simp [errW_none, errW_some] <;> rfl) | (simp [*, errW_none, errW_some] <;> rfl), by repeat (first | (with_reducible first | exact HB.out | apply below_alloc | apply pw_below_drewN | apply below_drew1) | exact HB.out)⟩

end Go.Proofs.YtefhngadeimklaaDoor.Q
end
section
set_option linter.unusedSimpArgs false
set_option linter.unusedVariables false
namespace Go.Proofs.YtefhngadeimklaaDoor.Q
open Go.RowKit Go.Proofs.YtefhngadeimklaaDoorW.PrintWords Go.Proofs.YtefhngadeimklaaDoorW.PrintLast
theorem bytesOf_congr {s t : ByteArray} (h : s.toList = t.toList) : bytesOf s = bytesOf t := by
  unfold bytesOf
  rw [← ByteArray.toList_eq, ← ByteArray.toList_eq, h]
theorem size_congr {s t : ByteArray} (h : s.toList = t.toList) : s.size = t.size := by rw [← bytesOf_length, ← bytesOf_length, bytesOf_congr h]
/-- What a right setting's name and value are free of. -/
def Clean (x : S40) : Prop := (∀ a ∈ bytesOf x.f0, a ≠ 0 ∧ a ≠ 61) ∧ (∀ a ∈ bytesOf x.f1, a ≠ 0) ∧ x.f0.size ≤ 12 ∧ x.f1.size ≤ 128
theorem name_clean (i : Int) (h : 0 ≤ i ∧ i < 9) : (∀ a ∈ bytesOf (nmV i), a ≠ 0 ∧ a ≠ 61) ∧ (nmV i).size ≤ 12 := by
  obtain h | h | h | h | h | h | h | h | h : i = 0 ∨ i = 1 ∨ i = 2 ∨ i = 3 ∨ i = 4 ∨ i = 5 ∨ i = 6 ∨ i = 7 ∨ i = 8 := by omega
  all_goals (subst h; decide)
theorem showL_chars : ∀ u : Nat, ∀ c ∈ showL 10 u, 48 ≤ c.toNat := by
  intro u
  induction u using Nat.strongRecOn with
  | _ u ih =>
    have hch : ∀ v : Nat, v < 10 → 48 ≤ (UInt8.ofNat (chN v)).toNat := by
      intro v hv
      unfold chN
      rw [if_pos hv, UInt8.toNat_ofNat']
      omega
    intro c hc
    by_cases h : u < 10
    · rw [showL_small h] at hc
      obtain rfl := List.mem_singleton.1 hc
      exact hch u h
    · rw [showL_big (by decide) (by omega)] at hc
      rcases List.mem_append.1 hc with hc | hc
      · exact ih (u / 10) (by omega) c hc
      · obtain rfl := List.mem_singleton.1 hc
        exact hch _ (by omega)
theorem showB_bytes (b n : Int) : bytesOf (showB b n) = (showL b.toNat n.toNat).map fun c => (c.toNat : Int) := rfl
theorem ok_clean (last : Int) (x : S40) (hs : x.f1.size ≤ 140737488351232) (h : okV last x = true) : Clean x ∧ last < fndF x.f0 := by
  unfold okV at h
  simp only [Bool.and_eq_true, decide_eq_true_eq] at h
  obtain ⟨⟨⟨⟨h1, h2⟩, h3⟩, h4⟩, _⟩ := h
  have hr := fndF_range x.f0
  have hnm := fndG_name x.f0 9 0 (Int.le_refl _) h1
  have hc := name_clean (fndF x.f0) ⟨h1, hr.2⟩
  have hn : bytesOf x.f0 = bytesOf (nmV (fndF x.f0)) := bytesOf_congr hnm.symm
  refine ⟨⟨fun a ha => hc.1 a (hn ▸ ha), ?_⟩, h3⟩
  have hsz : x.f0.size ≤ 12 := by rw [size_congr hnm.symm]; exact hc.2
  suffices h : (∀ a ∈ bytesOf x.f1, a ≠ 0) ∧ x.f1.size ≤ 128 from ⟨h.1, hsz, h.2⟩
  have hv := bytesOf_congr h4
  have hvs := size_congr h4
  unfold formV at h2 hv hvs
  by_cases k0 : kdV (fndF x.f0) = 0
  · rw [if_pos k0] at h2
    simp only [Bool.or_eq_true, decide_eq_true_eq] at h2
    have ht : bytesOf x.f1 = x.f1.toList.map fun b => (b.toNat : Int) := by unfold bytesOf; rw [ByteArray.toList_eq]
    have hz : x.f1.size = x.f1.toList.length := by rw [← bytesOf_length, ht, List.length_map]
    rcases h2 with h2 | h2
    · rw [ht, hz, h2]; decide
    · rw [ht, hz, h2]; decide
  · rw [if_neg k0] at h2 hv hvs
    by_cases k1 : kdV (fndF x.f0) = 1
    · rw [if_pos k1] at h2 hv hvs
      by_cases hp : (parF x.f1 10).2 = 0
      · rw [if_pos hp] at hv hvs
        have hpr := par_range x.f1 10 (by decide) (by omega)
        constructor
        · intro a ha
          rw [← hv, showB_bytes] at ha
          obtain ⟨c, hc, rfl⟩ := List.mem_map.1 ha
          have := showL_chars _ c hc
          omega
        · rw [← hvs, ← bytesOf_length, showB_bytes, List.length_map]
          have := showL_len 10 (by decide) 31 (parF x.f1 10).1.toNat (by omega)
          show (showL 10 (parF x.f1 10).1.toNat).length ≤ 128
          omega
      · rw [if_neg hp] at h2; exact absurd h2 (by decide)
    · rw [if_neg k1] at h2
      by_cases ha : (bytesOf x.f1).all okB = true
      · rw [if_pos ha] at h2
        refine ⟨fun a hm => ?_, of_decide_eq_true h2⟩
        have := List.all_eq_true.1 ha a hm
        unfold okB at this
        simp only [Bool.and_eq_true, decide_eq_true_eq] at this
        omega
      · rw [if_neg ha] at h2; exact absurd h2 (by decide)
theorem right_clean : ∀ (l : List S40) (last : Int), Fits l → -1 ≤ last → last ≤ 8 → rightL l last = true → (∀ x ∈ l, Clean x) ∧ (l.length : Int) ≤ 8 - last
  | [], last, _, _, h8, _ => ⟨fun x hx => (List.not_mem_nil hx).elim, by simp; omega⟩
  | x :: r, last, hf, h1, h8, h => by
    rw [rightL, Bool.and_eq_true] at h
    have hr := fndF_range x.f0
    have hx := ok_clean last x (hf x (List.mem_cons_self ..)).2 h.1
    have ih := right_clean r (fndF x.f0) (fun y hy => hf y (List.mem_cons_of_mem _ hy)) hr.1 (by omega) h.2
    refine ⟨fun y hy => ?_, by rw [List.length_cons]; omega⟩
    rcases List.mem_cons.1 hy with rfl | hy
    · exact hx.1
    · exact ih.1 y hy
theorem encF_small : ∀ (l : List S40), (∀ x ∈ l, Clean x) → (encF l).length ≤ 142 * l.length
  | [], _ => by simp [encF]
  | x :: r, h => by
    have ih := encF_small r (fun y hy => h y (List.mem_cons_of_mem _ hy))
    have hx := h x (List.mem_cons_self ..)
    rw [show encF (x :: r) = encX x ++ encF r from rfl, List.length_append, encX_length, List.length_cons]
    have := hx.2.2
    omega
theorem right_small (l : List S40) (hf : Fits l) (h : rightF l = true) : (∀ x ∈ l, Clean x) ∧ (encF l).length ≤ 1000000 := by
  have h1 := right_clean l (-1) hf (by decide) (by decide) h
  have h2 := encF_small l h1.1
  exact ⟨h1.1, by omega⟩
def encodeF (l : List S40) : List Int × Int := if rightF l = true then (if 248 < (encF l).length then (([] : List Int), 10) else (encF l, 0)) else (([] : List Int), 1)
theorem encode_eq (l : List S40) (hf : Fits l) (hl : l.length < 1125899906842624) (k : Nat) (hk : l.length + 140737488351400 < k) : vars_Encode.f k l = some (encodeF l) := by
  unfold vars_Encode.f encodeF
  rw [right_eq l hf hl k hk, Option.bind_some]
  by_cases h : rightF l = true
  · rw [if_pos h, if_pos h, if_pos (right_small l hf h).2]
    split <;> rfl
  · rw [if_neg h, if_neg h]
theorem bytes_go (l : List S40) (hl : l.length < 1125899906842624) : ∀ (d k : Nat) (i : Int) (acc : List Int), 0 ≤ i → i + d = l.length → acc.length + (encF (l.drop i.toNat)).length ≤ 1000000 → d < k → tinderref19_bytes.l0 k l acc i = some (acc ++ encF (l.drop i.toNat))
  | 0, k, i, acc, h0, h1, ha, hk => by
    obtain ⟨k, rfl⟩ : ∃ m, k = m + 1 := ⟨k - 1, by omega⟩
    rw [tinderref19_bytes.l0, if_neg (by omega), List.drop_eq_nil_of_le (by omega)]
    simp [encF]
  | d + 1, k, i, acc, h0, h1, ha, hk => by
    obtain ⟨k, rfl⟩ : ∃ m, k = m + 1 := ⟨k - 1, by omega⟩
    have hw : wrap64 (i + 1) = i + 1 := by unfold wrap64; omega
    have e : encF (l.drop i.toNat) = encX (rd_T40 l i) ++ encF (l.drop (i + 1).toNat) := by rw [at_drop l i h0 (by omega)]; rfl
    rw [e, List.length_append, encX_length] at ha
    have ih := bytes_go l hl d k (i + 1) (acc ++ encX (rd_T40 l i)) (by omega) (by omega) (by rw [List.length_append, encX_length]; omega) (by omega)
    have e2 : ((acc ++ bytesOf (rd_T40 l i).f0) ++ [61] ++ bytesOf (rd_T40 l i).f1) ++ [0] = acc ++ encX (rd_T40 l i) := by
      unfold encX
      simp only [List.append_assoc]
    rw [tinderref19_bytes.l0, if_pos (by omega), if_pos h0, if_pos (by omega), Option.bind_some, if_pos (by rw [List.length_append, bytesOf_length]; omega), Option.bind_some, if_pos (by simp only [List.length_append, bytesOf_length, List.length_singleton]; omega), Option.bind_some, if_pos (by simp only [List.length_append, bytesOf_length, List.length_singleton]; omega), hw, e2, ih, e, List.append_assoc]
theorem refencode_eq (l : List S40) (hf : Fits l) (hl : l.length < 1125899906842624) (k : Nat) (hk : l.length + 140737488351400 < k) : tinderref19_Encode.f k l = some (encodeF l) := by
  unfold tinderref19_Encode.f encodeF
  rw [refright_eq l hf hl k hk, Option.bind_some]
  by_cases h : rightF l = true
  · have hs := (right_small l hf h).2
    have hb : tinderref19_bytes.f k l = some (encF l) := by
      have := bytes_go l hl l.length k 0 [] (Int.le_refl _) (by omega) (by simpa using hs) (by omega)
      unfold tinderref19_bytes.f
      simpa using this
    rw [if_pos h, if_pos h, hb, Option.bind_some]
    by_cases h2 : 248 < (encF l).length
    · rw [if_pos h2, if_pos (by omega)]
    · rw [if_neg h2, if_neg (by omega)]
  · rw [if_neg h, if_neg h]
theorem same4 (x : List Int) : tinderref04_Same.f x x = some true := by
  unfold tinderref04_Same.f
  rw [beq_self_eq_true]
theorem same19_go (l : List S40) (hl : l.length < 1125899906842624) : ∀ (d k : Nat) (i : Int), 0 ≤ i → i + d = l.length → d < k → tinderref19_Same.l0 k l l i = some true
  | 0, k, i, h0, h1, hk => by
    obtain ⟨k, rfl⟩ : ∃ m, k = m + 1 := ⟨k - 1, by omega⟩
    rw [tinderref19_Same.l0, if_neg (by omega)]
  | d + 1, k, i, h0, h1, hk => by
    obtain ⟨k, rfl⟩ : ∃ m, k = m + 1 := ⟨k - 1, by omega⟩
    have hw : wrap64 (i + 1) = i + 1 := by unfold wrap64; omega
    rw [tinderref19_Same.l0, if_pos (by omega), if_pos h0, if_pos (by omega), if_neg (by simp), hw]
    exact same19_go l hl d k (i + 1) (by omega) (by omega) (by omega)
theorem same19 (l : List S40) (hl : l.length < 1125899906842624) (k : Nat) (hk : l.length < k) : tinderref19_Same.f k l l = some true := by
  unfold tinderref19_Same.f
  rw [if_pos rfl]
  exact same19_go l hl l.length k 0 (Int.le_refl _) (by omega) hk
theorem decR_ok (m : List S40) (h : rightF m = true) : decR (some m) = (m, 0) := if_pos h
theorem decR_no (m : List S40) (h : ¬ rightF m = true) : decR (some m) = (([] : List S40), 15) := if_neg h
theorem decR_len (b : List Int) (hb : b.length ≤ 1048576) : (decR (decS [] b [])).1.length ≤ 1048576 := by
  cases h : decS [] b [] with
  | none => simp [decR]
  | some m =>
    have := (decS_fits b [] [] m (fun x hx => by cases hx) (by simp; omega) h).2
    unfold decR
    dsimp only
    split
    · simp at this ⊢; omega
    · simp
theorem cutL_first (c : Int) : ∀ (u v : List Int), (∀ a ∈ u, a ≠ c) → cutL c (u ++ c :: v) = some (u, v)
  | [], v, _ => by rw [List.nil_append, cutL, if_pos rfl]
  | x :: u, v, h => by
    rw [List.cons_append, cutL, if_neg (h x (List.mem_cons_self ..)), cutL_first c u v (fun a ha => h a (List.mem_cons_of_mem _ ha))]
    rfl
theorem decS_piece (x : S40) (hx : Clean x) (rest : List Int) (acc : List S40) : decS [] (encX x ++ rest) acc = decS [] rest (acc ++ [x]) := by
  have e : encX x ++ rest = (bytesOf x.f0 ++ 61 :: bytesOf x.f1) ++ 0 :: rest := by
    unfold encX
    simp only [List.append_assoc, List.cons_append, List.nil_append]
  have h0 : ∀ a ∈ bytesOf x.f0 ++ 61 :: bytesOf x.f1, a ≠ 0 := by
    intro a ha
    rcases List.mem_append.1 ha with ha | ha
    · exact (hx.1 a ha).1
    · rcases List.mem_cons.1 ha with rfl | ha
      · decide
      · exact hx.2.1 a ha
  rw [decS_cut, e, cutL_first 0 _ _ h0]
  dsimp only
  rw [List.nil_append, cutL_first 61 _ _ (fun a ha => (hx.1 a ha).2)]
  dsimp only
  rw [str_bytes, str_bytes]
theorem decS_enc : ∀ (l acc : List S40), (∀ x ∈ l, Clean x) → decS [] (encF l) acc = some (acc ++ l)
  | [], acc, _ => by simp [encF, decS]
  | x :: r, acc, h => by
    rw [show encF (x :: r) = encX x ++ encF r from rfl, decS_piece x (h x (List.mem_cons_self ..)), decS_enc r _ (fun y hy => h y (List.mem_cons_of_mem _ hy)), List.append_assoc]
    rfl
theorem bytesOf_B (s : ByteArray) : Bytes (bytesOf s) := by
  intro a ha
  obtain ⟨c, _, rfl⟩ := List.mem_map.1 ha
  have := c.toNat_lt
  omega
theorem Bytes_app {u v : List Int} (hu : Bytes u) (hv : Bytes v) : Bytes (u ++ v) := by
  intro a ha
  rcases List.mem_append.1 ha with ha | ha
  · exact hu a ha
  · exact hv a ha
theorem Bytes_one (c : Int) (h : 0 ≤ c ∧ c < 256) : Bytes [c] := by
  intro a ha
  obtain rfl := List.mem_singleton.1 ha
  exact h
theorem encF_B : ∀ l : List S40, Bytes (encF l)
  | [] => fun a ha => by cases ha
  | x :: r => Bytes_app (Bytes_app (Bytes_app (Bytes_app (bytesOf_B _) (Bytes_one _ (by decide))) (bytesOf_B _)) (Bytes_one _ (by decide))) (encF_B r)
theorem encF_snoc (l : List S40) (x : S40) : encF (l ++ [x]) = encF l ++ encX x := by
  unfold encF
  rw [List.map_append, List.flatten_append]
  simp
theorem decS_inv : ∀ (rest pre : List Int) (acc m : List S40), Bytes pre → Bytes rest → decS pre rest acc = some m → encF m = encF acc ++ pre ++ rest
  | [], pre, acc, m, hp, hr, h => by
    rw [decS] at h
    split at h
    · rename_i e
      obtain rfl := Option.some.inj h
      rw [e]
      simp
    · cases h
  | x :: rest, pre, acc, m, hp, hr, h => by
    have hr2 : Bytes rest := fun a ha => hr a (List.mem_cons_of_mem _ ha)
    rw [decS] at h
    split at h
    · rename_i e
      cases hc : cutL 61 pre with
      | none => rw [hc] at h; cases h
      | some p =>
        obtain ⟨u, v⟩ := p
        rw [hc] at h
        have ep := cutL_app 61 pre hc
        have hu : Bytes u := fun a ha => hp a (by rw [ep]; exact List.mem_append_left _ ha)
        have hv : Bytes v := fun a ha => hp a (by rw [ep]; exact List.mem_append_right _ (List.mem_cons_of_mem _ ha))
        rw [decS_inv rest [] _ m (fun a ha => by cases ha) hr2 h, encF_snoc, encX, bytes_str u hu, bytes_str v hv, ep, e]
        simp
    · rw [decS_inv rest (pre ++ [x]) acc m (Bytes_app hp (Bytes_one x (hr x (List.mem_cons_self ..)))) hr2 h]
      simp
theorem varsBytes_row {w : World} (ht : Tabs w) (A : Option Addr) (c : Nat) (l : List S40) (hC : Kd.C k40 w A l.length l) (hc : l.length ≤ c) (hg : l.length * 32 ≤ 140737488351232 ∧ ∀ x ∈ l, x.f0.size ≤ 140737488351232 ∧ x.f1.size ≤ 140737488351232)
    (A1 : Option Addr) (c1 : Nat) (b : List Int) (hC1 : Kd.C (Kd.int .u8) w A1 b.length b) (hc1 : b.length ≤ c1) (hg1 : b.length * 1 ≤ 140737488351232 ∧ ∀ a ∈ b, (Lit.int .u8 a).wf = true) (hb : b.length ≤ 1048576) :
    Calls Tryd.prog 7 #[.slice A l.length c, .slice A1 b.length c1] w fun e w' => e = .returned (.bool true) ∧ Below w.heap.size w w' := by
  refine tinderlaw19_VarsBytes.calls (l.length + 140737600000000) A c l A1 c1 b true w ht hC hc hC1 hc1 ?_
  have hf : Fits l := hg.2
  have hl : l.length < 1125899906842624 := by omega
  have hB : Bytes b := fun a ha => by
    have := hg1.2 a ha
    simp only [Lit.wf, Bool.and_eq_true, decide_eq_true_eq, show IntKind.u8.min = 0 from rfl, show IntKind.u8.max = 255 from rfl] at this
    omega
  have hdl := decR_len b hb
  unfold tinderlaw19_VarsBytes.f
  rw [tinderlaw19_alive.f, Option.bind_some, if_pos rfl, encode_eq l hf hl _ (by omega), Option.bind_some, refencode_eq l hf hl _ (by omega), Option.bind_some, decode_eq b hb hB _ (by omega), Option.bind_some, refdecode_eq b hb _ (by omega), Option.bind_some, same4, Option.bind_some, if_pos rfl, if_pos rfl, same19 _ (by omega) _ (by omega), Option.bind_some, if_pos rfl]
  simp
theorem back_j0 (b : List Int) (hb : b.length ≤ 1048576) (hB : Bytes b) (k : Nat) (hk : 140737500000000 < k) : tinderlaw19_VarsBack.j0 (k + 1) b = some true := by
  have hd := decode_eq b hb hB k hk
  cases h : decS [] b [] with
  | none =>
    rw [h] at hd
    rw [tinderlaw19_VarsBack.j0, hd]
    rfl
  | some m =>
    have hfm := decS_fits b [] [] m (fun x hx => by cases hx) (by simp; omega) h
    have hinv := decS_inv b [] [] m (fun a ha => by cases ha) hB h
    have hml : m.length ≤ 1048576 := by have := hfm.2; simp at this; omega
    rw [h] at hd
    by_cases hr : rightF m = true
    · rw [decR_ok m hr] at hd
      have he := encode_eq m hfm.1 (by omega) k (by omega)
      rw [encodeF, if_pos hr, show encF m = b from by rw [hinv]; simp [encF]] at he
      by_cases h2 : 248 < b.length
      · rw [if_pos h2] at he
        rw [tinderlaw19_VarsBack.j0, hd, Option.bind_some, if_pos rfl, he, Option.bind_some, if_pos (by omega)]
        rfl
      · rw [if_neg h2] at he
        rw [tinderlaw19_VarsBack.j0, hd, Option.bind_some, if_pos rfl, he, Option.bind_some, if_neg (by omega), if_pos rfl, same4]
        rfl
    · rw [decR_no m hr] at hd
      rw [tinderlaw19_VarsBack.j0, hd, Option.bind_some, if_neg (by decide)]
      rfl
theorem varsBack_row {w : World} (ht : Tabs w) (A : Option Addr) (c : Nat) (l : List S40) (hC : Kd.C k40 w A l.length l) (hc : l.length ≤ c) (hg : l.length * 32 ≤ 140737488351232 ∧ ∀ x ∈ l, x.f0.size ≤ 140737488351232 ∧ x.f1.size ≤ 140737488351232)
    (A1 : Option Addr) (c1 : Nat) (b : List Int) (hC1 : Kd.C (Kd.int .u8) w A1 b.length b) (hc1 : b.length ≤ c1) (hg1 : b.length * 1 ≤ 140737488351232 ∧ ∀ a ∈ b, (Lit.int .u8 a).wf = true) (hb : b.length ≤ 1048576) :
    Calls Tryd.prog 8 #[.slice A l.length c, .slice A1 b.length c1] w fun e w' => e = .returned (.bool true) ∧ Below w.heap.size w w' := by
  refine tinderlaw19_VarsBack.calls (l.length + 140737600000000 + 1) A c l A1 c1 b true w ht hC hc hC1 hc1 ?_
  have hf : Fits l := hg.2
  have hl : l.length < 1125899906842624 := by omega
  have hB : Bytes b := fun a ha => by
    have := hg1.2 a ha
    simp only [Lit.wf, Bool.and_eq_true, decide_eq_true_eq, show IntKind.u8.min = 0 from rfl, show IntKind.u8.max = 255 from rfl] at this
    omega
  have hj := back_j0 b hb hB (l.length + 140737600000000) (by omega)
  have he := encode_eq l hf hl (l.length + 140737600000000 + 1) (by omega)
  unfold encodeF at he
  unfold tinderlaw19_VarsBack.f
  by_cases hr : rightF l = true
  · rw [if_pos hr] at he
    by_cases h2 : 248 < (encF l).length
    · rw [if_pos h2] at he
      rw [tinderlaw19_alive.f, Option.bind_some, if_pos rfl, he, Option.bind_some, if_neg (by decide)]
      exact hj
    · rw [if_neg h2] at he
      have hcl := (right_small l hf hr).1
      have hd := decode_eq (encF l) (by omega) (encF_B l) (l.length + 140737600000000 + 1) (by omega)
      rw [decS_enc l [] hcl, List.nil_append, decR_ok l hr] at hd
      rw [tinderlaw19_alive.f, Option.bind_some, if_pos rfl, he, Option.bind_some, if_pos rfl, hd, Option.bind_some, if_pos rfl, same19 l hl _ (by omega), Option.bind_some, if_pos rfl]
      exact hj
  · rw [if_neg hr] at he
    rw [tinderlaw19_alive.f, Option.bind_some, if_pos rfl, he, Option.bind_some, if_neg (by decide)]
    exact hj
end Go.Proofs.YtefhngadeimklaaDoor.Q
end
section
namespace Go.Proofs.YtefhngadeimklaaDoor.Q
open Go.RowKit Go.Proofs.YtefhngadeimklaaDoorW.PrintWords Go.Proofs.YtefhngadeimklaaDoorW.PrintLast Go.Proofs.YtefhngadeimklaaDoorW.PrintMore
def Opens {α : Type} (P : Program) (t : TypeId) (d : Kd α) (G : α → Prop) : Prop :=
  ∀ (H : Type) (enc : TypeId × Value → H) (W : World) (fuel : Nat) (cs : List Value) (x : DataW H × List MemPlace), DataW.trod enc P W 0 (fun _ => true) true fuel t cs = some x → (∀ n ∈ x.1.weights P t, n ≤ reachBytes) → ∃ a, d.K W a cs ∧ G a
section
variable {P : Program} {t e : TypeId}
theorem opens_int {k : IntKind} (ht : P.underlying t = some (.int k)) : Opens P t (Kd.int k) (fun n => (Lit.int k n).wf = true) := by
  intro H enc W fuel cs x h _
  obtain ⟨n, rfl, _, hw⟩ := DataW.trod_int ht h
  exact ⟨n, rfl, hw⟩
theorem opens_bool (ht : P.underlying t = some .bool) : Opens P t Kd.bool (fun _ => True) := by
  intro H enc W fuel cs x h _
  obtain ⟨b, rfl, _⟩ := DataW.trod_bool ht h
  exact ⟨b, rfl, trivial⟩
theorem opens_string (ht : P.underlying t = some .string) : Opens P t Kd.string (fun s => s.size ≤ 140737488351232) := by
  intro H enc W fuel cs x h hw
  obtain ⟨s, rfl, rfl, _⟩ := DataW.trod_string ht h
  have := hw s.data.toList.length (by simp [DataW.weights])
  exact ⟨s, rfl, by simpa [reachBytes] using this⟩
theorem weights_all {H : Type} {P : Program} {e : TypeId} : ∀ {l : List (DataW H)} {d : DataW H}, d ∈ l → ∀ n ∈ d.weights P e, n ∈ DataW.weightsAll P e l
  | d0 :: l, d, hd, n, hn => by
    simp only [DataW.weightsAll, List.mem_append]
    rcases List.mem_cons.1 hd with rfl | hd
    · exact .inl hn
    · exact .inr (weights_all hd n hn)
theorem cells_get {W : World} {base : Nat} {a : Addr} {n : Nat} {c : List Value} (h : W.cells? base a n = some c) : c.length = n ∧ ∀ i u, c[i]? = some u → W.cell? (a.add i) = some u := by
  unfold World.cells? at h
  split at h
  · have hl := mapM_some_length h
    refine ⟨by simpa using hl, fun i u hu => ?_⟩
    have hi : i < n := by
      have := (List.getElem?_eq_some_iff.1 hu).1
      simp at hl
      omega
    have := mapM_some_get h i i (by simp [hi])
    rw [this, hu]
  · cases h
theorem opens_slice {α : Type} {d : Kd α} {G : α → Prop} (ht : P.underlying t = some (.slice e)) (hc : P.cellsOf e = d.sz) (b : Nat) (hb : P.bytesOf e = b) (he : Opens P e d G) :
    Opens P t (Kd.slice e d) (fun xs => xs.length * b ≤ 140737488351232 ∧ ∀ a ∈ xs, G a) := by
  intro H enc W fuel cs x h hw
  rcases DataW.trod_slice ht h with ⟨rfl, _⟩ | ⟨a, len, cap, elems, rest, n, _, rfl, rfl, _, hl, hm, hlen, hel, _⟩
  · exact ⟨[], ⟨none, 0, rfl, Nat.le_refl _, Kd.C_nil d W⟩, by simp, fun a h => by cases h⟩
  · have hwt : (elems.length + rest.length) * b ≤ 140737488351232 := by
      have := hw ((elems.length + rest.length) * P.bytesOf e) (by simp [DataW.weights, ht])
      rw [hb] at this
      simpa [reachBytes] using this
    have hall : ∀ i : Fin len, ∃ p : α, ∃ c, c.length = d.sz ∧ d.K W p c ∧ G p ∧ ∀ j u, c[j]? = some u → W.cell? (a.add (i.1 * d.sz + j)) = some u := by
      intro i
      have hi : i.1 < elems.length := by have := i.2; omega
      have h1 := hel i.1 i.2
      rw [List.getElem?_eq_getElem hi] at h1
      obtain ⟨c, hcs, htr⟩ := Option.bind_eq_some_iff.1 h1
      obtain ⟨hcl, hcg⟩ := cells_get hcs
      obtain ⟨p, hK, hG⟩ := he H enc W n c _ htr (fun m hm => hw m (by
        simp only [DataW.weights, ht, List.mem_cons, List.mem_append]
        exact .inr (.inl (weights_all (List.mem_map.2 ⟨_, List.getElem_mem hi, rfl⟩) m hm))))
      refine ⟨p, c, by rw [hcl, hc], hK, hG, fun j u hu => ?_⟩
      have := hcg j u hu
      rw [add_add, hc] at this
      exact this
    refine ⟨List.ofFn fun i => Classical.choose (hall i), ⟨some a, cap, by simp, by simpa using hl, by simp, by simp only [maxLen] at hm; simp; omega, fun _ => ⟨a, rfl, fun j p hj => ?_⟩⟩, ?_, ?_⟩
    · obtain ⟨hjl, hjp⟩ := List.getElem?_eq_some_iff.1 hj
      simp only [List.length_ofFn] at hjl
      have h2 := Classical.choose_spec (hall ⟨j, hjl⟩)
      rw [List.getElem_ofFn] at hjp
      rw [hjp] at h2
      obtain ⟨c, h3, h4, _, h6⟩ := h2
      exact ⟨c, h3, h4, h6⟩
    · rw [List.length_ofFn]
      refine Nat.le_trans (Nat.mul_le_mul_right b ?_) hwt
      omega
    · intro p hp
      obtain ⟨i, rfl⟩ := (List.mem_ofFn).1 hp
      obtain ⟨_, _, _, h5, _⟩ := Classical.choose_spec (hall i)
      exact h5
/-- The fields of a struct from one on, one behind the other. -/
def OpensFields {α : Type} (P : Program) (fs : List Field) (off : Nat) (d : Kd α) (G : α → Prop) : Prop :=
  ∀ (H : Type) (enc : TypeId × Value → H) (W : World) (fuel : Nat) (cs : List Value) (xs : List (DataW H × List MemPlace)), off + d.sz = cs.length → xs.length = fs.length →
    (∀ (i : Nat) (f : Field), fs[i]? = some f → DataW.trod enc P W 0 (fun _ => true) true fuel f.type ((cs.drop f.offset).take (P.cellsOf f.type)) = xs[i]?) →
    (∀ n ∈ DataW.weightsEach P (fs.map (·.type)) (xs.map (·.1)), n ≤ reachBytes) → ∃ a, d.K W a (cs.drop off) ∧ G a
theorem opens_one {α : Type} {d : Kd α} {G : α → Prop} {f : Field} {off : Nat} (ho : f.offset = off) (hc : P.cellsOf f.type = d.sz) (he : Opens P f.type d G) : OpensFields P [f] off d G := by
  intro H enc W fuel cs xs hl hx hf hw
  match xs, hx with
  | [x], _ =>
    have h0 := hf 0 f rfl
    rw [ho, hc, List.take_of_length_le (by rw [List.length_drop]; omega)] at h0
    exact he H enc W fuel _ x h0 (fun n hn => hw n (by simpa [DataW.weightsEach] using hn))
theorem opens_more {α β : Type} {d : Kd α} {d2 : Kd β} {G : α → Prop} {G2 : β → Prop} {f : Field} {fs : List Field} {off : Nat} (ho : f.offset = off) (hc : P.cellsOf f.type = d.sz) (he : Opens P f.type d G) (hs : OpensFields P fs (off + d.sz) d2 G2) :
    OpensFields P (f :: fs) off (Kd.pair d d2) (fun p => G p.1 ∧ G2 p.2) := by
  intro H enc W fuel cs xs hl hx hf hw
  have hl' : off + (d.sz + d2.sz) = cs.length := hl
  match xs, hx with
  | x :: xs, hx =>
    have h0 := hf 0 f rfl
    rw [ho, hc] at h0
    obtain ⟨a, h1, h2⟩ := he H enc W fuel _ x h0 (fun n hn => hw n (by simp only [List.map_cons, DataW.weightsEach, List.mem_append]; exact .inl hn))
    obtain ⟨b, h3, h4⟩ := hs H enc W fuel cs xs (by omega) (by simpa using hx) (fun i g hg => by simpa using hf (i + 1) g (by simpa using hg)) (fun n hn => hw n (by simp only [List.map_cons, DataW.weightsEach, List.mem_append]; exact .inr hn))
    refine ⟨(a, b), ⟨_, _, ?_, h1, h3⟩, h2, h4⟩
    rw [← List.drop_drop, List.take_append_drop]
theorem opens_struct {α : Type} {d : Kd α} {G : α → Prop} {fs : Array Field} (ht : P.underlying t = some (.struct fs)) (hc : P.cellsOf t = d.sz) (hf : OpensFields P fs.toList 0 d G) : Opens P t d G := by
  intro H enc W fuel cs x h hw
  obtain ⟨xs, n, _, rfl, hl, hlen, hg⟩ := DataW.trod_struct ht h
  have := hf H enc W n cs xs (by omega) (by simpa using hlen) (fun i f hi => hg i f (by simpa using hi)) (fun m hm => hw m (by simpa [DataW.weights, ht] using hm))
  simpa using this
theorem opens_iso {α β : Type} {d : Kd α} {G : α → Prop} (f : β → α) (g : α → β) (hfg : ∀ a, f (g a) = a) (h : Opens P t d G) : Opens P t (Kd.iso d f) (fun b => G (f b)) := by
  intro H enc W fuel cs x hx hw
  obtain ⟨a, h1, h2⟩ := h H enc W fuel cs x hx hw
  exact ⟨g a, by show d.K W (f (g a)) cs; rw [hfg]; exact h1, by show G (f (g a)); rw [hfg]; exact h2⟩
/-- An array's elements, one behind the other. -/
theorem opens_array {α : Type} {d : Kd α} {G : α → Prop} {n : Nat} (ht : P.underlying t = some (.array n e)) (hc : P.cellsOf e = d.sz) (hct : P.cellsOf t = n * d.sz) (he : Opens P e d G)
    {H : Type} (enc : TypeId × Value → H) (W : World) (fuel : Nat) (cs : List Value) (x : DataW H × List MemPlace) (h : DataW.trod enc P W 0 (fun _ => true) true fuel t cs = some x) (hw : ∀ m ∈ x.1.weights P t, m ≤ reachBytes) :
    ∃ xs : List α, xs.length = n ∧ Reps (d.K W) d.sz xs cs ∧ ∀ a ∈ xs, G a := by
  obtain ⟨ys, m, _, rfl, hl, hlen, hg⟩ := DataW.trod_array ht h
  have hall : ∀ i : Fin n, ∃ p : α, d.K W p ((cs.drop (i.1 * d.sz)).take d.sz) ∧ G p := by
    intro i
    have hi : i.1 < ys.length := by have := i.2; omega
    have h1 := hg i.1 i.2
    rw [List.getElem?_eq_getElem hi, hc] at h1
    exact he H enc W m _ _ h1 (fun k hk => hw k (by
      simp only [DataW.weights, ht]
      exact weights_all (List.mem_map.2 ⟨_, List.getElem_mem hi, rfl⟩) k hk))
  refine ⟨List.ofFn fun i => Classical.choose (hall i), by simp, ⟨by rw [hl, hct, List.length_ofFn], fun j p hj => ?_⟩, fun p hp => ?_⟩
  · obtain ⟨hjl, hjp⟩ := List.getElem?_eq_some_iff.1 hj
    simp only [List.length_ofFn] at hjl
    have h2 := Classical.choose_spec (hall ⟨j, hjl⟩)
    rw [List.getElem_ofFn] at hjp
    rw [hjp] at h2
    exact h2.1
  · obtain ⟨i, rfl⟩ := (List.mem_ofFn).1 hp
    exact (Classical.choose_spec (hall i)).2
theorem okWide_array {W : World} {r : Reach} {b0 n : Nat} {v : Value} (ht : P.underlying t = some (.array n e)) (h : Value.okWide P W r b0 t v) : ∃ cs, v = .agg cs := by
  simp only [Value.okWide, ht] at h
  obtain ⟨cs, h1, _, _⟩ := h
  exact ⟨cs, h1⟩
theorem weights_each {H : Type} {P : Program} {ts : List TypeId} {ds : List (DataW H)} (h : (DataW.weightsEach P ts ds).all (· ≤ reachBytes) = true) {j : Nat} {t : TypeId} {d : DataW H} (ht : ts[j]? = some t) (hd : ds[j]? = some d) : ∀ n ∈ d.weights P t, n ≤ reachBytes := fun n hn => by
  simpa using List.all_eq_true.1 h _ (DataW.weights_mem_each ht hd n hn)
end
end Go.Proofs.YtefhngadeimklaaDoor.Q
end
