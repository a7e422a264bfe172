/- What Go functions of this program answer, as plain Lean functions, and that the calls answer so, wherever the plain function has an answer. Written by a program of this claim's own out of the translation. -/
import Derived.Test.YthlpdjnfcjpbpaaDoorQ0
import Derived.Test.YthlpdjnfcjpbpaaDoorQTinderref02Parse
import Derived.Test.YthlpdjnfcjpbpaaDoorQTinderref02Small
namespace Go.Proofs.YthlpdjnfcjpbpaaDoor.Q
open Go.RowKit Go.Proofs.YthlpdjnfcjpbpaaDoorW.PrintWords Go.Proofs.YthlpdjnfcjpbpaaDoorW.PrintLast Go.Proofs.YthlpdjnfcjpbpaaDoorW.PrintMore
set_option linter.unusedVariables false
set_option linter.unusedSimpArgs false

attribute [local go_sem] max2_int min2_int max_two min_two max_three min_three max_four min_four
/-! ### tinderref02_Literal: function 19 -/
def tinderref02_Literal.j0 : Nat → ByteArray → Int → Bool → Option (Int × Bool)
  | 0, _, _, _ => none
  | k + 1, x0, x4, x14 => if x14 = true then (if 0 < (x0.size : Int) then ((tinderref02_Small.f (bt x0 0)).bind fun t20001 => (if t20001 = 104 then (if 2 ≤ (x0.size : Int) then ((tinderref02_Parse.f k (x0.extract 2 x0.size) 16).bind fun bt20002 => (some (bt20002.1, (bt20002.2 == 0)))) else (none)) else (if t20001 = 111 then (if 2 ≤ (x0.size : Int) then ((tinderref02_Parse.f k (x0.extract 2 x0.size) 8).bind fun bt20004 => (some (bt20004.1, (bt20004.2 == 0)))) else (none)) else (if t20001 = 98 then (if 2 ≤ (x0.size : Int) then ((tinderref02_Parse.f k (x0.extract 2 x0.size) 2).bind fun bt20006 => (some (bt20006.1, (bt20006.2 == 0)))) else (none)) else (if t20001 = 100 then (if 2 ≤ (x0.size : Int) then ((tinderref02_Parse.f k (x0.extract 2 x0.size) 10).bind fun bt20008 => (some (bt20008.1, (bt20008.2 == 0)))) else (none)) else (some (0, false))))))) else (none)) else ((tinderref02_Parse.f k x0 x4).bind fun bt20010 => (some (bt20010.1, (bt20010.2 == 0))))
def tinderref02_Literal.f (k : Nat) (a0 : ByteArray) : Option (Int × Bool) := if (a0.size : Int) > 2 then (if 1 < (a0.size : Int) then (tinderref02_Literal.j0 k a0 10 ((bt a0 1) == 35)) else (none)) else (tinderref02_Literal.j0 k a0 10 false)
theorem tinderref02_Literal.mono_l : ∀ k, (∀ y0 y1 y2, LeO (tinderref02_Literal.j0 k y0 y1 y2) (tinderref02_Literal.j0 (k + 1) y0 y1 y2))
  | 0 => fun _ _ _ r h => by simp [tinderref02_Literal.j0] at h
  | k + 1 => by
    have ih0 := tinderref02_Literal.mono_l k
    · intro y0 y1 y2
      unfold tinderref02_Literal.j0
      repeat' first
      | (with_reducible exact ih0 _ _ _)
      | (with_reducible exact tinderref02_Parse.mono _ _ _)
      | (with_reducible exact LeO.refl _)
      | (with_reducible exact LeO.none _)
      | (with_reducible refine LeO.ite ?_ ?_)
      | (with_reducible refine LeO.bind ?_ (fun _ => ?_))
      | exact ih0 _ _ _
      | exact tinderref02_Parse.mono _ _ _
      | exact LeO.none _
      | refine LeO.ite ?_ ?_
      | refine LeO.bind ?_ (fun _ => ?_)
theorem tinderref02_Literal.mono : ∀ a0 k, LeO (tinderref02_Literal.f k a0) (tinderref02_Literal.f (k + 1) a0) := by
  intro a0 k
  have ih0 := tinderref02_Literal.mono_l k
  unfold tinderref02_Literal.f
  repeat' first
      | (with_reducible exact ih0 _ _ _)
      | (with_reducible exact tinderref02_Parse.mono _ _ _)
      | (with_reducible exact LeO.refl _)
      | (with_reducible exact LeO.none _)
      | (with_reducible refine LeO.ite ?_ ?_)
      | (with_reducible refine LeO.bind ?_ (fun _ => ?_))
      | exact ih0 _ _ _
      | exact tinderref02_Parse.mono _ _ _
      | exact LeO.none _
      | refine LeO.ite ?_ ?_
      | refine LeO.bind ?_ (fun _ => ?_)
set_option maxHeartbeats 8000000 in
set_option maxRecDepth 100000 in
theorem tinderref02_Literal.calls (k : Nat) (a0 : ByteArray) (r1 : Int) (r2 : Bool) (w : World) (h : tinderref02_Literal.f k a0 = some (r1, r2)) :
    Calls Tryd.prog 19 #[.string a0] w fun e w' => e = .returned (.tuple #[.int .u32 r1, .bool r2]) ∧ Drawn0 w w' := by
  have H : (if (a0.size : Int) > 2 then (if 1 < (a0.size : Int) then (tinderref02_Literal.j0 k a0 10 ((bt a0 1) == 35)) else (none)) else (tinderref02_Literal.j0 k a0 10 false)) = some (r1, r2) := h
  clear h
  have HC2 := Aside0.mk H
  clear H
  go_enter Tryd.func19, Tryd.ntmps19
  go_upto_region 2 with (fail)
  go_cut [14] (fun v14 wc => ∃ (kq : Nat) (x14_1 : Bool), v14 = .bool x14_1 ∧ Aside0 (tinderref02_Literal.j0 kq a0 10 x14_1 = some (r1, r2)) ∧ Aside0 (kq ≤ k) ∧ Drawn0 w wc)
  case first =>
    have H := HC2.out
    clear HC2
    by_cases c3 : (a0.size : Int) > 2
    · rw [if_pos c3] at H
      have c3b0 : decide (2 < (a0.size : Int)) = true := decide_eq_true c3
      have c3b1 : decide (2 < a0.size) = true := decide_eq_true (by omega)
      clear c3
      (first | rw [c3b0] | (simp only [i64_w, i32_w]; rw [c3b0]) | skip)
      by_cases c4 : 1 < (a0.size : Int)
      · rw [if_pos c4] at H
        have c4b0 : decide (1 < (a0.size : Int)) = true := decide_eq_true c4
        have c4b1 : decide (1 < a0.size) = true := decide_eq_true (by omega)
        clear c4
        have H' := Aside0.mk H
        clear H
        have p5 : 0 ≤ (1 : Int) := (by omega)
        have q5 : 1 < a0.size := (by have : (1 : Int) < (a0.size : Int) := of_decide_eq_true (by first | (with_reducible assumption) | assumption); omega)
        have hx5 : ∀ h : 1 < a0.size, ((a0[1]'h).toNat : Int) = bt a0 1 := bt_at a0 1
        clear p5
        have qi5 : (1 < (a0.size : Int)) = True := eq_true (of_decide_eq_true (by first | (with_reducible assumption) | assumption))
        replace q5 := eq_true q5
        go_wp2
        go_meet
        case rel => exact ⟨_, (((bt a0 1) == 35)), (by first | rfl | (simp; done) | (simp [*]; done)), H', ⟨by first | omega | exact Nat.le_refl _⟩, by repeat (first | exact Drawn0.refl _ | apply Drawn0.step)⟩
      · rw [if_neg c4] at H
        exact absurd H (by simp)
    · rw [if_neg c3] at H
      have c3b0 : decide (2 < (a0.size : Int)) = false := decide_eq_false c3
      have c3b1 : decide (2 < a0.size) = false := decide_eq_false (by omega)
      clear c3
      (first | rw [c3b0] | (simp only [i64_w, i32_w]; rw [c3b0]) | skip)
      have H' := Aside0.mk H
      clear H
      go_wp2
      go_meet
      case rel => exact ⟨_, (false), (by first | rfl | (simp; done) | (simp [*]; done)), H', ⟨by first | omega | exact Nat.le_refl _⟩, by repeat (first | exact Drawn0.refl _ | apply Drawn0.step)⟩
  case rest =>
    clear HC2
    try clear c1
    try clear p2
    try clear c3
    try clear c3b0
    try clear c3b1
    try clear c4
    try clear c4b0
    try clear c4b1
    try clear p5
    try clear q5
    try clear hx5
    try clear qi5
    try clear p5
    try clear q5
    obtain ⟨kq, x14_1, rfl, HA, HJ1, ⟨mc1, rfl⟩⟩ := hcut
    cases kq with
    | zero => exact absurd HA.out (by simp [tinderref02_Literal.j0])
    | succ kj1 =>
      have H := HA.out
      clear HA
      simp only [tinderref02_Literal.j0] at H
      by_cases c6 : x14_1 = true
      · subst c6
        have H1 : (if 0 < (a0.size : Int) then ((tinderref02_Small.f (bt a0 0)).bind fun t20001 => (if t20001 = 104 then (if 2 ≤ (a0.size : Int) then ((tinderref02_Parse.f kj1 (a0.extract 2 a0.size) 16).bind fun bt20002 => (some (bt20002.1, (bt20002.2 == 0)))) else (none)) else (if t20001 = 111 then (if 2 ≤ (a0.size : Int) then ((tinderref02_Parse.f kj1 (a0.extract 2 a0.size) 8).bind fun bt20004 => (some (bt20004.1, (bt20004.2 == 0)))) else (none)) else (if t20001 = 98 then (if 2 ≤ (a0.size : Int) then ((tinderref02_Parse.f kj1 (a0.extract 2 a0.size) 2).bind fun bt20006 => (some (bt20006.1, (bt20006.2 == 0)))) else (none)) else (if t20001 = 100 then (if 2 ≤ (a0.size : Int) then ((tinderref02_Parse.f kj1 (a0.extract 2 a0.size) 10).bind fun bt20008 => (some (bt20008.1, (bt20008.2 == 0)))) else (none)) else (some (0, false))))))) else (none)) = some (r1, r2) := by rw [if_pos rfl] at H; exact H
        clear H
        have H := H1
        clear H1
        by_cases c7 : 0 < (a0.size : Int)
        · rw [if_pos c7] at H
          have c7b0 : decide (0 < (a0.size : Int)) = true := decide_eq_true c7
          have c7b1 : decide (0 < a0.size) = true := decide_eq_true (by omega)
          clear c7
          replace H := Option.bind_eq_some_iff.mp H
          obtain ⟨t20001, A90, H⟩ := H
          replace H : (if t20001 = 104 then (if 2 ≤ (a0.size : Int) then ((tinderref02_Parse.f kj1 (a0.extract 2 a0.size) 16).bind fun bt20002 => (some (bt20002.1, (bt20002.2 == 0)))) else (none)) else (if t20001 = 111 then (if 2 ≤ (a0.size : Int) then ((tinderref02_Parse.f kj1 (a0.extract 2 a0.size) 8).bind fun bt20004 => (some (bt20004.1, (bt20004.2 == 0)))) else (none)) else (if t20001 = 98 then (if 2 ≤ (a0.size : Int) then ((tinderref02_Parse.f kj1 (a0.extract 2 a0.size) 2).bind fun bt20006 => (some (bt20006.1, (bt20006.2 == 0)))) else (none)) else (if t20001 = 100 then (if 2 ≤ (a0.size : Int) then ((tinderref02_Parse.f kj1 (a0.extract 2 a0.size) 10).bind fun bt20008 => (some (bt20008.1, (bt20008.2 == 0)))) else (none)) else (some (0, false)))))) = some (r1, r2) := H
          have A9 := Aside0.mk A90
          clear A90
          by_cases c10 : t20001 = 104
          · rw [if_pos c10] at H
            have c10b0 : (t20001 == 104) = true := beq_iff_eq.mpr c10
            have c10b1 : (t20001 != 104) = false := bne_eq_false_iff_eq.mpr c10
            clear c10
            by_cases c11 : 2 ≤ (a0.size : Int)
            · rw [if_pos c11] at H
              have c11b0 := eq_true c11
              have c11b1 : decide (2 ≤ (a0.size : Int)) = true := decide_eq_true c11
              clear c11
              replace H := Option.bind_eq_some_iff.mp H
              obtain ⟨⟨t20002, t20003⟩, A120, H⟩ := H
              replace H : (some (t20002, (t20003 == 0))) = some (r1, r2) := H
              have A12 := Aside0.mk A120
              clear A120
              simp only [Option.some.injEq, Prod.mk.injEq] at H
              obtain ⟨rfl, rfl⟩ := H
              have p8 : 0 ≤ (0 : Int) := (by omega)
              have q8 : 0 < a0.size := (by have : (0 : Int) < (a0.size : Int) := of_decide_eq_true (by first | (with_reducible assumption) | assumption); omega)
              have hx8 : ∀ h : 0 < a0.size, ((a0[0]'h).toNat : Int) = bt a0 0 := bt_at a0 0
              clear p8
              have qi8 : (0 < (a0.size : Int)) = True := eq_true (of_decide_eq_true (by first | (with_reducible assumption) | assumption))
              replace q8 := eq_true q8
              go_wp2_with (first | ((with_reducible refine gate_callee (f := 23) rfl ?_); refine goesL_ (some 17) rfl rfl Tryd.func23 (by kernel_rfl) rfl #[.int .u8 (bt a0 0)] rfl (by (try simp only [List.map_toArray, List.map_cons, List.map_nil]); first | done | rfl | (simp only [List.length_drop, List.length_take]; rfl)) ?_; (with_reducible refine (tinderref02_Small.calls (bt a0 0) t20001 _ A9.out).mono ?_); rintro e w' ⟨rfl, ⟨nd, rfl⟩⟩; refine ⟨_, rfl, ?_⟩) | ((with_reducible refine gate_callee (f := 13) rfl ?_); refine goesL_ (some 31) rfl rfl Tryd.func13 (by kernel_rfl) rfl #[.string (a0.extract 2 a0.size), .int .u32 16] rfl (by (try simp only [List.map_toArray, List.map_cons, List.map_nil]); first | done | rfl | (simp only [List.length_drop, List.length_take]; rfl)) ?_; (with_reducible refine (tinderref02_Parse.calls kj1 (a0.extract 2 a0.size) 16 t20002 t20003 _ A12.out).mono ?_); rintro e w' ⟨rfl, ⟨nd, rfl⟩⟩; refine ⟨_, rfl, ?_⟩))
              go_ret2
              exact ⟨by first | rfl | (simp; done) | (simp [*]; done), by repeat (first | exact Drawn0.refl _ | apply Drawn0.step)⟩
            · rw [if_neg c11] at H
              exact absurd H (by simp)
          · rw [if_neg c10] at H
            have c10b0 : (t20001 == 104) = false := beq_eq_false_iff_ne.mpr c10
            have c10b1 : (t20001 != 104) = true := bne_iff_ne.mpr c10
            by_cases c13 : t20001 = 111
            · rw [if_pos c13] at H
              have c13b0 : (t20001 == 111) = true := beq_iff_eq.mpr c13
              have c13b1 : (t20001 != 111) = false := bne_eq_false_iff_eq.mpr c13
              clear c13
              by_cases c14 : 2 ≤ (a0.size : Int)
              · rw [if_pos c14] at H
                have c14b0 := eq_true c14
                have c14b1 : decide (2 ≤ (a0.size : Int)) = true := decide_eq_true c14
                clear c14
                replace H := Option.bind_eq_some_iff.mp H
                obtain ⟨⟨t20004, t20005⟩, A150, H⟩ := H
                replace H : (some (t20004, (t20005 == 0))) = some (r1, r2) := H
                have A15 := Aside0.mk A150
                clear A150
                simp only [Option.some.injEq, Prod.mk.injEq] at H
                obtain ⟨rfl, rfl⟩ := H
                have p8 : 0 ≤ (0 : Int) := (by omega)
                have q8 : 0 < a0.size := (by have : (0 : Int) < (a0.size : Int) := of_decide_eq_true (by first | (with_reducible assumption) | assumption); omega)
                have hx8 : ∀ h : 0 < a0.size, ((a0[0]'h).toNat : Int) = bt a0 0 := bt_at a0 0
                clear p8
                have qi8 : (0 < (a0.size : Int)) = True := eq_true (of_decide_eq_true (by first | (with_reducible assumption) | assumption))
                replace q8 := eq_true q8
                go_wp2_with (first | ((with_reducible refine gate_callee (f := 23) rfl ?_); refine goesL_ (some 17) rfl rfl Tryd.func23 (by kernel_rfl) rfl #[.int .u8 (bt a0 0)] rfl (by (try simp only [List.map_toArray, List.map_cons, List.map_nil]); first | done | rfl | (simp only [List.length_drop, List.length_take]; rfl)) ?_; (with_reducible refine (tinderref02_Small.calls (bt a0 0) t20001 _ A9.out).mono ?_); rintro e w' ⟨rfl, ⟨nd, rfl⟩⟩; refine ⟨_, rfl, ?_⟩) | ((with_reducible refine gate_callee (f := 13) rfl ?_); refine goesL_ (some 31) rfl rfl Tryd.func13 (by kernel_rfl) rfl #[.string (a0.extract 2 a0.size), .int .u32 8] rfl (by (try simp only [List.map_toArray, List.map_cons, List.map_nil]); first | done | rfl | (simp only [List.length_drop, List.length_take]; rfl)) ?_; (with_reducible refine (tinderref02_Parse.calls kj1 (a0.extract 2 a0.size) 8 t20004 t20005 _ A15.out).mono ?_); rintro e w' ⟨rfl, ⟨nd, rfl⟩⟩; refine ⟨_, rfl, ?_⟩))
                go_ret2
                exact ⟨by first | rfl | (simp; done) | (simp [*]; done), by repeat (first | exact Drawn0.refl _ | apply Drawn0.step)⟩
              · rw [if_neg c14] at H
                exact absurd H (by simp)
            · rw [if_neg c13] at H
              have c13b0 : (t20001 == 111) = false := beq_eq_false_iff_ne.mpr c13
              have c13b1 : (t20001 != 111) = true := bne_iff_ne.mpr c13
              by_cases c16 : t20001 = 98
              · rw [if_pos c16] at H
                have c16b0 : (t20001 == 98) = true := beq_iff_eq.mpr c16
                have c16b1 : (t20001 != 98) = false := bne_eq_false_iff_eq.mpr c16
                clear c16
                by_cases c17 : 2 ≤ (a0.size : Int)
                · rw [if_pos c17] at H
                  have c17b0 := eq_true c17
                  have c17b1 : decide (2 ≤ (a0.size : Int)) = true := decide_eq_true c17
                  clear c17
                  replace H := Option.bind_eq_some_iff.mp H
                  obtain ⟨⟨t20006, t20007⟩, A180, H⟩ := H
                  replace H : (some (t20006, (t20007 == 0))) = some (r1, r2) := H
                  have A18 := Aside0.mk A180
                  clear A180
                  simp only [Option.some.injEq, Prod.mk.injEq] at H
                  obtain ⟨rfl, rfl⟩ := H
                  have p8 : 0 ≤ (0 : Int) := (by omega)
                  have q8 : 0 < a0.size := (by have : (0 : Int) < (a0.size : Int) := of_decide_eq_true (by first | (with_reducible assumption) | assumption); omega)
                  have hx8 : ∀ h : 0 < a0.size, ((a0[0]'h).toNat : Int) = bt a0 0 := bt_at a0 0
                  clear p8
                  have qi8 : (0 < (a0.size : Int)) = True := eq_true (of_decide_eq_true (by first | (with_reducible assumption) | assumption))
                  replace q8 := eq_true q8
                  go_wp2_with (first | ((with_reducible refine gate_callee (f := 23) rfl ?_); refine goesL_ (some 17) rfl rfl Tryd.func23 (by kernel_rfl) rfl #[.int .u8 (bt a0 0)] rfl (by (try simp only [List.map_toArray, List.map_cons, List.map_nil]); first | done | rfl | (simp only [List.length_drop, List.length_take]; rfl)) ?_; (with_reducible refine (tinderref02_Small.calls (bt a0 0) t20001 _ A9.out).mono ?_); rintro e w' ⟨rfl, ⟨nd, rfl⟩⟩; refine ⟨_, rfl, ?_⟩) | ((with_reducible refine gate_callee (f := 13) rfl ?_); refine goesL_ (some 31) rfl rfl Tryd.func13 (by kernel_rfl) rfl #[.string (a0.extract 2 a0.size), .int .u32 2] rfl (by (try simp only [List.map_toArray, List.map_cons, List.map_nil]); first | done | rfl | (simp only [List.length_drop, List.length_take]; rfl)) ?_; (with_reducible refine (tinderref02_Parse.calls kj1 (a0.extract 2 a0.size) 2 t20006 t20007 _ A18.out).mono ?_); rintro e w' ⟨rfl, ⟨nd, rfl⟩⟩; refine ⟨_, rfl, ?_⟩))
                  go_ret2
                  exact ⟨by first | rfl | (simp; done) | (simp [*]; done), by repeat (first | exact Drawn0.refl _ | apply Drawn0.step)⟩
                · rw [if_neg c17] at H
                  exact absurd H (by simp)
              · rw [if_neg c16] at H
                have c16b0 : (t20001 == 98) = false := beq_eq_false_iff_ne.mpr c16
                have c16b1 : (t20001 != 98) = true := bne_iff_ne.mpr c16
                by_cases c19 : t20001 = 100
                · rw [if_pos c19] at H
                  have c19b0 : (t20001 == 100) = true := beq_iff_eq.mpr c19
                  have c19b1 : (t20001 != 100) = false := bne_eq_false_iff_eq.mpr c19
                  clear c19
                  by_cases c20 : 2 ≤ (a0.size : Int)
                  · rw [if_pos c20] at H
                    have c20b0 := eq_true c20
                    have c20b1 : decide (2 ≤ (a0.size : Int)) = true := decide_eq_true c20
                    clear c20
                    replace H := Option.bind_eq_some_iff.mp H
                    obtain ⟨⟨t20008, t20009⟩, A210, H⟩ := H
                    replace H : (some (t20008, (t20009 == 0))) = some (r1, r2) := H
                    have A21 := Aside0.mk A210
                    clear A210
                    simp only [Option.some.injEq, Prod.mk.injEq] at H
                    obtain ⟨rfl, rfl⟩ := H
                    have p8 : 0 ≤ (0 : Int) := (by omega)
                    have q8 : 0 < a0.size := (by have : (0 : Int) < (a0.size : Int) := of_decide_eq_true (by first | (with_reducible assumption) | assumption); omega)
                    have hx8 : ∀ h : 0 < a0.size, ((a0[0]'h).toNat : Int) = bt a0 0 := bt_at a0 0
                    clear p8
                    have qi8 : (0 < (a0.size : Int)) = True := eq_true (of_decide_eq_true (by first | (with_reducible assumption) | assumption))
                    replace q8 := eq_true q8
                    go_wp2_with (first | ((with_reducible refine gate_callee (f := 23) rfl ?_); refine goesL_ (some 17) rfl rfl Tryd.func23 (by kernel_rfl) rfl #[.int .u8 (bt a0 0)] rfl (by (try simp only [List.map_toArray, List.map_cons, List.map_nil]); first | done | rfl | (simp only [List.length_drop, List.length_take]; rfl)) ?_; (with_reducible refine (tinderref02_Small.calls (bt a0 0) t20001 _ A9.out).mono ?_); rintro e w' ⟨rfl, ⟨nd, rfl⟩⟩; refine ⟨_, rfl, ?_⟩) | ((with_reducible refine gate_callee (f := 13) rfl ?_); refine goesL_ (some 31) rfl rfl Tryd.func13 (by kernel_rfl) rfl #[.string (a0.extract 2 a0.size), .int .u32 10] rfl (by (try simp only [List.map_toArray, List.map_cons, List.map_nil]); first | done | rfl | (simp only [List.length_drop, List.length_take]; rfl)) ?_; (with_reducible refine (tinderref02_Parse.calls kj1 (a0.extract 2 a0.size) 10 t20008 t20009 _ A21.out).mono ?_); rintro e w' ⟨rfl, ⟨nd, rfl⟩⟩; refine ⟨_, rfl, ?_⟩))
                    go_ret2
                    exact ⟨by first | rfl | (simp; done) | (simp [*]; done), by repeat (first | exact Drawn0.refl _ | apply Drawn0.step)⟩
                  · rw [if_neg c20] at H
                    exact absurd H (by simp)
                · rw [if_neg c19] at H
                  have c19b0 : (t20001 == 100) = false := beq_eq_false_iff_ne.mpr c19
                  have c19b1 : (t20001 != 100) = true := bne_iff_ne.mpr c19
                  simp only [Option.some.injEq, Prod.mk.injEq] at H
                  obtain ⟨rfl, rfl⟩ := H
                  have p8 : 0 ≤ (0 : Int) := (by omega)
                  have q8 : 0 < a0.size := (by have : (0 : Int) < (a0.size : Int) := of_decide_eq_true (by first | (with_reducible assumption) | assumption); omega)
                  have hx8 : ∀ h : 0 < a0.size, ((a0[0]'h).toNat : Int) = bt a0 0 := bt_at a0 0
                  clear p8
                  have qi8 : (0 < (a0.size : Int)) = True := eq_true (of_decide_eq_true (by first | (with_reducible assumption) | assumption))
                  replace q8 := eq_true q8
                  go_wp2_with (first | ((with_reducible refine gate_callee (f := 23) rfl ?_); refine goesL_ (some 17) rfl rfl Tryd.func23 (by kernel_rfl) rfl #[.int .u8 (bt a0 0)] rfl (by (try simp only [List.map_toArray, List.map_cons, List.map_nil]); first | done | rfl | (simp only [List.length_drop, List.length_take]; rfl)) ?_; (with_reducible refine (tinderref02_Small.calls (bt a0 0) t20001 _ A9.out).mono ?_); rintro e w' ⟨rfl, ⟨nd, rfl⟩⟩; refine ⟨_, rfl, ?_⟩))
                  go_ret2
                  exact ⟨by first | rfl | (simp; done) | (simp [*]; done), by repeat (first | exact Drawn0.refl _ | apply Drawn0.step)⟩
        · rw [if_neg c7] at H
          exact absurd H (by simp)
      · replace c6 := Bool.eq_false_iff.mpr c6
        subst c6
        have H1 : ((tinderref02_Parse.f kj1 a0 10).bind fun bt20010 => (some (bt20010.1, (bt20010.2 == 0)))) = some (r1, r2) := by rw [if_neg (show ¬ (false = true) by decide)] at H; exact H
        clear H
        have H := H1
        clear H1
        replace H := Option.bind_eq_some_iff.mp H
        obtain ⟨⟨t20010, t20011⟩, A220, H⟩ := H
        replace H : (some (t20010, (t20011 == 0))) = some (r1, r2) := H
        have A22 := Aside0.mk A220
        clear A220
        simp only [Option.some.injEq, Prod.mk.injEq] at H
        obtain ⟨rfl, rfl⟩ := H
        go_wp2_with (first | ((with_reducible refine gate_callee (f := 13) rfl ?_); refine goesL_ (some 31) rfl rfl Tryd.func13 (by kernel_rfl) rfl #[.string a0, .int .u32 10] rfl (by (try simp only [List.map_toArray, List.map_cons, List.map_nil]); first | done | rfl | (simp only [List.length_drop, List.length_take]; rfl)) ?_; (with_reducible refine (tinderref02_Parse.calls kj1 a0 10 t20010 t20011 _ A22.out).mono ?_); rintro e w' ⟨rfl, ⟨nd, rfl⟩⟩; refine ⟨_, rfl, ?_⟩))
        go_ret2
        exact ⟨by first | rfl | (simp; done) | (simp [*]; done), by repeat (first | exact Drawn0.refl _ | apply Drawn0.step)⟩

end Go.Proofs.YthlpdjnfcjpbpaaDoor.Q
