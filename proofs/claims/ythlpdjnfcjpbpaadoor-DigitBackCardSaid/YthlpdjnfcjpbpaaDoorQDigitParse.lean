/- What Go functions of this program answer, as plain Lean functions, and that the calls answer so, wherever the plain function has an answer. Written by a program of this claim's own out of the translation. -/
import Derived.Test.YthlpdjnfcjpbpaaDoorQ0
import Derived.Test.YthlpdjnfcjpbpaaDoorQDigitValue
import Derived.Test.YthlpdjnfcjpbpaaDoorQDigitFit
import Derived.Test.YthlpdjnfcjpbpaaDoorQStringsCutPrefix
namespace Go.Proofs.YthlpdjnfcjpbpaaDoor.Q
open Go.RowKit Go.Proofs.YthlpdjnfcjpbpaaDoorW.PrintWords Go.Proofs.YthlpdjnfcjpbpaaDoorW.PrintLast Go.Proofs.YthlpdjnfcjpbpaaDoorW.PrintMore
set_option linter.unusedVariables false
set_option linter.unusedSimpArgs false

attribute [local go_sem] max2_int min2_int max_two min_two max_three min_three max_four min_four
/-! ### digit_Parse: function 12 -/
def digit_Parse.l0 : Nat → Int → ByteArray → Bool → Int → Int → Int → Int → Option (Int × Int)
  | 0, _, _, _, _, _, _, _ => none
  | k + 1, x1, x6, x7, x8, x9, x24, x25 => if x25 < x24 then (if 0 ≤ x25 then (if x25 < (x6.size : Int) then ((digit_Value.f k (bt x6 x25) x1).bind fun bt13004 => (if bt13004.2 = true then (if (IntKind.u64.wrap ((IntKind.u64.wrap (x8 * (IntKind.u64.wrap (x1)))) + (IntKind.u64.wrap (bt13004.1)))) > 4294967295 then (digit_Parse.l0 k x1 x6 x7 4294967296 4 x24 (wrap64 (x25 + 1))) else (digit_Parse.l0 k x1 x6 x7 (IntKind.u64.wrap ((IntKind.u64.wrap (x8 * (IntKind.u64.wrap (x1)))) + (IntKind.u64.wrap (bt13004.1)))) x9 x24 (wrap64 (x25 + 1)))) else (some (0, 15)))) else (none)) else (none)) else (if x9 = 0 then (if x7 = true then (some ((IntKind.u64.wrap (-x8)) % 4294967296, 0)) else (some ((x8) % 4294967296, 0))) else (some (0, x9)))
def digit_Parse.f (k : Nat) (a0 : ByteArray) (a1 : Int) : Option (Int × Int) := (digit_fit.f a1).bind fun t13001 => (if t13001 = true then ((strings_CutPrefix.f a0 (⟨#[45]⟩ : ByteArray)).bind fun bt13002 => (if bt13002.1.toList = ([] : List UInt8) then (some (0, 15)) else (digit_Parse.l0 k a1 bt13002.1 bt13002.2 0 0 (bt13002.1.size : Int) 0))) else (some (0, 1)))
theorem digit_Parse.mono_l : ∀ k, (∀ y0 y1 y2 y3 y4 y5 y6, LeO (digit_Parse.l0 k y0 y1 y2 y3 y4 y5 y6) (digit_Parse.l0 (k + 1) y0 y1 y2 y3 y4 y5 y6))
  | 0 => fun _ _ _ _ _ _ _ r h => by simp [digit_Parse.l0] at h
  | k + 1 => by
    have ih0 := digit_Parse.mono_l k
    · intro y0 y1 y2 y3 y4 y5 y6
      unfold digit_Parse.l0
      repeat' first
      | (with_reducible exact ih0 _ _ _ _ _ _ _)
      | (with_reducible exact digit_Value.mono _ _ _)
      | (with_reducible exact LeO.refl _)
      | (with_reducible exact LeO.none _)
      | (with_reducible refine LeO.ite ?_ ?_)
      | (with_reducible refine LeO.bind ?_ (fun _ => ?_))
      | exact ih0 _ _ _ _ _ _ _
      | exact digit_Value.mono _ _ _
      | exact LeO.none _
      | refine LeO.ite ?_ ?_
      | refine LeO.bind ?_ (fun _ => ?_)
theorem digit_Parse.mono : ∀ a0 a1 k, LeO (digit_Parse.f k a0 a1) (digit_Parse.f (k + 1) a0 a1) := by
  intro a0 a1 k
  have ih0 := digit_Parse.mono_l k
  unfold digit_Parse.f
  repeat' first
      | (with_reducible exact ih0 _ _ _ _ _ _ _)
      | (with_reducible exact digit_Value.mono _ _ _)
      | (with_reducible exact LeO.refl _)
      | (with_reducible exact LeO.none _)
      | (with_reducible refine LeO.ite ?_ ?_)
      | (with_reducible refine LeO.bind ?_ (fun _ => ?_))
      | exact ih0 _ _ _ _ _ _ _
      | exact digit_Value.mono _ _ _
      | exact LeO.none _
      | refine LeO.ite ?_ ?_
      | refine LeO.bind ?_ (fun _ => ?_)
set_option maxHeartbeats 8000000 in
set_option maxRecDepth 100000 in
theorem digit_Parse.calls (k : Nat) (a0 : ByteArray) (a1 : Int) (r1 : Int) (r2 : Int) (w : World) (h : digit_Parse.f k a0 a1 = some (r1, r2)) :
    Calls Tryd.prog 12 #[.string a0, .int .u32 a1] w fun e w' => e = .returned (.tuple #[.int .u32 r1, .int .i64 r2]) ∧ Drawn0 w w' := by
  have H : ((digit_fit.f a1).bind fun t13001 => (if t13001 = true then ((strings_CutPrefix.f a0 (⟨#[45]⟩ : ByteArray)).bind fun bt13002 => (if bt13002.1.toList = ([] : List UInt8) then (some (0, 15)) else (digit_Parse.l0 k a1 bt13002.1 bt13002.2 0 0 (bt13002.1.size : Int) 0))) else (some (0, 1)))) = some (r1, r2) := h
  clear h
  replace H := Option.bind_eq_some_iff.mp H
  obtain ⟨t13001, A30, H⟩ := H
  replace H : (if t13001 = true then ((strings_CutPrefix.f a0 (⟨#[45]⟩ : ByteArray)).bind fun bt13002 => (if bt13002.1.toList = ([] : List UInt8) then (some (0, 15)) else (digit_Parse.l0 k a1 bt13002.1 bt13002.2 0 0 (bt13002.1.size : Int) 0))) else (some (0, 1))) = some (r1, r2) := H
  have A3 := Aside0.mk A30
  clear A30
  by_cases c4 : t13001 = true
  · subst c4
    have H1 : ((strings_CutPrefix.f a0 (⟨#[45]⟩ : ByteArray)).bind fun bt13002 => (if bt13002.1.toList = ([] : List UInt8) then (some (0, 15)) else (digit_Parse.l0 k a1 bt13002.1 bt13002.2 0 0 (bt13002.1.size : Int) 0))) = some (r1, r2) := by rw [if_pos rfl] at H; exact H
    clear H
    have H := H1
    clear H1
    replace H := Option.bind_eq_some_iff.mp H
    obtain ⟨⟨t13002, t13003⟩, A50, H⟩ := H
    replace H : (if t13002.toList = ([] : List UInt8) then (some (0, 15)) else (digit_Parse.l0 k a1 t13002 t13003 0 0 (t13002.size : Int) 0)) = some (r1, r2) := H
    have A5 := Aside0.mk A50
    clear A50
    by_cases c6 : t13002.toList = ([] : List UInt8)
    · rw [if_pos c6] at H
      have c6b0 : (t13002.toList == ([] : List UInt8)) = true := beq_iff_eq.mpr c6
      have c6b1 : (t13002.toList != ([] : List UInt8)) = false := bne_eq_false_iff_eq.mpr c6
      clear c6
      simp only [Option.some.injEq, Prod.mk.injEq] at H
      obtain ⟨rfl, rfl⟩ := H
      go_enter Tryd.func12, Tryd.ntmps12
      go_wp2_with (first | ((with_reducible refine gate_callee (f := 22) rfl ?_); refine goesL_ (some 14) rfl rfl Tryd.func22 (by kernel_rfl) rfl #[.int .u32 a1] rfl (by (try simp only [List.map_toArray, List.map_cons, List.map_nil]); first | done | rfl | (simp only [List.length_drop, List.length_take]; rfl)) ?_; (with_reducible refine (digit_fit.calls a1 true _ A3.out).mono ?_); rintro e w' ⟨rfl, ⟨nd, rfl⟩⟩; refine ⟨_, rfl, ?_⟩) | ((with_reducible refine gate_callee (f := 24) rfl ?_); refine goesL_ (some 18) rfl rfl Tryd.func24 (by kernel_rfl) rfl #[.string a0, .string (⟨#[45]⟩ : ByteArray)] rfl (by (try simp only [List.map_toArray, List.map_cons, List.map_nil]); first | done | rfl | (simp only [List.length_drop, List.length_take]; rfl)) ?_; (with_reducible refine (strings_CutPrefix.calls a0 (⟨#[45]⟩ : ByteArray) t13002 t13003 _ A5.out).mono ?_); rintro e w' ⟨rfl, ⟨nd, rfl⟩⟩; refine ⟨_, rfl, ?_⟩))
      go_ret2
      exact ⟨by first | rfl | (simp; done) | (simp [*]; done), by repeat (first | exact Drawn0.refl _ | apply Drawn0.step)⟩
    · rw [if_neg c6] at H
      have c6b0 : (t13002.toList == ([] : List UInt8)) = false := beq_eq_false_iff_ne.mpr c6
      have c6b1 : (t13002.toList != ([] : List UInt8)) = true := bne_iff_ne.mpr c6
      have H' := Aside0.mk H
      clear H
      go_enter Tryd.func12, Tryd.ntmps12
      go_wp2_with (first | ((with_reducible refine gate_callee (f := 22) rfl ?_); refine goesL_ (some 14) rfl rfl Tryd.func22 (by kernel_rfl) rfl #[.int .u32 a1] rfl (by (try simp only [List.map_toArray, List.map_cons, List.map_nil]); first | done | rfl | (simp only [List.length_drop, List.length_take]; rfl)) ?_; (with_reducible refine (digit_fit.calls a1 true _ A3.out).mono ?_); rintro e w' ⟨rfl, ⟨nd, rfl⟩⟩; refine ⟨_, rfl, ?_⟩) | ((with_reducible refine gate_callee (f := 24) rfl ?_); refine goesL_ (some 18) rfl rfl Tryd.func24 (by kernel_rfl) rfl #[.string a0, .string (⟨#[45]⟩ : ByteArray)] rfl (by (try simp only [List.map_toArray, List.map_cons, List.map_nil]); first | done | rfl | (simp only [List.length_drop, List.length_take]; rfl)) ?_; (with_reducible refine (strings_CutPrefix.calls a0 (⟨#[45]⟩ : ByteArray) t13002 t13003 _ A5.out).mono ?_); rintro e w' ⟨rfl, ⟨nd, rfl⟩⟩; refine ⟨_, rfl, ?_⟩))
      go_loopg [8, 9, 25] k (fun kq v8 v9 v25 w' => ∃ (x8_1 : Int) (x9_1 : Int) (x25_1 : Int), v8 = .int .u64 x8_1 ∧ v9 = .int .i64 x9_1 ∧ v25 = .int .i64 x25_1 ∧ Aside0 (digit_Parse.l0 kq a1 t13002 t13003 x8_1 x9_1 (t13002.size : Int) x25_1 = some (r1, r2)) ∧ Aside0 (kq ≤ k) ∧ Drawn0 w w')
      case atStart => exact ⟨(0), (0), (0), (by first | rfl | (simp; done) | (simp [*]; done)), (by first | rfl | (simp; done) | (simp [*]; done)), (by first | rfl | (simp; done) | (simp [*]; done)), H', ⟨Nat.le_refl _⟩, by repeat (first | exact Drawn0.refl _ | apply Drawn0.step)⟩
      case round =>
        clear H'
        try clear c1
        try clear c2
        try clear p2
        try clear c4
        try clear c6
        try clear c6b0
        try clear c6b1
        obtain ⟨x8_1, x9_1, x25_1, rfl, rfl, rfl, HA, HK1, ⟨m1, rfl⟩⟩ := hrel
        cases gk with
        | zero => exact absurd HA.out (by simp [digit_Parse.l0])
        | succ k1 =>
          have H := HA.out
          clear HA
          simp only [digit_Parse.l0] at H
          by_cases c7 : x25_1 < (t13002.size : Int)
          · rw [if_pos c7] at H
            have c7b0 : decide (x25_1 < (t13002.size : Int)) = true := decide_eq_true c7
            clear c7
            by_cases c8 : 0 ≤ x25_1
            · rw [if_pos c8] at H
              have c8b0 : decide (0 ≤ x25_1) = true := decide_eq_true c8
              clear c8
              by_cases c9 : x25_1 < (t13002.size : Int)
              · rw [if_pos c9] at H
                have c9b0 : decide (x25_1 < (t13002.size : Int)) = true := decide_eq_true c9
                clear c9
                replace H := Option.bind_eq_some_iff.mp H
                obtain ⟨⟨t13004, t13005⟩, A110, H⟩ := H
                replace H : (if t13005 = true then (if (IntKind.u64.wrap ((IntKind.u64.wrap (x8_1 * (IntKind.u64.wrap (a1)))) + (IntKind.u64.wrap (t13004)))) > 4294967295 then (digit_Parse.l0 k1 a1 t13002 t13003 4294967296 4 (t13002.size : Int) (wrap64 (x25_1 + 1))) else (digit_Parse.l0 k1 a1 t13002 t13003 (IntKind.u64.wrap ((IntKind.u64.wrap (x8_1 * (IntKind.u64.wrap (a1)))) + (IntKind.u64.wrap (t13004)))) x9_1 (t13002.size : Int) (wrap64 (x25_1 + 1)))) else (some (0, 15))) = some (r1, r2) := H
                have A11 := Aside0.mk A110
                clear A110
                by_cases c12 : t13005 = true
                · subst c12
                  have H1 : (if (IntKind.u64.wrap ((IntKind.u64.wrap (x8_1 * (IntKind.u64.wrap (a1)))) + (IntKind.u64.wrap (t13004)))) > 4294967295 then (digit_Parse.l0 k1 a1 t13002 t13003 4294967296 4 (t13002.size : Int) (wrap64 (x25_1 + 1))) else (digit_Parse.l0 k1 a1 t13002 t13003 (IntKind.u64.wrap ((IntKind.u64.wrap (x8_1 * (IntKind.u64.wrap (a1)))) + (IntKind.u64.wrap (t13004)))) x9_1 (t13002.size : Int) (wrap64 (x25_1 + 1)))) = some (r1, r2) := by rw [if_pos rfl] at H; exact H
                  clear H
                  have H := H1
                  clear H1
                  by_cases c13 : (IntKind.u64.wrap ((IntKind.u64.wrap (x8_1 * (IntKind.u64.wrap (a1)))) + (IntKind.u64.wrap (t13004)))) > 4294967295
                  · rw [if_pos c13] at H
                    have c13b0 : decide (4294967295 < (IntKind.u64.wrap ((IntKind.u64.wrap (x8_1 * (IntKind.u64.wrap (a1)))) + (IntKind.u64.wrap (t13004))))) = true := decide_eq_true c13
                    clear c13
                    have H' := Aside0.mk H
                    clear H
                    have p10 : 0 ≤ (x25_1 : Int) := of_decide_eq_true (by first | (with_reducible assumption) | assumption)
                    have q10 : x25_1 < (t13002.size : Int) := of_decide_eq_true (by first | (with_reducible assumption) | assumption)
                    have hx10 := bt_at t13002 x25_1
                    replace p10 := eq_true p10
                    replace q10 := eq_true q10
                    go_wp2_with (first | ((with_reducible refine gate_callee (f := 10) rfl ?_); refine goesL_ (some 33) rfl rfl Tryd.func10 (by kernel_rfl) rfl #[.int .u8 (bt t13002 x25_1), .int .u32 a1] rfl (by (try simp only [List.map_toArray, List.map_cons, List.map_nil]); first | done | rfl | (simp only [List.length_drop, List.length_take]; rfl)) ?_; (with_reducible refine (digit_Value.calls k1 (bt t13002 x25_1) a1 t13004 true _ A11.out).mono ?_); rintro e w' ⟨rfl, ⟨nd, rfl⟩⟩; refine ⟨_, rfl, ?_⟩))
                    go_roundg k1
                    case measure => have := HK1.out; omega
                    case rel => exact ⟨(4294967296), (4), (wrap64 (x25_1 + 1)), (by first | rfl | (simp; done) | (simp [*]; done)), (by first | rfl | (simp; done) | (simp [*]; done)), (by first | rfl | (simp; done) | (simp [*]; done)), H', ⟨by have := HK1.out; omega⟩, by repeat (first | exact Drawn0.refl _ | apply Drawn0.step)⟩
                  · rw [if_neg c13] at H
                    have c13b0 : decide (4294967295 < (IntKind.u64.wrap ((IntKind.u64.wrap (x8_1 * (IntKind.u64.wrap (a1)))) + (IntKind.u64.wrap (t13004))))) = false := decide_eq_false c13
                    clear c13
                    have H' := Aside0.mk H
                    clear H
                    have p10 : 0 ≤ (x25_1 : Int) := of_decide_eq_true (by first | (with_reducible assumption) | assumption)
                    have q10 : x25_1 < (t13002.size : Int) := of_decide_eq_true (by first | (with_reducible assumption) | assumption)
                    have hx10 := bt_at t13002 x25_1
                    replace p10 := eq_true p10
                    replace q10 := eq_true q10
                    go_wp2_with (first | ((with_reducible refine gate_callee (f := 10) rfl ?_); refine goesL_ (some 33) rfl rfl Tryd.func10 (by kernel_rfl) rfl #[.int .u8 (bt t13002 x25_1), .int .u32 a1] rfl (by (try simp only [List.map_toArray, List.map_cons, List.map_nil]); first | done | rfl | (simp only [List.length_drop, List.length_take]; rfl)) ?_; (with_reducible refine (digit_Value.calls k1 (bt t13002 x25_1) a1 t13004 true _ A11.out).mono ?_); rintro e w' ⟨rfl, ⟨nd, rfl⟩⟩; refine ⟨_, rfl, ?_⟩))
                    go_roundg k1
                    case measure => have := HK1.out; omega
                    case rel => exact ⟨(IntKind.u64.wrap ((IntKind.u64.wrap (x8_1 * (IntKind.u64.wrap (a1)))) + (IntKind.u64.wrap (t13004)))), (x9_1), (wrap64 (x25_1 + 1)), (by first | rfl | (simp; done) | (simp [*]; done)), (by first | rfl | (simp; done) | (simp [*]; done)), (by first | rfl | (simp; done) | (simp [*]; done)), H', ⟨by have := HK1.out; omega⟩, by repeat (first | exact Drawn0.refl _ | apply Drawn0.step)⟩
                · replace c12 := Bool.eq_false_iff.mpr c12
                  subst c12
                  have H1 : (some (0, 15)) = some (r1, r2) := by rw [if_neg (show ¬ (false = true) by decide)] at H; exact H
                  clear H
                  have H := H1
                  clear H1
                  simp only [Option.some.injEq, Prod.mk.injEq] at H
                  obtain ⟨rfl, rfl⟩ := H
                  have p10 : 0 ≤ (x25_1 : Int) := of_decide_eq_true (by first | (with_reducible assumption) | assumption)
                  have q10 : x25_1 < (t13002.size : Int) := of_decide_eq_true (by first | (with_reducible assumption) | assumption)
                  have hx10 := bt_at t13002 x25_1
                  replace p10 := eq_true p10
                  replace q10 := eq_true q10
                  go_wp2_with (first | ((with_reducible refine gate_callee (f := 10) rfl ?_); refine goesL_ (some 33) rfl rfl Tryd.func10 (by kernel_rfl) rfl #[.int .u8 (bt t13002 x25_1), .int .u32 a1] rfl (by (try simp only [List.map_toArray, List.map_cons, List.map_nil]); first | done | rfl | (simp only [List.length_drop, List.length_take]; rfl)) ?_; (with_reducible refine (digit_Value.calls k1 (bt t13002 x25_1) a1 t13004 false _ A11.out).mono ?_); rintro e w' ⟨rfl, ⟨nd, rfl⟩⟩; refine ⟨_, rfl, ?_⟩))
                  go_ret2
                  exact ⟨by first | rfl | (simp; done) | (simp [*]; done), by repeat (first | exact Drawn0.refl _ | apply Drawn0.step)⟩
              · rw [if_neg c9] at H
                exact absurd H (by simp)
            · rw [if_neg c8] at H
              exact absurd H (by simp)
          · rw [if_neg c7] at H
            have c7b0 : decide (x25_1 < (t13002.size : Int)) = false := decide_eq_false c7
            clear c7
            by_cases c14 : x9_1 = 0
            · rw [if_pos c14] at H
              have c14b0 : (x9_1 == 0) = true := beq_iff_eq.mpr c14
              have c14b1 : (x9_1 != 0) = false := bne_eq_false_iff_eq.mpr c14
              clear c14
              by_cases c15 : t13003 = true
              · subst c15
                have H1 : (some ((IntKind.u64.wrap (-x8_1)) % 4294967296, 0)) = some (r1, r2) := by rw [if_pos rfl] at H; exact H
                clear H
                have H := H1
                clear H1
                simp only [Option.some.injEq, Prod.mk.injEq] at H
                obtain ⟨rfl, rfl⟩ := H
                go_wp2
                go_ret2
                exact ⟨by first | rfl | (simp; done) | (simp [*]; done), by repeat (first | exact Drawn0.refl _ | apply Drawn0.step)⟩
              · replace c15 := Bool.eq_false_iff.mpr c15
                subst c15
                have H1 : (some ((x8_1) % 4294967296, 0)) = some (r1, r2) := by rw [if_neg (show ¬ (false = true) by decide)] at H; exact H
                clear H
                have H := H1
                clear H1
                simp only [Option.some.injEq, Prod.mk.injEq] at H
                obtain ⟨rfl, rfl⟩ := H
                go_wp2
                go_ret2
                exact ⟨by first | rfl | (simp; done) | (simp [*]; done), by repeat (first | exact Drawn0.refl _ | apply Drawn0.step)⟩
            · rw [if_neg c14] at H
              have c14b0 : (x9_1 == 0) = false := beq_eq_false_iff_ne.mpr c14
              have c14b1 : (x9_1 != 0) = true := bne_iff_ne.mpr c14
              simp only [Option.some.injEq, Prod.mk.injEq] at H
              obtain ⟨rfl, rfl⟩ := H
              go_wp2
              go_ret2
              exact ⟨by first | rfl | (simp; done) | (simp [*]; done), by repeat (first | exact Drawn0.refl _ | apply Drawn0.step)⟩
  · replace c4 := Bool.eq_false_iff.mpr c4
    subst c4
    have H1 : (some (0, 1)) = some (r1, r2) := by rw [if_neg (show ¬ (false = true) by decide)] at H; exact H
    clear H
    have H := H1
    clear H1
    simp only [Option.some.injEq, Prod.mk.injEq] at H
    obtain ⟨rfl, rfl⟩ := H
    go_enter Tryd.func12, Tryd.ntmps12
    go_wp2_with (first | ((with_reducible refine gate_callee (f := 22) rfl ?_); refine goesL_ (some 14) rfl rfl Tryd.func22 (by kernel_rfl) rfl #[.int .u32 a1] rfl (by (try simp only [List.map_toArray, List.map_cons, List.map_nil]); first | done | rfl | (simp only [List.length_drop, List.length_take]; rfl)) ?_; (with_reducible refine (digit_fit.calls a1 false _ A3.out).mono ?_); rintro e w' ⟨rfl, ⟨nd, rfl⟩⟩; refine ⟨_, rfl, ?_⟩))
    go_ret2
    exact ⟨by first | rfl | (simp; done) | (simp [*]; done), by repeat (first | exact Drawn0.refl _ | apply Drawn0.step)⟩

end Go.Proofs.YthlpdjnfcjpbpaaDoor.Q
