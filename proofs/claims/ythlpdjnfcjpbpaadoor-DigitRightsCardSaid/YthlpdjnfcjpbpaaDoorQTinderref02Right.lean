/- What Go functions of this program answer, as plain Lean functions, and that the calls answer so, wherever the plain function has an answer. Written by a program of this claim's own out of the translation. -/
import Derived.Test.YthlpdjnfcjpbpaaDoorQ0
namespace Go.Proofs.YthlpdjnfcjpbpaaDoor.Q
open Go.RowKit Go.Proofs.YthlpdjnfcjpbpaaDoorW.PrintWords Go.Proofs.YthlpdjnfcjpbpaaDoorW.PrintLast Go.Proofs.YthlpdjnfcjpbpaaDoorW.PrintMore
set_option linter.unusedVariables false
set_option linter.unusedSimpArgs false

attribute [local go_sem] max2_int min2_int max_two min_two max_three min_three max_four min_four
/-! ### tinderref02_Right: function 21 -/
def tinderref02_Right.l0 : Nat → ByteArray → Int → ByteArray → Int → Option (ByteArray × Int)
  | 0, _, _, _, _ => none
  | k + 1, x0, x1, x6, x7 => if x7 < (wrap64 (x1)) then (if x6.size + 1 ≤ 9223372036854775807 then (tinderref02_Right.l0 k x0 x1 (x6 ++ (⟨#[32]⟩ : ByteArray)) (wrap64 (x7 + 1))) else (none)) else (if x6.size + x0.size ≤ 9223372036854775807 then (some (x6 ++ x0, 0)) else (none))
def tinderref02_Right.f (k : Nat) (a0 : ByteArray) (a1 : Int) : Option (ByteArray × Int) := if a1 > 255 then (some ((⟨#[]⟩ : ByteArray), 1)) else (tinderref02_Right.l0 k a0 a1 (⟨#[]⟩ : ByteArray) (a0.size : Int))
theorem tinderref02_Right.mono_l : ∀ k, (∀ y0 y1 y2 y3, LeO (tinderref02_Right.l0 k y0 y1 y2 y3) (tinderref02_Right.l0 (k + 1) y0 y1 y2 y3))
  | 0 => fun _ _ _ _ r h => by simp [tinderref02_Right.l0] at h
  | k + 1 => by
    have ih0 := tinderref02_Right.mono_l k
    · intro y0 y1 y2 y3
      unfold tinderref02_Right.l0
      repeat' first
      | (with_reducible exact ih0 _ _ _ _)
      | (with_reducible exact LeO.refl _)
      | (with_reducible exact LeO.none _)
      | (with_reducible refine LeO.ite ?_ ?_)
      | (with_reducible refine LeO.bind ?_ (fun _ => ?_))
      | exact ih0 _ _ _ _
      | exact LeO.none _
      | refine LeO.ite ?_ ?_
      | refine LeO.bind ?_ (fun _ => ?_)
theorem tinderref02_Right.mono : ∀ a0 a1 k, LeO (tinderref02_Right.f k a0 a1) (tinderref02_Right.f (k + 1) a0 a1) := by
  intro a0 a1 k
  have ih0 := tinderref02_Right.mono_l k
  unfold tinderref02_Right.f
  repeat' first
      | (with_reducible exact ih0 _ _ _ _)
      | (with_reducible exact LeO.refl _)
      | (with_reducible exact LeO.none _)
      | (with_reducible refine LeO.ite ?_ ?_)
      | (with_reducible refine LeO.bind ?_ (fun _ => ?_))
      | exact ih0 _ _ _ _
      | exact LeO.none _
      | refine LeO.ite ?_ ?_
      | refine LeO.bind ?_ (fun _ => ?_)
set_option maxHeartbeats 8000000 in
set_option maxRecDepth 100000 in
theorem tinderref02_Right.calls (k : Nat) (a0 : ByteArray) (a1 : Int) (r1 : ByteArray) (r2 : Int) (w : World) (h : tinderref02_Right.f k a0 a1 = some (r1, r2)) :
    Calls Tryd.prog 21 #[.string a0, .int .u32 a1] w fun e w' => e = .returned (.tuple #[.string r1, .int .i64 r2]) ∧ Drawn0 w w' := by
  have H : (if a1 > 255 then (some ((⟨#[]⟩ : ByteArray), 1)) else (tinderref02_Right.l0 k a0 a1 (⟨#[]⟩ : ByteArray) (a0.size : Int))) = some (r1, r2) := h
  clear h
  by_cases c3 : a1 > 255
  · rw [if_pos c3] at H
    have c3b0 : decide (255 < a1) = true := decide_eq_true c3
    clear c3
    simp only [Option.some.injEq, Prod.mk.injEq] at H
    obtain ⟨rfl, rfl⟩ := H
    go_enter Tryd.func21, Tryd.ntmps21
    go_wp2
    go_ret2
    exact ⟨by first | rfl | (simp; done) | (simp [*]; done), by repeat (first | exact Drawn0.refl _ | apply Drawn0.step)⟩
  · rw [if_neg c3] at H
    have c3b0 : decide (255 < a1) = false := decide_eq_false c3
    clear c3
    have H' := Aside0.mk H
    clear H
    go_enter Tryd.func21, Tryd.ntmps21
    go_wp2
    go_loopg [6, 7] k (fun kq v6 v7 w' => ∃ (x6_1 : ByteArray) (x7_1 : Int), v6 = .string x6_1 ∧ v7 = .int .i64 x7_1 ∧ Aside0 (tinderref02_Right.l0 kq a0 a1 x6_1 x7_1 = some (r1, r2)) ∧ Aside0 (kq ≤ k) ∧ Drawn0 w w')
    case atStart => exact ⟨((⟨#[]⟩ : ByteArray)), ((a0.size : Int)), (by first | rfl | (simp; done) | (simp [*]; done)), (by first | rfl | (simp; done) | (simp [*]; done)), H', ⟨Nat.le_refl _⟩, by repeat (first | exact Drawn0.refl _ | apply Drawn0.step)⟩
    case round =>
      clear H'
      try clear c2
      try clear p2
      try clear c3
      try clear c3b0
      obtain ⟨x6_1, x7_1, rfl, rfl, HA, HK1, ⟨m1, rfl⟩⟩ := hrel
      cases gk with
      | zero => exact absurd HA.out (by simp [tinderref02_Right.l0])
      | succ k1 =>
        have H := HA.out
        clear HA
        simp only [tinderref02_Right.l0] at H
        by_cases c4 : x7_1 < (wrap64 (a1))
        · rw [if_pos c4] at H
          have c4b0 : decide (x7_1 < (wrap64 (a1))) = true := decide_eq_true c4
          clear c4
          by_cases c5 : x6_1.size + 1 ≤ 9223372036854775807
          · rw [if_pos c5] at H
            have c5b0 := eq_true c5
            have c5b1 : decide (x6_1.size + 1 ≤ 9223372036854775807) = true := decide_eq_true c5
            try have c5b2 : (9223372036854775807 < x6_1.size + 1) = False := eq_false (Nat.not_lt.2 c5)
            have H' := Aside0.mk H
            clear H
            go_wp2
            go_roundg k1
            case measure => have := HK1.out; omega
            case rel => exact ⟨(x6_1 ++ (⟨#[32]⟩ : ByteArray)), (wrap64 (x7_1 + 1)), (by first | rfl | (simp; done) | (simp [*]; done)), (by first | rfl | (simp; done) | (simp [*]; done)), H', ⟨by have := HK1.out; omega⟩, by repeat (first | exact Drawn0.refl _ | apply Drawn0.step)⟩
          · rw [if_neg c5] at H
            exact absurd H (by simp)
        · rw [if_neg c4] at H
          have c4b0 : decide (x7_1 < (wrap64 (a1))) = false := decide_eq_false c4
          clear c4
          by_cases c6 : x6_1.size + a0.size ≤ 9223372036854775807
          · rw [if_pos c6] at H
            have c6b0 := eq_true c6
            have c6b1 : decide (x6_1.size + a0.size ≤ 9223372036854775807) = true := decide_eq_true c6
            try have c6b2 : (9223372036854775807 < x6_1.size + a0.size) = False := eq_false (Nat.not_lt.2 c6)
            simp only [Option.some.injEq, Prod.mk.injEq] at H
            obtain ⟨rfl, rfl⟩ := H
            go_wp2
            go_ret2
            exact ⟨by first | rfl | (simp; done) | (simp [*]; done), by repeat (first | exact Drawn0.refl _ | apply Drawn0.step)⟩
          · rw [if_neg c6] at H
            exact absurd H (by simp)

end Go.Proofs.YthlpdjnfcjpbpaaDoor.Q
