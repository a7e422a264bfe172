/- Contracts of Go functions and plain facts, of several texts, one behind the other; no condition. -/
import Derived.Test.YtlhnaplmphdhlaaDoorMPropUnits1
import Derived.Test.YtlhnaplmphdhlaaDoorMPropUnits2
import Derived.ChangeArms
import Derived.OpenShut
import Derived.SizedLaws
section
namespace Go.Proofs.YtlhnaplmphdhlaaDoor.Q
open Go.RowKit Go.Proofs.YtlhnaplmphdhlaaDoorW.PrintWords Go.Proofs.YtlhnaplmphdhlaaDoorW.PrintLast Go.Proofs.YtlhnaplmphdhlaaDoorW.PrintMore
set_option linter.unusedVariables false
set_option linter.unusedSimpArgs false

attribute [local go_sem] max2_int min2_int max_two min_two max_three min_three max_four min_four
/-! ### tinderref05_Named: function 16 -/
mutual
def tinderref05_Named.j0 : Nat → ByteArray → Bool → Option (Bool)
  | 0, _, _ => none
  | k + 1, x0, x13 => if x13 = true then (some false) else (tinderref05_Named.l0 k x0 0)
def tinderref05_Named.l0 : Nat → ByteArray → Int → Option (Bool)
  | 0, _, _ => none
  | k + 1, x0, x3 => if x3 < (x0.size : Int) then (if 0 ≤ x3 then (if (bt x0 x3) < 33 then (tinderref05_Named.j2 k x0 x3 (bt x0 x3) true) else (if (bt x0 x3) > 126 then (tinderref05_Named.j2 k x0 x3 (bt x0 x3) true) else (if (bt x0 x3) ≥ 65 then (tinderref05_Named.j2 k x0 x3 (bt x0 x3) (decide ((bt x0 x3) ≤ 90))) else (tinderref05_Named.j2 k x0 x3 (bt x0 x3) false)))) else (none)) else (some true)
def tinderref05_Named.j2 : Nat → ByteArray → Int → Int → Bool → Option (Bool)
  | 0, _, _, _, _ => none
  | k + 1, x0, x3, x4, x36 => if x36 = true then (some false) else (tinderref05_Named.l1 k x0 x3 x4 0)
def tinderref05_Named.l1 : Nat → ByteArray → Int → Int → Int → Option (Bool)
  | 0, _, _, _, _ => none
  | k + 1, x0, x3, x4, x5 => if x5 < 6 then (if 0 ≤ x5 then (if x4 = (bt (⟨#[47, 92, 58, 91, 93, 64]⟩ : ByteArray) x5) then (some false) else (tinderref05_Named.l1 k x0 x3 x4 (wrap64 (x5 + 1)))) else (none)) else (tinderref05_Named.l0 k x0 (wrap64 (x3 + 1)))
end
def tinderref05_Named.f (k : Nat) (a0 : ByteArray) : Option (Bool) := if (a0.size : Int) < 1 then (tinderref05_Named.j0 k a0 true) else (tinderref05_Named.j0 k a0 (decide ((a0.size : Int) > 31)))
theorem tinderref05_Named.mono_l : ∀ k, (∀ y0 y1, LeO (tinderref05_Named.j0 k y0 y1) (tinderref05_Named.j0 (k + 1) y0 y1)) ∧ (∀ y0 y1, LeO (tinderref05_Named.l0 k y0 y1) (tinderref05_Named.l0 (k + 1) y0 y1)) ∧ (∀ y0 y1 y2 y3, LeO (tinderref05_Named.j2 k y0 y1 y2 y3) (tinderref05_Named.j2 (k + 1) y0 y1 y2 y3)) ∧ (∀ y0 y1 y2 y3, LeO (tinderref05_Named.l1 k y0 y1 y2 y3) (tinderref05_Named.l1 (k + 1) y0 y1 y2 y3))
  | 0 => ⟨fun _ _ r h => by simp [tinderref05_Named.j0] at h, fun _ _ r h => by simp [tinderref05_Named.l0] at h, fun _ _ _ _ r h => by simp [tinderref05_Named.j2] at h, fun _ _ _ _ r h => by simp [tinderref05_Named.l1] at h⟩
  | k + 1 => by
    obtain ⟨ih0, ih1, ih2, ih3⟩ := tinderref05_Named.mono_l k
    refine ⟨?_, ?_, ?_, ?_⟩
    · intro y0 y1
      unfold tinderref05_Named.j0
      repeat' first
      | (with_reducible exact ih0 _ _)
      | (with_reducible exact ih1 _ _)
      | (with_reducible exact ih2 _ _ _ _)
      | (with_reducible exact ih3 _ _ _ _)
      | (with_reducible exact LeO.refl _)
      | (with_reducible exact LeO.none _)
      | (with_reducible refine LeO.ite ?_ ?_)
      | (with_reducible refine LeO.bind ?_ (fun _ => ?_))
      | exact ih0 _ _
      | exact ih1 _ _
      | exact ih2 _ _ _ _
      | exact ih3 _ _ _ _
      | exact LeO.none _
      | refine LeO.ite ?_ ?_
      | refine LeO.bind ?_ (fun _ => ?_)
    · intro y0 y1
      unfold tinderref05_Named.l0
      repeat' first
      | (with_reducible exact ih0 _ _)
      | (with_reducible exact ih1 _ _)
      | (with_reducible exact ih2 _ _ _ _)
      | (with_reducible exact ih3 _ _ _ _)
      | (with_reducible exact LeO.refl _)
      | (with_reducible exact LeO.none _)
      | (with_reducible refine LeO.ite ?_ ?_)
      | (with_reducible refine LeO.bind ?_ (fun _ => ?_))
      | exact ih0 _ _
      | exact ih1 _ _
      | exact ih2 _ _ _ _
      | exact ih3 _ _ _ _
      | exact LeO.none _
      | refine LeO.ite ?_ ?_
      | refine LeO.bind ?_ (fun _ => ?_)
    · intro y0 y1 y2 y3
      unfold tinderref05_Named.j2
      repeat' first
      | (with_reducible exact ih0 _ _)
      | (with_reducible exact ih1 _ _)
      | (with_reducible exact ih2 _ _ _ _)
      | (with_reducible exact ih3 _ _ _ _)
      | (with_reducible exact LeO.refl _)
      | (with_reducible exact LeO.none _)
      | (with_reducible refine LeO.ite ?_ ?_)
      | (with_reducible refine LeO.bind ?_ (fun _ => ?_))
      | exact ih0 _ _
      | exact ih1 _ _
      | exact ih2 _ _ _ _
      | exact ih3 _ _ _ _
      | exact LeO.none _
      | refine LeO.ite ?_ ?_
      | refine LeO.bind ?_ (fun _ => ?_)
    · intro y0 y1 y2 y3
      unfold tinderref05_Named.l1
      repeat' first
      | (with_reducible exact ih0 _ _)
      | (with_reducible exact ih1 _ _)
      | (with_reducible exact ih2 _ _ _ _)
      | (with_reducible exact ih3 _ _ _ _)
      | (with_reducible exact LeO.refl _)
      | (with_reducible exact LeO.none _)
      | (with_reducible refine LeO.ite ?_ ?_)
      | (with_reducible refine LeO.bind ?_ (fun _ => ?_))
      | exact ih0 _ _
      | exact ih1 _ _
      | exact ih2 _ _ _ _
      | exact ih3 _ _ _ _
      | exact LeO.none _
      | refine LeO.ite ?_ ?_
      | refine LeO.bind ?_ (fun _ => ?_)
theorem tinderref05_Named.mono : ∀ a0 k, LeO (tinderref05_Named.f k a0) (tinderref05_Named.f (k + 1) a0) := by
  intro a0 k
  obtain ⟨ih0, ih1, ih2, ih3⟩ := tinderref05_Named.mono_l k
  unfold tinderref05_Named.f
  repeat' first
      | (with_reducible exact ih0 _ _)
      | (with_reducible exact ih1 _ _)
      | (with_reducible exact ih2 _ _ _ _)
      | (with_reducible exact ih3 _ _ _ _)
      | (with_reducible exact LeO.refl _)
      | (with_reducible exact LeO.none _)
      | (with_reducible refine LeO.ite ?_ ?_)
      | (with_reducible refine LeO.bind ?_ (fun _ => ?_))
      | exact ih0 _ _
      | exact ih1 _ _
      | exact ih2 _ _ _ _
      | exact ih3 _ _ _ _
      | exact LeO.none _
      | refine LeO.ite ?_ ?_
      | refine LeO.bind ?_ (fun _ => ?_)
set_option maxHeartbeats 8000000 in
set_option maxRecDepth 100000 in
theorem tinderref05_Named.calls (k : Nat) (a0 : ByteArray) (r : Bool) (w : World) (h : tinderref05_Named.f k a0 = some r) :
    Calls Tryd.prog 16 #[.string a0] w fun e w' => e = .returned (.bool r) ∧ Drawn0 w w' := by
  have H : (if (a0.size : Int) < 1 then (tinderref05_Named.j0 k a0 true) else (tinderref05_Named.j0 k a0 (decide ((a0.size : Int) > 31)))) = some r := h
  clear h
  have HC2 := Aside0.mk H
  clear H
  go_enter Tryd.func16, Tryd.ntmps16
  go_upto_region 1 with (fail)
  go_cut [13] (fun v13 wc => ∃ (kq : Nat) (x13_1 : Bool), v13 = .bool x13_1 ∧ Aside0 (tinderref05_Named.j0 kq a0 x13_1 = some r) ∧ Aside0 (kq ≤ k) ∧ Drawn0 w wc)
  case first =>
    have H := HC2.out
    clear HC2
    by_cases c3 : (a0.size : Int) < 1
    · rw [if_pos c3] at H
      have c3b0 : decide ((a0.size : Int) < 1) = true := decide_eq_true c3
      have c3b1 : decide (a0.size < 1) = true := decide_eq_true (by omega)
      clear c3
      (first | rw [c3b0] | (simp only [i64_w, i32_w]; rw [c3b0]) | skip)
      have H' := Aside0.mk H
      clear H
      go_wp2
      go_meet
      case rel => exact ⟨_, (true), (by first | rfl | (simp; done) | (simp [*]; done)), H', ⟨by first | omega | exact Nat.le_refl _⟩, by repeat (first | exact Drawn0.refl _ | apply Drawn0.step)⟩
    · rw [if_neg c3] at H
      have c3b0 : decide ((a0.size : Int) < 1) = false := decide_eq_false c3
      have c3b1 : decide (a0.size < 1) = false := decide_eq_false (by omega)
      clear c3
      (first | rw [c3b0] | (simp only [i64_w, i32_w]; rw [c3b0]) | skip)
      have H' := Aside0.mk H
      clear H
      go_wp2
      go_meet
      case rel => exact ⟨_, (decide ((a0.size : Int) > 31)), (by first | rfl | (simp; done) | (simp [*]; done)), H', ⟨by first | omega | exact Nat.le_refl _⟩, by repeat (first | exact Drawn0.refl _ | apply Drawn0.step)⟩
  case rest =>
    clear HC2
    try clear c1
    try clear p2
    try clear c3
    try clear c3b0
    try clear c3b1
    obtain ⟨kq, x13_1, rfl, HA, HJ1, ⟨mc1, rfl⟩⟩ := hcut
    cases kq with
    | zero => exact absurd HA.out (by simp [tinderref05_Named.j0])
    | succ kj1 =>
      have H := HA.out
      clear HA
      simp only [tinderref05_Named.j0] at H
      by_cases c4 : x13_1 = true
      · subst c4
        have H1 : (some false) = some r := by rw [if_pos rfl] at H; exact H
        clear H
        have H := H1
        clear H1
        obtain rfl := Option.some.inj H
        go_wp2
        go_ret
        exact ⟨by first | rfl | (simp; done) | (simp [*]; done), by repeat (first | exact Drawn0.refl _ | apply Drawn0.step)⟩
      · replace c4 := Bool.eq_false_iff.mpr c4
        subst c4
        have H1 : (tinderref05_Named.l0 kj1 a0 0) = some r := by rw [if_neg (show ¬ (false = true) by decide)] at H; exact H
        clear H
        have H := H1
        clear H1
        have H' := Aside0.mk H
        clear H
        go_wp2
        go_loopg [3] kj1 (fun kq v3 w' => ∃ (x3_2 : Int), v3 = .int .i64 x3_2 ∧ Aside0 (tinderref05_Named.l0 kq a0 x3_2 = some r) ∧ Aside0 (kq ≤ kj1) ∧ Drawn0 w w')
        case atStart => exact ⟨(0), (by first | rfl | (simp; done) | (simp [*]; done)), H', ⟨Nat.le_refl _⟩, by repeat (first | exact Drawn0.refl _ | apply Drawn0.step)⟩
        case round =>
          clear H'
          try clear c1
          try clear p2
          try clear c3
          try clear c3b0
          try clear c3b1
          try clear c4
          try clear p2
          obtain ⟨x3_2, rfl, HA, HK2, ⟨m2, rfl⟩⟩ := hrel
          cases gk with
          | zero => exact absurd HA.out (by simp [tinderref05_Named.l0])
          | succ k2 =>
            have H := HA.out
            clear HA
            simp only [tinderref05_Named.l0] at H
            by_cases c5 : x3_2 < (a0.size : Int)
            · rw [if_pos c5] at H
              have c5b0 : decide (x3_2 < (a0.size : Int)) = true := decide_eq_true c5
              clear c5
              by_cases c6 : 0 ≤ x3_2
              · rw [if_pos c6] at H
                have c6b0 : decide (0 ≤ x3_2) = true := decide_eq_true c6
                clear c6
                have HC8 := Aside0.mk H
                clear H
                have p7 : 0 ≤ (x3_2 : Int) := of_decide_eq_true (by first | (with_reducible assumption) | assumption)
                have q7 : x3_2 < (a0.size : Int) := of_decide_eq_true (by first | (with_reducible assumption) | assumption)
                have hx7 := bt_at a0 x3_2
                replace p7 := eq_true p7
                replace q7 := eq_true q7
                go_upto_region 7 with (fail)
                go_cut [36] (fun v36 wc => ∃ (kq : Nat) (x36_7 : Bool), v36 = .bool x36_7 ∧ Aside0 (tinderref05_Named.j2 kq a0 x3_2 (bt a0 x3_2) x36_7 = some r) ∧ Aside0 (kq ≤ k2) ∧ Drawn0 w wc)
                case first =>
                  have H := HC8.out
                  clear HC8
                  by_cases c9 : (bt a0 x3_2) < 33
                  · rw [if_pos c9] at H
                    have c9b0 : decide ((bt a0 x3_2) < 33) = true := decide_eq_true c9
                    clear c9
                    (first | rw [c9b0] | (simp only [i64_w, i32_w]; rw [c9b0]) | skip)
                    have H' := Aside0.mk H
                    clear H
                    go_wp2
                    go_meet
                    case rel => exact ⟨_, (true), (by first | rfl | (simp; done) | (simp [*]; done)), H', ⟨by have := HJ1.out; have := HK2.out; first | omega | exact Nat.le_refl _⟩, by repeat (first | exact Drawn0.refl _ | apply Drawn0.step)⟩
                  · rw [if_neg c9] at H
                    have c9b0 : decide ((bt a0 x3_2) < 33) = false := decide_eq_false c9
                    clear c9
                    (first | rw [c9b0] | (simp only [i64_w, i32_w]; rw [c9b0]) | skip)
                    by_cases c10 : (bt a0 x3_2) > 126
                    · rw [if_pos c10] at H
                      have c10b0 : decide (126 < (bt a0 x3_2)) = true := decide_eq_true c10
                      clear c10
                      have H' := Aside0.mk H
                      clear H
                      go_wp2
                      go_meet
                      case rel => exact ⟨_, (true), (by first | rfl | (simp; done) | (simp [*]; done)), H', ⟨by have := HJ1.out; have := HK2.out; first | omega | exact Nat.le_refl _⟩, by repeat (first | exact Drawn0.refl _ | apply Drawn0.step)⟩
                    · rw [if_neg c10] at H
                      have c10b0 : decide (126 < (bt a0 x3_2)) = false := decide_eq_false c10
                      clear c10
                      by_cases c11 : (bt a0 x3_2) ≥ 65
                      · rw [if_pos c11] at H
                        have c11b0 : decide (65 ≤ (bt a0 x3_2)) = true := decide_eq_true c11
                        clear c11
                        have H' := Aside0.mk H
                        clear H
                        go_wp2
                        go_meet
                        case rel => exact ⟨_, (decide ((bt a0 x3_2) ≤ 90)), (by first | rfl | (simp; done) | (simp [*]; done)), H', ⟨by have := HJ1.out; have := HK2.out; first | omega | exact Nat.le_refl _⟩, by repeat (first | exact Drawn0.refl _ | apply Drawn0.step)⟩
                      · rw [if_neg c11] at H
                        have c11b0 : decide (65 ≤ (bt a0 x3_2)) = false := decide_eq_false c11
                        clear c11
                        have H' := Aside0.mk H
                        clear H
                        go_wp2
                        go_meet
                        case rel => exact ⟨_, (false), (by first | rfl | (simp; done) | (simp [*]; done)), H', ⟨by have := HJ1.out; have := HK2.out; first | omega | exact Nat.le_refl _⟩, by repeat (first | exact Drawn0.refl _ | apply Drawn0.step)⟩
                case rest =>
                  clear HC8
                  try clear c1
                  try clear p2
                  try clear c3
                  try clear c3b0
                  try clear c3b1
                  try clear c4
                  try clear c5
                  try clear c5b0
                  try clear c6
                  try clear c6b0
                  try clear p7
                  try clear q7
                  try clear hx7
                  try clear c9
                  try clear c9b0
                  try clear c10
                  try clear c10b0
                  try clear c11
                  try clear c11b0
                  try clear p2
                  try clear p7
                  try clear q7
                  obtain ⟨kq, x36_7, rfl, HA, HJ7, ⟨mc7, rfl⟩⟩ := hcut
                  cases kq with
                  | zero => exact absurd HA.out (by simp [tinderref05_Named.j2])
                  | succ kj7 =>
                    have H := HA.out
                    clear HA
                    simp only [tinderref05_Named.j2] at H
                    by_cases c12 : x36_7 = true
                    · subst c12
                      have H1 : (some false) = some r := by rw [if_pos rfl] at H; exact H
                      clear H
                      have H := H1
                      clear H1
                      obtain rfl := Option.some.inj H
                      go_wp2
                      go_ret
                      exact ⟨by first | rfl | (simp; done) | (simp [*]; done), by repeat (first | exact Drawn0.refl _ | apply Drawn0.step)⟩
                    · replace c12 := Bool.eq_false_iff.mpr c12
                      subst c12
                      have H1 : (tinderref05_Named.l1 kj7 a0 x3_2 (bt a0 x3_2) 0) = some r := by rw [if_neg (show ¬ (false = true) by decide)] at H; exact H
                      clear H
                      have H := H1
                      clear H1
                      have H' := Aside0.mk H
                      clear H
                      go_wp2
                      go_loopg [5] kj7 (fun kq v5 w' => ∃ (x5_4 : Int), v5 = .int .i64 x5_4 ∧ Aside0 (tinderref05_Named.l1 kq a0 x3_2 (bt a0 x3_2) x5_4 = some r) ∧ Aside0 (kq ≤ kj7) ∧ Drawn0 w w')
                      case atStart => exact ⟨(0), (by first | rfl | (simp; done) | (simp [*]; done)), H', ⟨Nat.le_refl _⟩, by repeat (first | exact Drawn0.refl _ | apply Drawn0.step)⟩
                      case round =>
                        clear H'
                        try clear c1
                        try clear p2
                        try clear c3
                        try clear c3b0
                        try clear c3b1
                        try clear c4
                        try clear c5
                        try clear c5b0
                        try clear c6
                        try clear c6b0
                        try clear c7
                        try clear p7
                        try clear q7
                        try clear hx7
                        try clear c9
                        try clear c9b0
                        try clear c10
                        try clear c10b0
                        try clear c11
                        try clear c11b0
                        try clear c12
                        try clear p2
                        try clear p7
                        try clear q7
                        obtain ⟨x5_4, rfl, HA, HK4, ⟨m4, rfl⟩⟩ := hrel
                        cases gk with
                        | zero => exact absurd HA.out (by simp [tinderref05_Named.l1])
                        | succ k4 =>
                          have H := HA.out
                          clear HA
                          simp only [tinderref05_Named.l1] at H
                          by_cases c13 : x5_4 < 6
                          · rw [if_pos c13] at H
                            have c13b0 : decide (x5_4 < 6) = true := decide_eq_true c13
                            clear c13
                            by_cases c14 : 0 ≤ x5_4
                            · rw [if_pos c14] at H
                              have c14b0 : decide (0 ≤ x5_4) = true := decide_eq_true c14
                              clear c14
                              by_cases c16 : (bt a0 x3_2) = (bt (⟨#[47, 92, 58, 91, 93, 64]⟩ : ByteArray) x5_4)
                              · rw [if_pos c16] at H
                                have c16b0 : ((bt a0 x3_2) == (bt (⟨#[47, 92, 58, 91, 93, 64]⟩ : ByteArray) x5_4)) = true := beq_iff_eq.mpr c16
                                have c16b1 : ((bt a0 x3_2) != (bt (⟨#[47, 92, 58, 91, 93, 64]⟩ : ByteArray) x5_4)) = false := bne_eq_false_iff_eq.mpr c16
                                clear c16
                                obtain rfl := Option.some.inj H
                                have p15 : 0 ≤ (x5_4 : Int) := of_decide_eq_true (by first | (with_reducible assumption) | assumption)
                                have q15 : x5_4 < (6 : Int) := of_decide_eq_true (by first | (with_reducible assumption) | assumption)
                                have hx15 := bt_at (⟨#[47, 92, 58, 91, 93, 64]⟩ : ByteArray) x5_4
                                replace p15 := eq_true p15
                                replace q15 := eq_true q15
                                go_wp2
                                go_ret
                                exact ⟨by first | rfl | (simp; done) | (simp [*]; done), by repeat (first | exact Drawn0.refl _ | apply Drawn0.step)⟩
                              · rw [if_neg c16] at H
                                have c16b0 : ((bt a0 x3_2) == (bt (⟨#[47, 92, 58, 91, 93, 64]⟩ : ByteArray) x5_4)) = false := beq_eq_false_iff_ne.mpr c16
                                have c16b1 : ((bt a0 x3_2) != (bt (⟨#[47, 92, 58, 91, 93, 64]⟩ : ByteArray) x5_4)) = true := bne_iff_ne.mpr c16
                                have H' := Aside0.mk H
                                clear H
                                have p15 : 0 ≤ (x5_4 : Int) := of_decide_eq_true (by first | (with_reducible assumption) | assumption)
                                have q15 : x5_4 < (6 : Int) := of_decide_eq_true (by first | (with_reducible assumption) | assumption)
                                have hx15 := bt_at (⟨#[47, 92, 58, 91, 93, 64]⟩ : ByteArray) x5_4
                                replace p15 := eq_true p15
                                replace q15 := eq_true q15
                                go_wp2
                                go_roundg k4
                                case measure => have := HJ1.out; have := HK2.out; have := HJ7.out; have := HK4.out; omega
                                case rel => exact ⟨(wrap64 (x5_4 + 1)), (by first | rfl | (simp; done) | (simp [*]; done)), H', ⟨by have := HJ1.out; have := HK2.out; have := HJ7.out; have := HK4.out; omega⟩, by repeat (first | exact Drawn0.refl _ | apply Drawn0.step)⟩
                            · rw [if_neg c14] at H
                              exact absurd H (by simp)
                          · rw [if_neg c13] at H
                            have c13b0 : decide (x5_4 < 6) = false := decide_eq_false c13
                            clear c13
                            have H' := Aside0.mk H
                            clear H
                            go_wp2
                            go_roundg k4
                            case measure => have := HJ1.out; have := HK2.out; have := HJ7.out; have := HK4.out; omega
                            case rel => exact ⟨(wrap64 (x3_2 + 1)), (by first | rfl | (simp; done) | (simp [*]; done)), H', ⟨by have := HJ1.out; have := HK2.out; have := HJ7.out; have := HK4.out; omega⟩, by repeat (first | exact Drawn0.refl _ | apply Drawn0.step)⟩
              · rw [if_neg c6] at H
                exact absurd H (by simp)
            · rw [if_neg c5] at H
              have c5b0 : decide (x3_2 < (a0.size : Int)) = false := decide_eq_false c5
              clear c5
              obtain rfl := Option.some.inj H
              go_wp2
              go_ret
              exact ⟨by first | rfl | (simp; done) | (simp [*]; done), by repeat (first | exact Drawn0.refl _ | apply Drawn0.step)⟩

end Go.Proofs.YtlhnaplmphdhlaaDoor.Q
end
section
set_option linter.unusedSimpArgs false
set_option linter.unusedVariables false
namespace Go.Proofs.YtlhnaplmphdhlaaDoor.Q
open Go.RowKit Go.Proofs.YtlhnaplmphdhlaaDoorW.PrintWords Go.Proofs.YtlhnaplmphdhlaaDoorW.PrintLast
def badB (c : Int) : Bool := decide (c = 47) || decide (c = 92) || decide (c = 58) || decide (c = 91) || decide (c = 93) || decide (c = 64)
def okC (c : Int) : Bool := decide (33 ≤ c) && decide (c ≤ 126) && !(decide (65 ≤ c) && decide (c ≤ 90)) && !badB c
def namedF (s : ByteArray) : Bool := decide (1 ≤ s.size) && decide (s.size ≤ 31) && (bytesOf s).all okC
theorem bad_all : ((List.range 256).all fun (c : Nat) => decide (0 ≤ Lib.indexByte (⟨#[47, 92, 58, 91, 93, 64]⟩ : ByteArray).data.toList ((c : Int).toNat.toUInt8)) == badB (c : Int)) = true := by kernel_rfl
theorem bad_idx (c : Int) (h : 0 ≤ c ∧ c ≤ 255) : decide (0 ≤ Lib.indexByte (⟨#[47, 92, 58, 91, 93, 64]⟩ : ByteArray).data.toList c.toNat.toUInt8) = badB c := by
  have h1 := List.all_eq_true.1 bad_all c.toNat (List.mem_range.2 (by omega))
  rw [beq_iff_eq, show ((c.toNat : Nat) : Int) = c by omega] at h1
  exact h1
theorem named_go (s : ByteArray) (hs : s.size ≤ 31) : ∀ (d k : Nat) (i : Int), 0 ≤ i → i + d = s.size → 2 * d + 2 ≤ k → prop_Named.l0 k s s.size i = some (((bytesOf s).drop i.toNat).all okC)
  | 0, k, i, h0, h1, hk => by
    obtain ⟨k, rfl⟩ : ∃ m, k = m + 1 := ⟨k - 1, by omega⟩
    rw [prop_Named.l0, if_neg (by omega), List.drop_eq_nil_of_le (by rw [bytesOf_length]; omega)]
    rfl
  | d + 1, k, i, h0, h1, hk => by
    obtain ⟨k, rfl⟩ : ∃ m, k = m + 1 + 1 := ⟨k - 2, by omega⟩
    have hb := bt_range s i
    have ih := named_go s hs d k (i + 1) (by omega) (by omega) (by omega)
    have hw : wrap64 (i + 1) = i + 1 := by unfold wrap64; omega
    rw [prop_Named.l0, if_pos (by omega), if_pos h0, if_pos (by omega), bytes_at s i h0 (by omega), List.all_cons]
    have ht : prop_Named.j2 (k + 1) s (bt s i) s.size i true = some false := by rw [prop_Named.j2, if_pos rfl]
    have hf : prop_Named.j2 (k + 1) s (bt s i) s.size i false = some (!badB (bt s i) && ((bytesOf s).drop (i + 1).toNat).all okC) := by
      rw [prop_Named.j2, if_neg (by decide), strings_IndexByte.f, Option.bind_some, hw, ih, ← bad_idx (bt s i) hb]
      by_cases hx : 0 ≤ Lib.indexByte (⟨#[47, 92, 58, 91, 93, 64]⟩ : ByteArray).data.toList (bt s i).toNat.toUInt8
      · rw [if_pos hx]; simp [hx]
      · rw [if_neg hx]; simp [hx]
    rw [show okC (bt s i) = (decide (33 ≤ bt s i) && decide (bt s i ≤ 126) && !(decide (65 ≤ bt s i) && decide (bt s i ≤ 90)) && !badB (bt s i)) from rfl]
    by_cases h2 : bt s i ≤ 32
    · rw [if_pos h2, ht]
      simp [show ¬ 33 ≤ bt s i by omega]
    · rw [if_neg h2]
      by_cases h3 : bt s i > 126
      · rw [if_pos h3, ht]
        simp [show ¬ bt s i ≤ 126 by omega]
      · rw [if_neg h3]
        by_cases h4 : bt s i ≥ 65
        · rw [if_pos h4]
          by_cases h5 : bt s i ≤ 90
          · rw [decide_eq_true h5, ht]
            simp [h5, show 65 ≤ bt s i by omega]
          · rw [decide_eq_false h5, hf]
            simp [h5, show 33 ≤ bt s i by omega, show bt s i ≤ 126 by omega]
        · rw [if_neg h4, hf]
          simp [show ¬ 65 ≤ bt s i by omega, show 33 ≤ bt s i by omega, show bt s i ≤ 126 by omega]
theorem named_eq (k : Nat) (hk : 100 ≤ k) (s : ByteArray) : prop_Named.f k s = some (namedF s) := by
  obtain ⟨k, rfl⟩ : ∃ m, k = m + 1 := ⟨k - 1, by omega⟩
  unfold prop_Named.f namedF
  by_cases h0 : s.size = 0
  · rw [if_pos ((empty_iff s).2 h0), prop_Named.j0, if_pos rfl]
    simp [h0]
  · rw [if_neg (fun h => h0 ((empty_iff s).1 h)), prop_Named.j0]
    by_cases h1 : (s.size : Int) > 31
    · rw [decide_eq_true h1, if_pos rfl]
      simp [show ¬ s.size ≤ 31 by omega]
    · rw [decide_eq_false h1, if_neg (by decide), named_go s (by omega) s.size k 0 (Int.le_refl 0) (by omega) (by omega)]
      simp [show 1 ≤ s.size by omega, show s.size ≤ 31 by omega]
theorem bad_bt : (bt (⟨#[47, 92, 58, 91, 93, 64]⟩ : ByteArray) 0 = 47 ∧ bt (⟨#[47, 92, 58, 91, 93, 64]⟩ : ByteArray) 1 = 92 ∧ bt (⟨#[47, 92, 58, 91, 93, 64]⟩ : ByteArray) 2 = 58) ∧ (bt (⟨#[47, 92, 58, 91, 93, 64]⟩ : ByteArray) 3 = 91 ∧ bt (⟨#[47, 92, 58, 91, 93, 64]⟩ : ByteArray) 4 = 93 ∧ bt (⟨#[47, 92, 58, 91, 93, 64]⟩ : ByteArray) 5 = 64) := ⟨⟨by kernel_rfl, by kernel_rfl, by kernel_rfl⟩, by kernel_rfl, by kernel_rfl, by kernel_rfl⟩
theorem refbad_go (k : Nat) (s : ByteArray) (i c : Int) : tinderref05_Named.l1 (k + 7) s i c 0 = if badB c = true then some false else tinderref05_Named.l0 k s (wrap64 (i + 1)) := by
  obtain ⟨⟨b0, b1, b2⟩, b3, b4, b5⟩ := bad_bt
  have w1 : wrap64 ((0 : Int) + 1) = 1 := by unfold wrap64; omega
  have w2 : wrap64 ((1 : Int) + 1) = 2 := by unfold wrap64; omega
  have w3 : wrap64 ((2 : Int) + 1) = 3 := by unfold wrap64; omega
  have w4 : wrap64 ((3 : Int) + 1) = 4 := by unfold wrap64; omega
  have w5 : wrap64 ((4 : Int) + 1) = 5 := by unfold wrap64; omega
  have w6 : wrap64 ((5 : Int) + 1) = 6 := by unfold wrap64; omega
  unfold badB
  rw [tinderref05_Named.l1, if_pos (by decide), if_pos (by decide), b0]
  by_cases h0 : c = 47
  · rw [if_pos h0]; simp [h0]
  · rw [if_neg h0, w1, tinderref05_Named.l1, if_pos (by decide), if_pos (by decide), b1]
    by_cases h1 : c = 92
    · rw [if_pos h1]; simp [h1]
    · rw [if_neg h1, w2, tinderref05_Named.l1, if_pos (by decide), if_pos (by decide), b2]
      by_cases h2 : c = 58
      · rw [if_pos h2]; simp [h2]
      · rw [if_neg h2, w3, tinderref05_Named.l1, if_pos (by decide), if_pos (by decide), b3]
        by_cases h3 : c = 91
        · rw [if_pos h3]; simp [h3]
        · rw [if_neg h3, w4, tinderref05_Named.l1, if_pos (by decide), if_pos (by decide), b4]
          by_cases h4 : c = 93
          · rw [if_pos h4]; simp [h4]
          · rw [if_neg h4, w5, tinderref05_Named.l1, if_pos (by decide), if_pos (by decide), b5]
            by_cases h5 : c = 64
            · rw [if_pos h5]; simp [h5]
            · rw [if_neg h5, w6, tinderref05_Named.l1, if_neg (by decide)]
              simp [h0, h1, h2, h3, h4, h5]
theorem refnamed_go (s : ByteArray) (hs : s.size ≤ 31) : ∀ (d k : Nat) (i : Int), 0 ≤ i → i + d = s.size → 10 * d + 2 ≤ k → tinderref05_Named.l0 k s i = some (((bytesOf s).drop i.toNat).all okC)
  | 0, k, i, h0, h1, hk => by
    obtain ⟨k, rfl⟩ : ∃ m, k = m + 1 := ⟨k - 1, by omega⟩
    rw [tinderref05_Named.l0, if_neg (by omega), List.drop_eq_nil_of_le (by rw [bytesOf_length]; omega)]
    rfl
  | d + 1, k, i, h0, h1, hk => by
    obtain ⟨k, rfl⟩ : ∃ m, k = m + 7 + 1 + 1 := ⟨k - 9, by omega⟩
    have hb := bt_range s i
    have ih := refnamed_go s hs d k (i + 1) (by omega) (by omega) (by omega)
    have hw : wrap64 (i + 1) = i + 1 := by unfold wrap64; omega
    rw [tinderref05_Named.l0, if_pos (by omega), if_pos h0, bytes_at s i h0 (by omega), List.all_cons]
    have ht : tinderref05_Named.j2 (k + 7 + 1) s i (bt s i) true = some false := by rw [tinderref05_Named.j2, if_pos rfl]
    have hf : tinderref05_Named.j2 (k + 7 + 1) s i (bt s i) false = some (!badB (bt s i) && ((bytesOf s).drop (i + 1).toNat).all okC) := by
      rw [tinderref05_Named.j2, if_neg (by decide), refbad_go, hw, ih]
      cases badB (bt s i) <;> simp
    rw [show okC (bt s i) = (decide (33 ≤ bt s i) && decide (bt s i ≤ 126) && !(decide (65 ≤ bt s i) && decide (bt s i ≤ 90)) && !badB (bt s i)) from rfl]
    by_cases h2 : bt s i < 33
    · rw [if_pos h2, ht]
      simp [show ¬ 33 ≤ bt s i by omega]
    · rw [if_neg h2]
      by_cases h3 : bt s i > 126
      · rw [if_pos h3, ht]
        simp [show ¬ bt s i ≤ 126 by omega]
      · rw [if_neg h3]
        by_cases h4 : bt s i ≥ 65
        · rw [if_pos h4]
          by_cases h5 : bt s i ≤ 90
          · rw [decide_eq_true h5, ht]
            simp [h5, show 65 ≤ bt s i by omega]
          · rw [decide_eq_false h5, hf]
            simp [h5, show 33 ≤ bt s i by omega, show bt s i ≤ 126 by omega]
        · rw [if_neg h4, hf]
          simp [show ¬ 65 ≤ bt s i by omega, show 33 ≤ bt s i by omega, show bt s i ≤ 126 by omega]
theorem refnamed_eq (k : Nat) (hk : 400 ≤ k) (s : ByteArray) : tinderref05_Named.f k s = some (namedF s) := by
  obtain ⟨k, rfl⟩ : ∃ m, k = m + 1 := ⟨k - 1, by omega⟩
  unfold tinderref05_Named.f namedF
  by_cases h0 : s.size = 0
  · rw [if_pos (by omega), tinderref05_Named.j0, if_pos rfl]
    simp [h0]
  · rw [if_neg (by omega), tinderref05_Named.j0]
    by_cases h1 : (s.size : Int) > 31
    · rw [decide_eq_true h1, if_pos rfl]
      simp [show ¬ s.size ≤ 31 by omega]
    · rw [decide_eq_false h1, if_neg (by decide), refnamed_go s (by omega) s.size k 0 (Int.le_refl 0) (by omega) (by omega)]
      simp [show 1 ≤ s.size by omega, show s.size ≤ 31 by omega]
end Go.Proofs.YtlhnaplmphdhlaaDoor.Q
end
section
set_option linter.unusedSimpArgs false
set_option linter.unusedVariables false
namespace Go.Proofs.YtlhnaplmphdhlaaDoor.Q
open Go.RowKit Go.Proofs.YtlhnaplmphdhlaaDoorW.PrintWords Go.Proofs.YtlhnaplmphdhlaaDoorW.PrintLast
theorem unit_1f0 : unitF (⟨#[49, 102, 44, 48]⟩ : ByteArray) = ([31, 0], 0) := by kernel_rfl
theorem enc_ab : encF (⟨#[97, 98]⟩ : ByteArray) = ([97, 98, 0], 0) := by kernel_rfl
theorem named_ab : namedF (⟨#[97, 98]⟩ : ByteArray) = true := by kernel_rfl
theorem exec_string {w : World} {A : Option Addr} {n c : Nat} {l : List Int} {a : Act} {o : Oper} {x : Operand} (ho : o.op = .convert 25 9 x) (hx : a.eval x = .slice A n c) (hC : Kd.C (Kd.int .u8) w A n l) : (execOp a.eval o).run Tryd.prog w = .ok (.value (.string (strOfNums l))) w := by
  have hr : (convert 25 9 (.slice A n c)).run Tryd.prog w = .ok (.string (strOfNums l)) w := Kd.C_string Tryd.underlying25 Tryd.underlying5 Tryd.underlying9 hC
  simp only [execOp, ho, hx]
  rw [Sem.run_bind, hr]
  rfl
theorem cell_first {W : World} {A : Addr} {n : Nat} {x : Int} {l : List Int} (h : Kd.C (Kd.int .u32) W (some A) n (x :: l)) : W.cell? A = some (.int .u32 x) := by
  obtain ⟨ad, cs, hA, _, hK, hcell⟩ := ReadsRow.get_ h 0 0 (by decide) (by have := h.1; simp at this; omega)
  injection hA with hA
  subst hA
  obtain rfl : cs = [.int .u32 x] := hK
  have h2 := hcell 0 _ rfl
  rw [show (0 : Int).toNat * (Kd.int .u32).sz + 0 = 0 by rfl, Addr_add_zero] at h2
  exact h2
set_option maxRecDepth 100000 in
set_option maxHeartbeats 4000000 in
theorem alive_calls (w : World) : Calls Tryd.prog 14 #[] w fun e w' => e = .returned (.bool true) ∧ Below w.heap.size w w' := by
  have HU := Aside0.mk (show ∀ W : World, Calls Tryd.prog 35 #[.string ⟨#[49, 102, 44, 48]⟩] W (fun e w' => ∃ A c, e = .returned (.tuple #[.slice (some A) 2 c, .int .i64 0]) ∧ 2 ≤ c ∧ Kd.C (Kd.int .u32) w' (some A) 2 [31, 0] ∧ Below W.heap.size W w') from fun W => by
    have h := unit_calls ⟨#[49, 102, 44, 48]⟩ W (by decide)
    rw [unit_1f0] at h
    refine h.mono ?_
    rintro e w' ⟨v, rfl, hR, hb⟩
    obtain ⟨A, c, rfl, hc, hC⟩ := Kd.R_reads hR
    obtain ⟨ad, rfl, _⟩ := hC.2.2 (by decide)
    exact ⟨ad, c, rfl, hc, hC, hb⟩)
  have HE := Aside0.mk (show ∀ W : World, Calls Tryd.prog 17 #[.string ⟨#[97, 98]⟩] W (fun e w' => ∃ A c, e = .returned (.tuple #[.slice A 3 c, .int .i64 0]) ∧ 3 ≤ c ∧ Kd.C (Kd.int .u8) w' A 3 [97, 98, 0] ∧ Below W.heap.size W w') from fun W => by
    have h := enc_calls ⟨#[97, 98]⟩ W
    rw [enc_ab] at h
    exact h)
  have HN := Aside0.mk (show ∀ W : World, Calls Tryd.prog 15 #[.string ⟨#[97, 98]⟩] W (fun e w' => e = .returned (.bool true) ∧ Below W.heap.size W w') from fun W => by
    refine (prop_Named.calls 100 ⟨#[97, 98]⟩ true W (by rw [named_eq 100 (by decide), named_ab])).mono ?_
    rintro e w' ⟨rfl, hb⟩
    exact ⟨rfl, hb⟩)
  have d1 : ((strOfNums [97, 98, 0]).toList == ([97, 98, 0] : List UInt8)) = true := by kernel_rfl
  go_enter Tryd.func14, Tryd.ntmps14
  go_wp2_with (first
    | (go_at_call 35; (with_reducible refine (HU.out _).mono ?_); rintro e w1 ⟨A, c, rfl, hc, hC, hb⟩; have HC1 := Aside0.mk hC; have HB1 := Aside0.mk hb; clear hC hb hc)
    | (go_at_call 17; (with_reducible refine (HE.out _).mono ?_); rintro e w2 ⟨A2, c2, rfl, hc2, hC2, hb⟩; have HC2 := Aside0.mk hC2; have HB2 := Aside0.mk (below_step HB1.out hb); have hcell := cell_first (Kd.C_below HC1.out hb); clear hC2 hb hc2)
    | ((with_reducible refine gate_dst (N := 32) rfl ?_); refine gate_guard (by rfl) ?_; refine Kd.event_run rfl (exec_string rfl rfl HC2.out) ?_)
    | (go_at_call 15; (with_reducible refine (HN.out _).mono ?_); rintro e w3 ⟨rfl, hb⟩; have HB3 := Aside0.mk (below_step HB2.out hb); clear hb))
  go_ret
  exact ⟨rfl, HB3.out⟩
def tinderlaw05_alive.f : Option Bool := some true
theorem tinderlaw05_alive.calls (r : Bool) (w : World) (h : tinderlaw05_alive.f = some r) : Calls Tryd.prog 14 #[] w fun e w' => e = .returned (.bool r) ∧ Below w.heap.size w w' := by
  obtain rfl := Option.some.inj h
  exact alive_calls w
end Go.Proofs.YtlhnaplmphdhlaaDoor.Q
end
section
set_option linter.unusedSimpArgs false
set_option linter.unusedVariables false
namespace Go.Proofs.YtlhnaplmphdhlaaDoor.Q
open Go.RowKit Go.Proofs.YtlhnaplmphdhlaaDoorW.PrintWords Go.Proofs.YtlhnaplmphdhlaaDoorW.PrintLast Go.Proofs.YtlhnaplmphdhlaaDoorW.PrintMore
attribute [local go_sem] max2_int min2_int max_two min_two max_three min_three max_four min_four
theorem cuts_at (c : UInt8) : ∀ (m : Nat) (l : List UInt8), (∀ j, j < m → l[j]? ≠ some c) → l[m]? = some c → cuts c l = l.take m :: cuts c (l.drop (m + 1))
  | _, [], _, h => by simp at h
  | 0, a :: l, _, h => by
    simp at h
    rw [cuts, if_pos h]
    rfl
  | m + 1, a :: l, h, hm => by
    have ha : ¬ a = c := fun e => h 0 (by omega) (by simp [e])
    rw [cuts, if_neg ha, cuts_at c m l (fun j hj => by have := h (j + 1) (by omega); simpa using this) (by simpa using hm)]
    rfl
theorem cuts_end (c : UInt8) : ∀ (l : List UInt8), (∀ j : Nat, l[j]? ≠ some c) → cuts c l = [l]
  | [], _ => rfl
  | a :: l, h => by
    have ha : ¬ a = c := fun e => h 0 (by simp [e])
    rw [cuts, if_neg ha, cuts_end c l (fun j => by have := h (j + 1); rwa [List.getElem?_cons_succ] at this)]
def unitG : List (List UInt8) → List Int → Nat → List Int × Int
  | [], out, n => if 4 < n then ([], 3) else (out, 0)
  | p :: ps, out, n => if okU p = true then unitG ps (if n + 1 ≤ 4 then out ++ [valU p] else out) (n + 1) else ([], 15)
theorem unitG_eq : ∀ (ps : List (List UInt8)) (out : List Int) (n : Nat), (out.length = n ∧ n ≤ 4 ∨ 4 < n) →
    unitG ps out n = if ps.all okU = true then (if 4 < n + ps.length then ([], 3) else (out ++ ps.map valU, 0)) else ([], 15)
  | [], out, n, _ => by simp [unitG]
  | p :: ps, out, n, h => by
    rw [unitG, List.all_cons]
    by_cases hp : okU p = true
    · rw [if_pos hp, unitG_eq ps _ (n + 1) (by
        by_cases h4 : n + 1 ≤ 4
        · rw [if_pos h4, List.length_append, List.length_singleton]; omega
        · omega), hp, Bool.true_and, List.length_cons]
      have e : n + 1 + ps.length = n + (ps.length + 1) := by omega
      rw [e]
      by_cases ha : ps.all okU = true
      · rw [if_pos ha, if_pos ha]
        by_cases hl : 4 < n + (ps.length + 1)
        · rw [if_pos hl, if_pos hl]
        · rw [if_neg hl, if_neg hl, if_pos (by omega), List.append_assoc]
          rfl
      · rw [if_neg ha, if_neg ha]
    · rw [if_neg hp]
      have : okU p = false := by simpa using hp
      rw [this, Bool.false_and, if_neg (by decide)]
theorem unitF_G (s : ByteArray) : unitF s = unitG (cuts 44 s.data.toList) [] 0 := by
  rw [unitG_eq (cuts 44 s.data.toList) [] 0 (.inl ⟨rfl, by omega⟩)]
  unfold unitF
  rw [Nat.zero_add]
  rfl
theorem okU_of (q : ByteArray) (p : List UInt8) (h : q = bOf p) : okU p = (decide ((parF q 16).2 = 0) && !decide (bt q 0 = 45) && decide (q.size ≤ 8)) := by
  subst h
  unfold okU
  rw [bOf_size]
theorem valU_of (q : ByteArray) (p : List UInt8) (h : q = bOf p) : valU p = (parF q 16).1 := by
  subst h
  rfl
theorem byte_bt (s : ByteArray) (j : Nat) (h : j < s.size) : s.data.toList[j]? = some 44 ↔ bt s (j : Int) = 44 := by
  unfold bt
  rw [dif_pos (show ((j : Int)).toNat < s.size from h)]
  rw [List.getElem?_eq_getElem (by rw [Array.length_toList]; exact h), Option.some.injEq, Array.getElem_toList]
  show s.data[j] = 44 ↔ ((s.data[j]).toNat : Int) = 44
  constructor
  · intro e; rw [e]; rfl
  · intro e
    apply UInt8.toNat_inj.1
    have h3 : (44 : UInt8).toNat = 44 := rfl
    omega
theorem extract_bOf (s : ByteArray) (a b : Nat) : s.extract a b = bOf ((s.data.toList.drop a).take (b - a)) := by
  apply ByteArray.ext
  apply Array.ext'
  rw [ByteArray.data_extract, Array.toList_extract]
  unfold bOf
  rw [List.extract_eq_take_drop]
theorem info24u : (Tryd.prog.info? 24).map (fun i => (i.zero, i.size, i.bytes)) = some (some (.int .u32 0), 1, 4) := by kernel_rfl
set_option maxRecDepth 100000 in
set_option maxHeartbeats 4000000 in
theorem refUnit_calls (s : ByteArray) (w : World) (hs : s.size ≤ 1000000000) :
    Calls Tryd.prog 36 #[.string s] w fun e w' => ∃ v, e = .returned (.tuple #[v, .int .i64 (unitF s).2]) ∧ Kd.R (Kd.int .u32) 24 w' w.heap.size (fun _ => True) v (unitF s).1 ∧ Below w.heap.size w w' := by
  obtain ⟨R, hR⟩ : ∃ R, R = unitF s := ⟨_, rfl⟩
  rw [← hR]
  rw [unitF_G] at hR
  obtain ⟨B, hB⟩ : ∃ B, B = s.data.toList := ⟨_, rfl⟩
  have hBl : B.length = s.size := by rw [hB]; exact Array.length_toList
  rw [← hB] at hR
  have HRr := Aside0.mk hR
  have HBb := Aside0.mk hB
  have HBl := Aside0.mk hBl
  have HS := Aside0.mk hs
  have HB0 := Aside0.mk (Below.refl w.heap.size w)
  have HP := Aside0.mk (show ∀ (q : ByteArray) (X : World), q.size ≤ s.size → Calls Tryd.prog 55 #[.string q, .int .u32 16] X (fun e w' => e = .returned (.tuple #[.int .u32 (parF q 16).1, .int .i64 (parF q 16).2]) ∧ Drawn0 X w') from fun q X hq =>
      tinderref02_Parse.calls 1000000100 q 16 _ _ X (by rw [refparse_eq _ _ _ (by omega) (by omega)]))
  clear hs hR hB hBl
  go_enter Tryd.func36, Tryd.ntmps36
  go_wp2
  go_loopg [4, 5, 6, 7] (s.size + 1) (fun kq v4 v5 v6 v7 w' => ∃ (out : List Int) (fr n i : Int), v5 = .int .i64 fr ∧ v6 = .int .i64 n ∧ v7 = .int .i64 i ∧ Aside0 (0 ≤ fr ∧ fr ≤ i ∧ i + kq = s.size + 1 ∧ 0 ≤ n ∧ n ≤ i ∧ out.length ≤ i) ∧ Aside0 (∀ j : Nat, fr ≤ (j : Int) → (j : Int) < i → B[j]? ≠ some 44) ∧ Aside0 (if i ≤ (s.size : Int) then unitG (cuts 44 (B.drop fr.toNat)) out n.toNat = R else unitG [] out n.toNat = R) ∧ Aside0 (Kd.R (Kd.int .u32) 24 w' w.heap.size (fun _ => True) v4 out) ∧ Aside0 (Below w.heap.size w w'))
  case atStart =>
    refine ⟨[], 0, 0, 0, rfl, rfl, rfl, ⟨by omega, by omega, by omega, by omega, by omega, by simp⟩, ⟨fun j h1 h2 => by omega⟩, ⟨?_⟩, ⟨Kd.R_nil _ _ _ _ _⟩, HB0⟩
    rw [if_pos (by omega)]
    exact HRr.out.symm
  case round =>
    obtain ⟨out, fr, n, i, rfl, rfl, rfl, HI, HN, HM, HO, HB⟩ := hrel
    cases gk with
    | zero =>
      have hi := HI.out
      have hm := HM.out
      rw [if_neg (by omega)] at hm
      have hlt : decide (i ≤ (s.size : Int)) = false := decide_eq_false (by omega)
      unfold unitG at hm
      by_cases h4 : 4 < n.toNat
      · rw [if_pos h4] at hm
        have d4 : decide (4 < n) = true := decide_eq_true (by omega)
        have HE := Aside0.mk hm.symm
        clear hi hm h4 HI HN HM
        go_wp2
        go_ret2
        exact ⟨_, by rw [HE.out]; rfl, by rw [HE.out]; exact Kd.R_nil _ _ _ _ _, HB.out⟩
      · rw [if_neg h4] at hm
        have d4 : decide (4 < n) = false := decide_eq_false (by omega)
        have HE := Aside0.mk hm.symm
        clear hi hm h4 HI HN HM
        go_wp2
        go_ret2
        exact ⟨_, by rw [HE.out]; rfl, by rw [HE.out]; exact HO.out, HB.out⟩
    | succ k1 =>
      have hi := HI.out
      have hm := HM.out
      have hl := HS.out
      have hbl := HBl.out
      rw [if_pos (by omega)] at hm
      have hlt : decide (i ≤ (s.size : Int)) = true := decide_eq_true (by omega)
      have hw : IntKind.i64.wrap (i + 1) = i + 1 := (i64_w _).trans (by unfold wrap64; omega)
      have hw2 : wrap64 (i + 1) = i + 1 := by unfold wrap64; omega
      by_cases hb : i < (s.size : Int)
      · have d1 : decide (i < (s.size : Int)) = true := decide_eq_true hb
        have p1 : (0 ≤ i) = True := eq_true (by omega)
        have p1b : decide (0 ≤ i) = true := decide_eq_true (by omega)
        have p2b : (i < (s.size : Int)) = True := eq_true hb
        have hbi := bt_at s i
        by_cases hc : bt s i = 44
        · have d2 : (bt s i != 44) = false := bne_eq_false_iff_eq.2 hc
          have hcut : cuts 44 (B.drop fr.toNat) = (B.drop fr.toNat).take (i.toNat - fr.toNat) :: cuts 44 (B.drop (i + 1).toNat) := by
            rw [cuts_at 44 (i.toNat - fr.toNat) _ (fun j hj e => by
              rw [List.getElem?_drop] at e
              exact HN.out (fr.toNat + j) (by omega) (by omega) e) (by
              rw [List.getElem?_drop, show fr.toNat + (i.toNat - fr.toNat) = i.toNat by omega, HBb.out]
              exact (byte_bt s i.toNat (by omega)).2 (by rw [show ((i.toNat : Nat) : Int) = i by omega]; exact hc)), List.drop_drop, show fr.toNat + (i.toNat - fr.toNat + 1) = (i + 1).toNat by omega]
          rw [hcut, unitG] at hm
          obtain ⟨q, hq⟩ : ∃ q, q = s.extract fr.toNat i.toNat := ⟨_, rfl⟩
          have hqb : q = bOf ((B.drop fr.toNat).take (i.toNat - fr.toNat)) := by rw [hq, extract_bOf, HBb.out]
          rw [okU_of q _ hqb, valU_of q _ hqb] at hm
          have hqs : q.size ≤ s.size := by rw [hqb, bOf_size, List.length_take, List.length_drop]; omega
          have HPq := Aside0.mk (HP.out q)
          have HQS := Aside0.mk hqs
          have HQ := Aside0.mk hq
          obtain ⟨x, hx⟩ : ∃ x, x = (parF q 16).1 := ⟨_, rfl⟩
          obtain ⟨e0, he0⟩ : ∃ e0, e0 = (parF q 16).2 := ⟨_, rfl⟩
          rw [← hx, ← he0] at HPq hm
          have hempty : q.size < 1 → e0 ≠ 0 := fun h1 h2 => by
            have := parF_pos (he0 ▸ h2)
            omega
          have q1 : (0 ≤ fr) = True := eq_true (by omega)
          have q2 : (fr ≤ i) = True := eq_true (by omega)
          have q3 : (i ≤ (s.size : Int)) = True := eq_true (by omega)
          have q1b : decide (0 ≤ fr) = true := decide_eq_true (by omega)
          have q2b : decide (fr ≤ i) = true := decide_eq_true (by omega)
          by_cases s1 : q.size < 1
          · have ds1 : decide ((q.size : Int) < 1) = true := decide_eq_true (by omega)
            have HE := Aside0.mk (show R = ([], 15) by rw [← hm, if_neg (by have := hempty s1; simp [this])])
            clear hi hm hl hbl hqb hqs hx he0 hempty hcut s1
            go_upto_region 8 with (fail)
            rw [← hq]
            clear hq
            go_wp2
            go_ret2
            exact ⟨_, by rw [HE.out]; rfl, by rw [HE.out]; exact Kd.R_nil _ _ _ _ _, HB.out⟩
          have ds1 : decide ((q.size : Int) < 1) = false := decide_eq_false (by omega)
          by_cases s8 : 8 < q.size
          · have ds8 : decide (8 < (q.size : Int)) = true := decide_eq_true (by omega)
            have HE := Aside0.mk (show R = ([], 15) by rw [← hm, if_neg (by have : ¬ q.size ≤ 8 := by omega
                                                                            simp [this])])
            clear hi hm hl hbl hqb hqs hx he0 hempty hcut s1 s8
            go_upto_region 8 with (fail)
            rw [← hq]
            clear hq
            go_wp2
            go_ret2
            exact ⟨_, by rw [HE.out]; rfl, by rw [HE.out]; exact Kd.R_nil _ _ _ _ _, HB.out⟩
          have ds8 : decide (8 < (q.size : Int)) = false := decide_eq_false (by omega)
          have hz0 : decide ((0 : Int) < (q.size : Int)) = true := decide_eq_true (by omega)
          have hz1 : (0 < (q.size : Int)) = True := eq_true (by omega)
          have hz2 : (0 < q.size) = True := eq_true (by omega)
          have hpos : 0 < q.size := by omega
          have hbt := bt_idx q hpos
          by_cases s45 : bt q 0 = 45
          · have ds45 : (((q[0]'hpos).toNat : Int) == 45) = true := by rw [hbt]; exact beq_iff_eq.2 s45
            have HE := Aside0.mk (show R = ([], 15) by rw [← hm, if_neg (by simp [s45])])
            clear hi hm hl hbl hqb hqs hx he0 hempty hcut s1 s8 s45 hbt
            go_upto_region 8 with (fail)
            rw [← hq]
            clear hq
            go_wp2
            go_ret2
            exact ⟨_, by rw [HE.out]; rfl, by rw [HE.out]; exact Kd.R_nil _ _ _ _ _, HB.out⟩
          have ds45 : (((q[0]'hpos).toNat : Int) == 45) = false := by rw [hbt]; exact beq_eq_false_iff_ne.2 s45
          by_cases hz : e0 = 0
          · have de : (e0 != 0) = false := bne_eq_false_iff_eq.2 hz
            have hm2 := hm
            rw [if_pos (by simp [hz, s45]; omega)] at hm2
            have hwn : IntKind.i64.wrap (n + 1) = n + 1 := (i64_w _).trans (by unfold wrap64; omega)
            have hwn2 : wrap64 (n + 1) = n + 1 := by unfold wrap64; omega
            by_cases h4 : n + 1 ≤ 4
            · have d4 : decide (n + 1 ≤ 4) = true := decide_eq_true h4
              rw [if_pos (by omega)] at hm2
              have HNX := Aside0.mk (show if i + 1 ≤ (s.size : Int) then unitG (cuts 44 (B.drop (i + 1).toNat)) (out ++ [x]) (n + 1).toNat = R else unitG [] (out ++ [x]) (n + 1).toNat = R by
                rw [show (n + 1).toNat = n.toNat + 1 by omega]
                rw [if_pos (by omega)]
                exact hm2)
              have HAL := Aside0.mk (show out.length ≤ 1000000000 by omega)
              clear hi hm hm2 hl hbl hqb hqs hx he0 hempty hcut s1 s8 s45 hz h4 hbt
              go_upto_region 8 with (fail)
              rw [← hq]
              clear hq
              go_wp2_with (first
                | (go_at_call 55; (with_reducible refine (HPq.out _ HQS.out).mono ?_); rintro e w2 ⟨rfl, hd⟩; have HB2 := Aside0.mk (below_step HB.out hd.below); have HO2 := Aside0.mk (Kd.R_below HO.out hd.below); clear hd)
                | ((with_reducible refine gate_builtin (b := .append) (xs := #[.tmp 57, .tmp 59]) rfl ?_); at_builtin; refine Kd.R_append (Kd.int .u32) (w0 := w) w.heap.size rfl (.tmp 57) (.tmp 59) 36 24 (.int .u32 0) 4 rfl Tryd.underlying36 info24u rfl (by decide) (by omega) _ out x [.int .u32 x] (fun _ => True) (fun _ => False) rfl rfl ?aP (fun _ hk => hk.elim) ?aF ?aO ?aB ?aS ?aL ?_; (case aP => exact rfl); (case aB => exact HB2.out); (case aF => exact (fun _ _ => trivial)); (case aO => exact HO2.out); (case aS => exact HB2.out.size); (case aL => have := HAL.out; omega); intro v1 w1 ho hb hg hat; have HO3 := Aside0.mk ho; have HB3 := Aside0.mk hb; clear ho hb hg hat))
              go_roundg k1
              case measure => omega
              case rel =>
                have hi := HI.out
                exact ⟨out ++ [x], i + 1, n + 1, i + 1, rfl, rfl, rfl, ⟨by omega, by omega, by omega, by omega, by omega, by rw [List.length_append, List.length_singleton]; omega⟩, ⟨fun j h1 h2 => by omega⟩, HNX, HO3, HB3⟩
            · have d4 : decide (n + 1 ≤ 4) = false := decide_eq_false h4
              rw [if_neg (by omega)] at hm2
              have HNX := Aside0.mk (show if i + 1 ≤ (s.size : Int) then unitG (cuts 44 (B.drop (i + 1).toNat)) out (n + 1).toNat = R else unitG [] out (n + 1).toNat = R by
                rw [show (n + 1).toNat = n.toNat + 1 by omega]
                rw [if_pos (by omega)]
                exact hm2)
              clear hi hm hm2 hl hbl hqb hqs hx he0 hempty hcut s1 s8 s45 hz h4 hbt
              go_upto_region 8 with (fail)
              rw [← hq]
              clear hq
              go_wp2_with (first
                | (go_at_call 55; (with_reducible refine (HPq.out _ HQS.out).mono ?_); rintro e w2 ⟨rfl, hd⟩; have HB2 := Aside0.mk (below_step HB.out hd.below); have HO2 := Aside0.mk (Kd.R_below HO.out hd.below); clear hd))
              go_roundg k1
              case measure => omega
              case rel =>
                have hi := HI.out
                exact ⟨out, i + 1, n + 1, i + 1, rfl, rfl, rfl, ⟨by omega, by omega, by omega, by omega, by omega, by omega⟩, ⟨fun j h1 h2 => by omega⟩, HNX, HO2, HB2⟩
          · have de : (e0 != 0) = true := bne_iff_ne.2 hz
            have HE := Aside0.mk (show R = ([], 15) by rw [← hm, if_neg (by simp [hz])])
            clear hi hm hl hbl hqb hqs hx he0 hempty hcut s1 s8 s45 hz hbt
            go_upto_region 8 with (fail)
            rw [← hq]
            clear hq
            go_wp2_with (first
              | (go_at_call 55; (with_reducible refine (HPq.out _ HQS.out).mono ?_); rintro e w2 ⟨rfl, hd⟩; have HB2 := Aside0.mk (below_step HB.out hd.below); clear hd))
            go_ret2
            exact ⟨_, by rw [HE.out]; rfl, by rw [HE.out]; exact Kd.R_nil _ _ _ _ _, HB2.out⟩
        · have d2 : (bt s i != 44) = true := bne_iff_ne.2 hc
          have HNN := Aside0.mk (show ∀ j : Nat, fr ≤ (j : Int) → (j : Int) < i + 1 → B[j]? ≠ some 44 from fun j h1 h2 e => by
            by_cases hj : (j : Int) < i
            · exact HN.out j h1 hj e
            · rw [HBb.out] at e
              exact hc (by rw [show i = (j : Int) by omega]; exact (byte_bt s j (by omega)).1 e))
          have HM2 := Aside0.mk (show if i + 1 ≤ (s.size : Int) then unitG (cuts 44 (B.drop fr.toNat)) out n.toNat = R else unitG [] out n.toNat = R by rw [if_pos (by omega)]; exact hm)
          clear hi hm hl hbl hb hc
          go_wp2
          go_roundg k1
          case measure => omega
          case rel =>
            have hi := HI.out
            exact ⟨out, fr, n, i + 1, rfl, rfl, rfl, ⟨by omega, by omega, by omega, by omega, by omega, by omega⟩, HNN, HM2, HO, HB⟩
      · have d1 : decide (i < (s.size : Int)) = false := decide_eq_false hb
        have hcut : cuts 44 (B.drop fr.toNat) = (B.drop fr.toNat).take (i.toNat - fr.toNat) :: [] := by
          have hie : i = (s.size : Int) := by omega
          rw [cuts_end 44 _ (fun j e => by
            rw [List.getElem?_drop] at e
            have hlt2 := (List.getElem?_eq_some_iff.1 e).1
            exact HN.out (fr.toNat + j) (by omega) (by omega) e)]
          rw [List.take_of_length_le (by rw [List.length_drop]; omega)]
        rw [hcut, unitG] at hm
        obtain ⟨q, hq⟩ : ∃ q, q = s.extract fr.toNat i.toNat := ⟨_, rfl⟩
        have hqb : q = bOf ((B.drop fr.toNat).take (i.toNat - fr.toNat)) := by rw [hq, extract_bOf, HBb.out]
        rw [okU_of q _ hqb, valU_of q _ hqb] at hm
        have hqs : q.size ≤ s.size := by rw [hqb, bOf_size, List.length_take, List.length_drop]; omega
        have HPq := Aside0.mk (HP.out q)
        have HQS := Aside0.mk hqs
        have HQ := Aside0.mk hq
        obtain ⟨x, hx⟩ : ∃ x, x = (parF q 16).1 := ⟨_, rfl⟩
        obtain ⟨e0, he0⟩ : ∃ e0, e0 = (parF q 16).2 := ⟨_, rfl⟩
        rw [← hx, ← he0] at HPq hm
        have hempty : q.size < 1 → e0 ≠ 0 := fun h1 h2 => by
          have := parF_pos (he0 ▸ h2)
          omega
        have q1 : (0 ≤ fr) = True := eq_true (by omega)
        have q2 : (fr ≤ i) = True := eq_true (by omega)
        have q3 : (i ≤ (s.size : Int)) = True := eq_true (by omega)
        have q1b : decide (0 ≤ fr) = true := decide_eq_true (by omega)
        have q2b : decide (fr ≤ i) = true := decide_eq_true (by omega)
        by_cases s1 : q.size < 1
        · have ds1 : decide ((q.size : Int) < 1) = true := decide_eq_true (by omega)
          have HE := Aside0.mk (show R = ([], 15) by rw [← hm, if_neg (by have := hempty s1; simp [this])])
          clear hi hm hl hbl hqb hqs hx he0 hempty hcut s1
          go_upto_region 8 with (fail)
          rw [← hq]
          clear hq
          go_wp2
          go_ret2
          exact ⟨_, by rw [HE.out]; rfl, by rw [HE.out]; exact Kd.R_nil _ _ _ _ _, HB.out⟩
        have ds1 : decide ((q.size : Int) < 1) = false := decide_eq_false (by omega)
        by_cases s8 : 8 < q.size
        · have ds8 : decide (8 < (q.size : Int)) = true := decide_eq_true (by omega)
          have HE := Aside0.mk (show R = ([], 15) by rw [← hm, if_neg (by have : ¬ q.size ≤ 8 := by omega
                                                                          simp [this])])
          clear hi hm hl hbl hqb hqs hx he0 hempty hcut s1 s8
          go_upto_region 8 with (fail)
          rw [← hq]
          clear hq
          go_wp2
          go_ret2
          exact ⟨_, by rw [HE.out]; rfl, by rw [HE.out]; exact Kd.R_nil _ _ _ _ _, HB.out⟩
        have ds8 : decide (8 < (q.size : Int)) = false := decide_eq_false (by omega)
        have hz0 : decide ((0 : Int) < (q.size : Int)) = true := decide_eq_true (by omega)
        have hz1 : (0 < (q.size : Int)) = True := eq_true (by omega)
        have hz2 : (0 < q.size) = True := eq_true (by omega)
        have hpos : 0 < q.size := by omega
        have hbt := bt_idx q hpos
        by_cases s45 : bt q 0 = 45
        · have ds45 : (((q[0]'hpos).toNat : Int) == 45) = true := by rw [hbt]; exact beq_iff_eq.2 s45
          have HE := Aside0.mk (show R = ([], 15) by rw [← hm, if_neg (by simp [s45])])
          clear hi hm hl hbl hqb hqs hx he0 hempty hcut s1 s8 s45 hbt
          go_upto_region 8 with (fail)
          rw [← hq]
          clear hq
          go_wp2
          go_ret2
          exact ⟨_, by rw [HE.out]; rfl, by rw [HE.out]; exact Kd.R_nil _ _ _ _ _, HB.out⟩
        have ds45 : (((q[0]'hpos).toNat : Int) == 45) = false := by rw [hbt]; exact beq_eq_false_iff_ne.2 s45
        by_cases hz : e0 = 0
        · have de : (e0 != 0) = false := bne_eq_false_iff_eq.2 hz
          have hm2 := hm
          rw [if_pos (by simp [hz, s45]; omega)] at hm2
          have hwn : IntKind.i64.wrap (n + 1) = n + 1 := (i64_w _).trans (by unfold wrap64; omega)
          have hwn2 : wrap64 (n + 1) = n + 1 := by unfold wrap64; omega
          by_cases h4 : n + 1 ≤ 4
          · have d4 : decide (n + 1 ≤ 4) = true := decide_eq_true h4
            rw [if_pos (by omega)] at hm2
            have HNX := Aside0.mk (show if i + 1 ≤ (s.size : Int) then unitG (cuts 44 (B.drop (i + 1).toNat)) (out ++ [x]) (n + 1).toNat = R else unitG [] (out ++ [x]) (n + 1).toNat = R by
              rw [show (n + 1).toNat = n.toNat + 1 by omega]
              rw [if_neg (by omega)]
              exact hm2)
            have HAL := Aside0.mk (show out.length ≤ 1000000000 by omega)
            clear hi hm hm2 hl hbl hqb hqs hx he0 hempty hcut s1 s8 s45 hz h4 hbt
            go_upto_region 8 with (fail)
            rw [← hq]
            clear hq
            go_wp2_with (first
              | (go_at_call 55; (with_reducible refine (HPq.out _ HQS.out).mono ?_); rintro e w2 ⟨rfl, hd⟩; have HB2 := Aside0.mk (below_step HB.out hd.below); have HO2 := Aside0.mk (Kd.R_below HO.out hd.below); clear hd)
              | ((with_reducible refine gate_builtin (b := .append) (xs := #[.tmp 57, .tmp 59]) rfl ?_); at_builtin; refine Kd.R_append (Kd.int .u32) (w0 := w) w.heap.size rfl (.tmp 57) (.tmp 59) 36 24 (.int .u32 0) 4 rfl Tryd.underlying36 info24u rfl (by decide) (by omega) _ out x [.int .u32 x] (fun _ => True) (fun _ => False) rfl rfl ?aP (fun _ hk => hk.elim) ?aF ?aO ?aB ?aS ?aL ?_; (case aP => exact rfl); (case aB => exact HB2.out); (case aF => exact (fun _ _ => trivial)); (case aO => exact HO2.out); (case aS => exact HB2.out.size); (case aL => have := HAL.out; omega); intro v1 w1 ho hb hg hat; have HO3 := Aside0.mk ho; have HB3 := Aside0.mk hb; clear ho hb hg hat))
            go_roundg k1
            case measure => omega
            case rel =>
              have hi := HI.out
              exact ⟨out ++ [x], i + 1, n + 1, i + 1, rfl, rfl, rfl, ⟨by omega, by omega, by omega, by omega, by omega, by rw [List.length_append, List.length_singleton]; omega⟩, ⟨fun j h1 h2 => by omega⟩, HNX, HO3, HB3⟩
          · have d4 : decide (n + 1 ≤ 4) = false := decide_eq_false h4
            rw [if_neg (by omega)] at hm2
            have HNX := Aside0.mk (show if i + 1 ≤ (s.size : Int) then unitG (cuts 44 (B.drop (i + 1).toNat)) out (n + 1).toNat = R else unitG [] out (n + 1).toNat = R by
              rw [show (n + 1).toNat = n.toNat + 1 by omega]
              rw [if_neg (by omega)]
              exact hm2)
            clear hi hm hm2 hl hbl hqb hqs hx he0 hempty hcut s1 s8 s45 hz h4 hbt
            go_upto_region 8 with (fail)
            rw [← hq]
            clear hq
            go_wp2_with (first
              | (go_at_call 55; (with_reducible refine (HPq.out _ HQS.out).mono ?_); rintro e w2 ⟨rfl, hd⟩; have HB2 := Aside0.mk (below_step HB.out hd.below); have HO2 := Aside0.mk (Kd.R_below HO.out hd.below); clear hd))
            go_roundg k1
            case measure => omega
            case rel =>
              have hi := HI.out
              exact ⟨out, i + 1, n + 1, i + 1, rfl, rfl, rfl, ⟨by omega, by omega, by omega, by omega, by omega, by omega⟩, ⟨fun j h1 h2 => by omega⟩, HNX, HO2, HB2⟩
        · have de : (e0 != 0) = true := bne_iff_ne.2 hz
          have HE := Aside0.mk (show R = ([], 15) by rw [← hm, if_neg (by simp [hz])])
          clear hi hm hl hbl hqb hqs hx he0 hempty hcut s1 s8 s45 hz hbt
          go_upto_region 8 with (fail)
          rw [← hq]
          clear hq
          go_wp2_with (first
            | (go_at_call 55; (with_reducible refine (HPq.out _ HQS.out).mono ?_); rintro e w2 ⟨rfl, hd⟩; have HB2 := Aside0.mk (below_step HB.out hd.below); clear hd))
          go_ret2
          exact ⟨_, by rw [HE.out]; rfl, by rw [HE.out]; exact Kd.R_nil _ _ _ _ _, HB2.out⟩
def tinderref05_ParseUnit.f (s : ByteArray) : Option (List Int × Int) := if s.size ≤ 1000000000 then some (unitF s) else none
theorem tinderref05_ParseUnit.calls (a0 : ByteArray) (r1 : List Int) (r2 : Int) (w : World) (h : tinderref05_ParseUnit.f a0 = some (r1, r2)) :
    Calls Tryd.prog 36 #[.string a0] w fun e w' => ∃ v0_ : Value, e = .returned (.tuple #[v0_, .int .i64 r2]) ∧ Kd.R (Kd.int .u32) 24 w' w.heap.size (fun _ => True) v0_ r1 ∧ Below w.heap.size w w' := by
  unfold tinderref05_ParseUnit.f at h
  split at h
  · rename_i hs
    have e := Option.some.inj h
    have h2 := refUnit_calls a0 w hs
    rw [e] at h2
    exact h2
  · cases h
end Go.Proofs.YtlhnaplmphdhlaaDoor.Q
end
section
namespace Go.Proofs.YtlhnaplmphdhlaaDoor.Q
open Go.RowKit Go.Proofs.YtlhnaplmphdhlaaDoorW.PrintWords Go.Proofs.YtlhnaplmphdhlaaDoorW.PrintLast Go.Proofs.YtlhnaplmphdhlaaDoorW.PrintMore
set_option linter.unusedVariables false
set_option linter.unusedSimpArgs false

attribute [local go_sem] max2_int min2_int max_two min_two max_three min_three max_four min_four
/-! ### tinderlaw05_PropUnits: function 8 -/
def tinderlaw05_PropUnits.f (k : Nat) (a0 : ByteArray) (l1 : List Int) : Option (Bool) := (tinderlaw05_alive.f).bind fun t9001 => (if t9001 = true then ((prop_ParseUnit.f a0).bind fun bt9002 => ((tinderref05_ParseUnit.f a0).bind fun bt9006 => ((tinderref03_Same.f k bt9002.1 bt9006.1).bind fun t9010 => (if t9010 = true then (if bt9002.2 = bt9006.2 then ((prop_ShowUnit.f k l1).bind fun t9011 => ((tinderref05_ShowUnit.f k l1).bind fun t9012 => (some (t9011.toList == t9012.toList)))) else (some false)) else (some false))))) else (some false))
theorem tinderlaw05_PropUnits.mono : ∀ a0 a1 k, LeO (tinderlaw05_PropUnits.f k a0 a1) (tinderlaw05_PropUnits.f (k + 1) a0 a1) := by
  intro a0 a1 k
  unfold tinderlaw05_PropUnits.f
  repeat' first
      | (with_reducible exact prop_ShowUnit.mono _ _)
      | (with_reducible exact tinderref03_Same.mono _ _ _)
      | (with_reducible exact tinderref05_ShowUnit.mono _ _)
      | (with_reducible exact LeO.refl _)
      | (with_reducible exact LeO.none _)
      | (with_reducible refine LeO.ite ?_ ?_)
      | (with_reducible refine LeO.bind ?_ (fun _ => ?_))
      | exact prop_ShowUnit.mono _ _
      | exact tinderref03_Same.mono _ _ _
      | exact tinderref05_ShowUnit.mono _ _
      | exact LeO.none _
      | refine LeO.ite ?_ ?_
      | refine LeO.bind ?_ (fun _ => ?_)
set_option maxHeartbeats 8000000 in
set_option maxRecDepth 100000 in
theorem tinderlaw05_PropUnits.calls (k : Nat) (a0 : ByteArray) (A1 : Option Addr) (c1 : Nat) (l1 : List Int) (r : Bool) (w : World) (ht : QB.Tabs w) (hr1 : Kd.C (Kd.int .u32) w A1 l1.length l1) (hc1 : l1.length ≤ c1) (h : tinderlaw05_PropUnits.f k a0 l1 = some r) :
    Calls Tryd.prog 8 #[.string a0, .slice A1 l1.length c1] w fun e w' => e = .returned (.bool r) ∧ Below w.heap.size w w' := by
  have HR1 := Aside0.mk hr1
  have HC1 := Aside0.mk hc1
  clear hr1 hc1
  have HB := Aside0.mk (Below.refl w.heap.size w)
  have H : ((tinderlaw05_alive.f).bind fun t9001 => (if t9001 = true then ((prop_ParseUnit.f a0).bind fun bt9002 => ((tinderref05_ParseUnit.f a0).bind fun bt9006 => ((tinderref03_Same.f k bt9002.1 bt9006.1).bind fun t9010 => (if t9010 = true then (if bt9002.2 = bt9006.2 then ((prop_ShowUnit.f k l1).bind fun t9011 => ((tinderref05_ShowUnit.f k l1).bind fun t9012 => (some (t9011.toList == t9012.toList)))) else (some false)) else (some false))))) else (some false))) = some r := h
  clear h
  replace H := Option.bind_eq_some_iff.mp H
  obtain ⟨t9001, A30, H⟩ := H
  replace H : (if t9001 = true then ((prop_ParseUnit.f a0).bind fun bt9002 => ((tinderref05_ParseUnit.f a0).bind fun bt9006 => ((tinderref03_Same.f k bt9002.1 bt9006.1).bind fun t9010 => (if t9010 = true then (if bt9002.2 = bt9006.2 then ((prop_ShowUnit.f k l1).bind fun t9011 => ((tinderref05_ShowUnit.f k l1).bind fun t9012 => (some (t9011.toList == t9012.toList)))) else (some false)) else (some false))))) else (some false)) = some r := H
  have A3 := Aside0.mk A30
  clear A30
  by_cases c4 : t9001 = true
  · subst c4
    have H1 : ((prop_ParseUnit.f a0).bind fun bt9002 => ((tinderref05_ParseUnit.f a0).bind fun bt9006 => ((tinderref03_Same.f k bt9002.1 bt9006.1).bind fun t9010 => (if t9010 = true then (if bt9002.2 = bt9006.2 then ((prop_ShowUnit.f k l1).bind fun t9011 => ((tinderref05_ShowUnit.f k l1).bind fun t9012 => (some (t9011.toList == t9012.toList)))) else (some false)) else (some false))))) = some r := by rw [if_pos rfl] at H; exact H
    clear H
    have H := H1
    clear H1
    replace H := Option.bind_eq_some_iff.mp H
    obtain ⟨⟨t9002, t9003⟩, A50, H⟩ := H
    replace H : ((tinderref05_ParseUnit.f a0).bind fun bt9006 => ((tinderref03_Same.f k t9002 bt9006.1).bind fun t9010 => (if t9010 = true then (if t9003 = bt9006.2 then ((prop_ShowUnit.f k l1).bind fun t9011 => ((tinderref05_ShowUnit.f k l1).bind fun t9012 => (some (t9011.toList == t9012.toList)))) else (some false)) else (some false)))) = some r := H
    have A5 := Aside0.mk A50
    clear A50
    replace H := Option.bind_eq_some_iff.mp H
    obtain ⟨⟨t9006, t9007⟩, A60, H⟩ := H
    replace H : ((tinderref03_Same.f k t9002 t9006).bind fun t9010 => (if t9010 = true then (if t9003 = t9007 then ((prop_ShowUnit.f k l1).bind fun t9011 => ((tinderref05_ShowUnit.f k l1).bind fun t9012 => (some (t9011.toList == t9012.toList)))) else (some false)) else (some false))) = some r := H
    have A6 := Aside0.mk A60
    clear A60
    replace H := Option.bind_eq_some_iff.mp H
    obtain ⟨t9010, A70, H⟩ := H
    replace H : (if t9010 = true then (if t9003 = t9007 then ((prop_ShowUnit.f k l1).bind fun t9011 => ((tinderref05_ShowUnit.f k l1).bind fun t9012 => (some (t9011.toList == t9012.toList)))) else (some false)) else (some false)) = some r := H
    have A7 := Aside0.mk A70
    clear A70
    by_cases c8 : t9010 = true
    · subst c8
      have H1 : (if t9003 = t9007 then ((prop_ShowUnit.f k l1).bind fun t9011 => ((tinderref05_ShowUnit.f k l1).bind fun t9012 => (some (t9011.toList == t9012.toList)))) else (some false)) = some r := by rw [if_pos rfl] at H; exact H
      clear H
      have H := H1
      clear H1
      by_cases c9 : t9003 = t9007
      · rw [if_pos c9] at H
        have c9b0 : (t9003 == t9007) = true := beq_iff_eq.mpr c9
        have c9b1 : (t9003 != t9007) = false := bne_eq_false_iff_eq.mpr c9
        clear c9
        replace H := Option.bind_eq_some_iff.mp H
        obtain ⟨t9011, A100, H⟩ := H
        replace H : ((tinderref05_ShowUnit.f k l1).bind fun t9012 => (some (t9011.toList == t9012.toList))) = some r := H
        have A10 := Aside0.mk A100
        clear A100
        replace H := Option.bind_eq_some_iff.mp H
        obtain ⟨t9012, A110, H⟩ := H
        replace H : (some (t9011.toList == t9012.toList)) = some r := H
        have A11 := Aside0.mk A110
        clear A110
        obtain rfl := Option.some.inj H
        go_enter Tryd.func8, Tryd.ntmps8
        go_wp2_with (first | ((with_reducible refine gate_callee (f := 14) rfl ?_); refine goesL_ (some 9) rfl rfl Tryd.func14 (by kernel_rfl) rfl #[] rfl (by (try simp only [List.map_toArray, List.map_cons, List.map_nil]); first | done | rfl | (simp only [List.length_drop, List.length_take]; rfl)) ?_; (with_reducible refine (tinderlaw05_alive.calls  true _ A3.out).mono ?_); rintro e w12 ⟨rfl, hb⟩; refine ⟨_, rfl, ?_⟩; have n0_ := Aside0.mk (below_step (by repeat (first | (with_reducible first | exact HB.out | apply below_alloc | apply pw_below_drewN | apply below_drew1) | exact HB.out)) hb); clear HB; have HB := n0_; clear n0_; (try clear hb); (try clear hb2); (try clear hk); (try clear hi)) | ((with_reducible refine gate_callee (f := 35) rfl ?_); refine goesL_ (some 13) rfl rfl Tryd.func35 (by kernel_rfl) rfl #[.string a0] rfl (by (try simp only [List.map_toArray, List.map_cons, List.map_nil]); first | done | rfl | (simp only [List.length_drop, List.length_take]; rfl)) ?_; (with_reducible refine (prop_ParseUnit.calls a0 t9002 t9003 _ A5.out).mono ?_); rintro e w13 ⟨v9004, rfl, ho0, hb⟩; refine ⟨_, rfl, ?_⟩; have n0_ := Aside0.mk (Kd.R_lower ho0 (below_size (by repeat (first | (with_reducible first | exact HB.out | apply below_alloc | apply pw_below_drewN | apply below_drew1) | exact HB.out)))); have n1_ := Aside0.mk (below_step (by repeat (first | (with_reducible first | exact HB.out | apply below_alloc | apply pw_below_drewN | apply below_drew1) | exact HB.out)) hb); clear HB; have HO9005 := n0_; have HB := n1_; clear n0_ n1_; (try clear hb); (try clear hb2); (try clear hk); (try clear hi); (try clear ho0)) | ((with_reducible refine gate_callee (f := 36) rfl ?_); refine goesL_ (some 18) rfl rfl Tryd.func36 (by kernel_rfl) rfl #[.string a0] rfl (by (try simp only [List.map_toArray, List.map_cons, List.map_nil]); first | done | rfl | (simp only [List.length_drop, List.length_take]; rfl)) ?_; (with_reducible refine (tinderref05_ParseUnit.calls a0 t9006 t9007 _ A6.out).mono ?_); rintro e w14 ⟨v9008, rfl, ho0, hb⟩; refine ⟨_, rfl, ?_⟩; have n0_ := Aside0.mk (Kd.R_elder' (by (with_reducible repeat (first | apply Kd.R_alloc | apply Kd.R_drewN | apply Kd.R_drew)); exact HO9005.out) (Kd.R_base ho0) hb); have n1_ := Aside0.mk (Kd.R_lower (Kd.R_new' ho0 (Kd.R_lt (by (with_reducible repeat (first | apply Kd.R_alloc | apply Kd.R_drewN | apply Kd.R_drew)); exact HO9005.out))) (below_size (by repeat (first | (with_reducible first | exact HB.out | apply below_alloc | apply pw_below_drewN | apply below_drew1) | exact HB.out)))); have n2_ := Aside0.mk (below_step (by repeat (first | (with_reducible first | exact HB.out | apply below_alloc | apply pw_below_drewN | apply below_drew1) | exact HB.out)) hb); clear HO9005; clear HB; have HO9005 := n0_; have HO9009 := n1_; have HB := n2_; clear n0_ n1_ n2_; (try clear hb); (try clear hb2); (try clear hk); (try clear hi); (try clear ho0); obtain ⟨Ao15, co15, eo15⟩ := Kd.R_slice HO9005.out; subst eo15; obtain ⟨Ao16, co16, eo16⟩ := Kd.R_slice HO9009.out; subst eo16) | ((with_reducible refine gate_callee (f := 28) rfl ?_); refine goesL_ (some 23) rfl rfl Tryd.func28 (by kernel_rfl) rfl #[.slice Ao15 t9002.length co15, .slice Ao16 t9006.length co16] rfl (by (try simp only [List.map_toArray, List.map_cons, List.map_nil]); first | done | rfl | (simp only [List.length_drop, List.length_take]; rfl)) ?_; (with_reducible refine (tinderref03_Same.calls k _ _ t9002 _ _ t9006 true _ ?side1 ?side2 ?side3 ?side4 A7.out).mono ?_); (case side1 => repeat (first | exact (Kd.R_reads' HO9005.out).2.2 | (with_reducible refine Kd.C_alloc ?_ _) | (with_reducible refine Kd.C_drewN ?_ _) | (with_reducible refine Kd.C_drew ?_))); (case side2 => exact (Kd.R_reads' HO9005.out).2.1); (case side3 => repeat (first | exact (Kd.R_reads' HO9009.out).2.2 | (with_reducible refine Kd.C_alloc ?_ _) | (with_reducible refine Kd.C_drewN ?_ _) | (with_reducible refine Kd.C_drew ?_))); (case side4 => exact (Kd.R_reads' HO9009.out).2.1); rintro e w' ⟨rfl, ⟨nd, rfl⟩⟩; refine ⟨_, rfl, ?_⟩) | (go_at_call 37; (with_reducible refine (prop_ShowUnit.calls k _ _ l1 t9011 _ (QB.Tabs.below ht (by repeat (first | (with_reducible first | exact HB.out | apply below_alloc | apply pw_below_drewN | apply below_drew1 | refine below_set ?_ (Aside0.out (by assumption))) | exact HB.out))) ?side1 ?side2 A10.out).mono ?_); (case side1 => repeat (first | exact (Kd.C_below HR1.out (by repeat (first | (with_reducible first | exact HB.out | apply below_alloc | apply pw_below_drewN | apply below_drew1) | exact HB.out))) | (with_reducible refine Kd.C_alloc ?_ _) | (with_reducible refine Kd.C_drewN ?_ _) | (with_reducible refine Kd.C_drew ?_))); (case side2 => exact HC1.out); rintro e w17 ⟨rfl, hb⟩; have n0_ := Aside0.mk (Kd.R_below (by (with_reducible repeat (first | apply Kd.R_alloc | apply Kd.R_drewN | apply Kd.R_drew)); exact HO9005.out) hb); have n1_ := Aside0.mk (Kd.R_below (by (with_reducible repeat (first | apply Kd.R_alloc | apply Kd.R_drewN | apply Kd.R_drew)); exact HO9009.out) hb); have n2_ := Aside0.mk (below_step (by repeat (first | (with_reducible first | exact HB.out | apply below_alloc | apply pw_below_drewN | apply below_drew1) | exact HB.out)) hb); clear HO9005; clear HO9009; clear HB; have HO9005 := n0_; have HO9009 := n1_; have HB := n2_; clear n0_ n1_ n2_; (try clear hb); (try clear hb2); (try clear hk); (try clear hi)) | (go_at_call 38; (with_reducible refine (tinderref05_ShowUnit.calls k _ _ l1 t9012 _ ?side1 ?side2 A11.out).mono ?_); (case side1 => repeat (first | exact (Kd.C_below HR1.out HB.out) | (with_reducible refine Kd.C_alloc ?_ _) | (with_reducible refine Kd.C_drewN ?_ _) | (with_reducible refine Kd.C_drew ?_))); (case side2 => exact HC1.out); rintro e w18 ⟨rfl, hb⟩; have n0_ := Aside0.mk (Kd.R_below (by (with_reducible repeat (first | apply Kd.R_alloc | apply Kd.R_drewN | apply Kd.R_drew)); exact HO9005.out) hb); have n1_ := Aside0.mk (Kd.R_below (by (with_reducible repeat (first | apply Kd.R_alloc | apply Kd.R_drewN | apply Kd.R_drew)); exact HO9009.out) hb); have n2_ := Aside0.mk (below_step (by repeat (first | (with_reducible first | exact HB.out | apply below_alloc | apply pw_below_drewN | apply below_drew1) | exact HB.out)) hb); clear HO9005; clear HO9009; clear HB; have HO9005 := n0_; have HO9009 := n1_; have HB := n2_; clear n0_ n1_ n2_; (try clear hb); (try clear hb2); (try clear hk); (try clear hi)))
        go_ret
        exact ⟨by first | rfl | (simp [errW_none, errW_some] <;> rfl) | (simp [*, errW_none, errW_some] <;> rfl), by repeat (first | (with_reducible first | exact HB.out | apply below_alloc | apply pw_below_drewN | apply below_drew1) | exact HB.out)⟩
      · rw [if_neg c9] at H
        have c9b0 : (t9003 == t9007) = false := beq_eq_false_iff_ne.mpr c9
        have c9b1 : (t9003 != t9007) = true := bne_iff_ne.mpr c9
        obtain rfl := Option.some.inj H
        go_enter Tryd.func8, Tryd.ntmps8
        go_wp2_with (first | ((with_reducible refine gate_callee (f := 14) rfl ?_); refine goesL_ (some 9) rfl rfl Tryd.func14 (by kernel_rfl) rfl #[] rfl (by (try simp only [List.map_toArray, List.map_cons, List.map_nil]); first | done | rfl | (simp only [List.length_drop, List.length_take]; rfl)) ?_; (with_reducible refine (tinderlaw05_alive.calls  true _ A3.out).mono ?_); rintro e w19 ⟨rfl, hb⟩; refine ⟨_, rfl, ?_⟩; have n0_ := Aside0.mk (below_step (by repeat (first | (with_reducible first | exact HB.out | apply below_alloc | apply pw_below_drewN | apply below_drew1) | exact HB.out)) hb); clear HB; have HB := n0_; clear n0_; (try clear hb); (try clear hb2); (try clear hk); (try clear hi)) | ((with_reducible refine gate_callee (f := 35) rfl ?_); refine goesL_ (some 13) rfl rfl Tryd.func35 (by kernel_rfl) rfl #[.string a0] rfl (by (try simp only [List.map_toArray, List.map_cons, List.map_nil]); first | done | rfl | (simp only [List.length_drop, List.length_take]; rfl)) ?_; (with_reducible refine (prop_ParseUnit.calls a0 t9002 t9003 _ A5.out).mono ?_); rintro e w20 ⟨v9004, rfl, ho0, hb⟩; refine ⟨_, rfl, ?_⟩; have n0_ := Aside0.mk (Kd.R_lower ho0 (below_size (by repeat (first | (with_reducible first | exact HB.out | apply below_alloc | apply pw_below_drewN | apply below_drew1) | exact HB.out)))); have n1_ := Aside0.mk (below_step (by repeat (first | (with_reducible first | exact HB.out | apply below_alloc | apply pw_below_drewN | apply below_drew1) | exact HB.out)) hb); clear HB; have HO9005 := n0_; have HB := n1_; clear n0_ n1_; (try clear hb); (try clear hb2); (try clear hk); (try clear hi); (try clear ho0)) | ((with_reducible refine gate_callee (f := 36) rfl ?_); refine goesL_ (some 18) rfl rfl Tryd.func36 (by kernel_rfl) rfl #[.string a0] rfl (by (try simp only [List.map_toArray, List.map_cons, List.map_nil]); first | done | rfl | (simp only [List.length_drop, List.length_take]; rfl)) ?_; (with_reducible refine (tinderref05_ParseUnit.calls a0 t9006 t9007 _ A6.out).mono ?_); rintro e w21 ⟨v9008, rfl, ho0, hb⟩; refine ⟨_, rfl, ?_⟩; have n0_ := Aside0.mk (Kd.R_elder' (by (with_reducible repeat (first | apply Kd.R_alloc | apply Kd.R_drewN | apply Kd.R_drew)); exact HO9005.out) (Kd.R_base ho0) hb); have n1_ := Aside0.mk (Kd.R_lower (Kd.R_new' ho0 (Kd.R_lt (by (with_reducible repeat (first | apply Kd.R_alloc | apply Kd.R_drewN | apply Kd.R_drew)); exact HO9005.out))) (below_size (by repeat (first | (with_reducible first | exact HB.out | apply below_alloc | apply pw_below_drewN | apply below_drew1) | exact HB.out)))); have n2_ := Aside0.mk (below_step (by repeat (first | (with_reducible first | exact HB.out | apply below_alloc | apply pw_below_drewN | apply below_drew1) | exact HB.out)) hb); clear HO9005; clear HB; have HO9005 := n0_; have HO9009 := n1_; have HB := n2_; clear n0_ n1_ n2_; (try clear hb); (try clear hb2); (try clear hk); (try clear hi); (try clear ho0); obtain ⟨Ao22, co22, eo22⟩ := Kd.R_slice HO9005.out; subst eo22; obtain ⟨Ao23, co23, eo23⟩ := Kd.R_slice HO9009.out; subst eo23) | ((with_reducible refine gate_callee (f := 28) rfl ?_); refine goesL_ (some 23) rfl rfl Tryd.func28 (by kernel_rfl) rfl #[.slice Ao22 t9002.length co22, .slice Ao23 t9006.length co23] rfl (by (try simp only [List.map_toArray, List.map_cons, List.map_nil]); first | done | rfl | (simp only [List.length_drop, List.length_take]; rfl)) ?_; (with_reducible refine (tinderref03_Same.calls k _ _ t9002 _ _ t9006 true _ ?side1 ?side2 ?side3 ?side4 A7.out).mono ?_); (case side1 => repeat (first | exact (Kd.R_reads' HO9005.out).2.2 | (with_reducible refine Kd.C_alloc ?_ _) | (with_reducible refine Kd.C_drewN ?_ _) | (with_reducible refine Kd.C_drew ?_))); (case side2 => exact (Kd.R_reads' HO9005.out).2.1); (case side3 => repeat (first | exact (Kd.R_reads' HO9009.out).2.2 | (with_reducible refine Kd.C_alloc ?_ _) | (with_reducible refine Kd.C_drewN ?_ _) | (with_reducible refine Kd.C_drew ?_))); (case side4 => exact (Kd.R_reads' HO9009.out).2.1); rintro e w' ⟨rfl, ⟨nd, rfl⟩⟩; refine ⟨_, rfl, ?_⟩))
        go_ret
        exact ⟨by first | rfl | (simp [errW_none, errW_some] <;> rfl) | (simp [*, errW_none, errW_some] <;> rfl), by repeat (first | (with_reducible first | exact HB.out | apply below_alloc | apply pw_below_drewN | apply below_drew1) | exact HB.out)⟩
    · replace c8 := Bool.eq_false_iff.mpr c8
      subst c8
      have H1 : (some false) = some r := by rw [if_neg (show ¬ (false = true) by decide)] at H; exact H
      clear H
      have H := H1
      clear H1
      obtain rfl := Option.some.inj H
      go_enter Tryd.func8, Tryd.ntmps8
      go_wp2_with (first | ((with_reducible refine gate_callee (f := 14) rfl ?_); refine goesL_ (some 9) rfl rfl Tryd.func14 (by kernel_rfl) rfl #[] rfl (by (try simp only [List.map_toArray, List.map_cons, List.map_nil]); first | done | rfl | (simp only [List.length_drop, List.length_take]; rfl)) ?_; (with_reducible refine (tinderlaw05_alive.calls  true _ A3.out).mono ?_); rintro e w24 ⟨rfl, hb⟩; refine ⟨_, rfl, ?_⟩; have n0_ := Aside0.mk (below_step (by repeat (first | (with_reducible first | exact HB.out | apply below_alloc | apply pw_below_drewN | apply below_drew1) | exact HB.out)) hb); clear HB; have HB := n0_; clear n0_; (try clear hb); (try clear hb2); (try clear hk); (try clear hi)) | ((with_reducible refine gate_callee (f := 35) rfl ?_); refine goesL_ (some 13) rfl rfl Tryd.func35 (by kernel_rfl) rfl #[.string a0] rfl (by (try simp only [List.map_toArray, List.map_cons, List.map_nil]); first | done | rfl | (simp only [List.length_drop, List.length_take]; rfl)) ?_; (with_reducible refine (prop_ParseUnit.calls a0 t9002 t9003 _ A5.out).mono ?_); rintro e w25 ⟨v9004, rfl, ho0, hb⟩; refine ⟨_, rfl, ?_⟩; have n0_ := Aside0.mk (Kd.R_lower ho0 (below_size (by repeat (first | (with_reducible first | exact HB.out | apply below_alloc | apply pw_below_drewN | apply below_drew1) | exact HB.out)))); have n1_ := Aside0.mk (below_step (by repeat (first | (with_reducible first | exact HB.out | apply below_alloc | apply pw_below_drewN | apply below_drew1) | exact HB.out)) hb); clear HB; have HO9005 := n0_; have HB := n1_; clear n0_ n1_; (try clear hb); (try clear hb2); (try clear hk); (try clear hi); (try clear ho0)) | ((with_reducible refine gate_callee (f := 36) rfl ?_); refine goesL_ (some 18) rfl rfl Tryd.func36 (by kernel_rfl) rfl #[.string a0] rfl (by (try simp only [List.map_toArray, List.map_cons, List.map_nil]); first | done | rfl | (simp only [List.length_drop, List.length_take]; rfl)) ?_; (with_reducible refine (tinderref05_ParseUnit.calls a0 t9006 t9007 _ A6.out).mono ?_); rintro e w26 ⟨v9008, rfl, ho0, hb⟩; refine ⟨_, rfl, ?_⟩; have n0_ := Aside0.mk (Kd.R_elder' (by (with_reducible repeat (first | apply Kd.R_alloc | apply Kd.R_drewN | apply Kd.R_drew)); exact HO9005.out) (Kd.R_base ho0) hb); have n1_ := Aside0.mk (Kd.R_lower (Kd.R_new' ho0 (Kd.R_lt (by (with_reducible repeat (first | apply Kd.R_alloc | apply Kd.R_drewN | apply Kd.R_drew)); exact HO9005.out))) (below_size (by repeat (first | (with_reducible first | exact HB.out | apply below_alloc | apply pw_below_drewN | apply below_drew1) | exact HB.out)))); have n2_ := Aside0.mk (below_step (by repeat (first | (with_reducible first | exact HB.out | apply below_alloc | apply pw_below_drewN | apply below_drew1) | exact HB.out)) hb); clear HO9005; clear HB; have HO9005 := n0_; have HO9009 := n1_; have HB := n2_; clear n0_ n1_ n2_; (try clear hb); (try clear hb2); (try clear hk); (try clear hi); (try clear ho0); obtain ⟨Ao27, co27, eo27⟩ := Kd.R_slice HO9005.out; subst eo27; obtain ⟨Ao28, co28, eo28⟩ := Kd.R_slice HO9009.out; subst eo28) | ((with_reducible refine gate_callee (f := 28) rfl ?_); refine goesL_ (some 23) rfl rfl Tryd.func28 (by kernel_rfl) rfl #[.slice Ao27 t9002.length co27, .slice Ao28 t9006.length co28] rfl (by (try simp only [List.map_toArray, List.map_cons, List.map_nil]); first | done | rfl | (simp only [List.length_drop, List.length_take]; rfl)) ?_; (with_reducible refine (tinderref03_Same.calls k _ _ t9002 _ _ t9006 false _ ?side1 ?side2 ?side3 ?side4 A7.out).mono ?_); (case side1 => repeat (first | exact (Kd.R_reads' HO9005.out).2.2 | (with_reducible refine Kd.C_alloc ?_ _) | (with_reducible refine Kd.C_drewN ?_ _) | (with_reducible refine Kd.C_drew ?_))); (case side2 => exact (Kd.R_reads' HO9005.out).2.1); (case side3 => repeat (first | exact (Kd.R_reads' HO9009.out).2.2 | (with_reducible refine Kd.C_alloc ?_ _) | (with_reducible refine Kd.C_drewN ?_ _) | (with_reducible refine Kd.C_drew ?_))); (case side4 => exact (Kd.R_reads' HO9009.out).2.1); rintro e w' ⟨rfl, ⟨nd, rfl⟩⟩; refine ⟨_, rfl, ?_⟩))
      go_ret
      exact ⟨by first | rfl | (simp [errW_none, errW_some] <;> rfl) | (simp [*, errW_none, errW_some] <;> rfl), by repeat (first | (with_reducible first | exact HB.out | apply below_alloc | apply pw_below_drewN | apply below_drew1) | exact HB.out)⟩
  · replace c4 := Bool.eq_false_iff.mpr c4
    subst c4
    have H1 : (some false) = some r := by rw [if_neg (show ¬ (false = true) by decide)] at H; exact H
    clear H
    have H := H1
    clear H1
    obtain rfl := Option.some.inj H
    go_enter Tryd.func8, Tryd.ntmps8
    go_wp2_with (first | ((with_reducible refine gate_callee (f := 14) rfl ?_); refine goesL_ (some 9) rfl rfl Tryd.func14 (by kernel_rfl) rfl #[] rfl (by (try simp only [List.map_toArray, List.map_cons, List.map_nil]); first | done | rfl | (simp only [List.length_drop, List.length_take]; rfl)) ?_; (with_reducible refine (tinderlaw05_alive.calls  false _ A3.out).mono ?_); rintro e w29 ⟨rfl, hb⟩; refine ⟨_, rfl, ?_⟩; have n0_ := Aside0.mk (below_step (by repeat (first | (with_reducible first | exact HB.out | apply below_alloc | apply pw_below_drewN | apply below_drew1) | exact HB.out)) hb); clear HB; have HB := n0_; clear n0_; (try clear hb); (try clear hb2); (try clear hk); (try clear hi)))
    go_ret
    exact ⟨by first | rfl | (simp [errW_none, errW_some] <;> rfl) | (simp [*, errW_none, errW_some] <;> rfl), by repeat (first | (with_reducible first | exact HB.out | apply below_alloc | apply pw_below_drewN | apply below_drew1) | exact HB.out)⟩

/-- THE ONE PURE STATEMENT of tinderlaw05_PropUnits: yours. -/
def tinderlaw05_PropUnits.Pure : Prop := ∀ (a0 : ByteArray) (l1 : List Int), a0.size ≤ 140737488351232 → l1.length ≤ maxLen → l1.length * 4 ≤ 140737488351232 → (∀ x ∈ l1, (Lit.int .u32 x).wf = true) → ∃ k, tinderlaw05_PropUnits.f k a0 l1 = some true
theorem tinderlaw05_PropUnits.walk (P : tinderlaw05_PropUnits.Pure) (a0 : ByteArray) (a1 : Option Addr) (len1 cap1 : Nat) (z1 : List Int) (w : World) (ht : QB.Tabs w) (w0 : a0.size ≤ 140737488351232) (w1 : (a1 = none ∧ len1 = 0 ∧ cap1 = 0 ∧ z1 = []) ∨ ∃ x, a1 = some x ∧ len1 ≤ cap1 ∧ cap1 ≤ maxLen ∧ z1.length = cap1 ∧ (∀ i, i < z1.length → w.cell? (x.add i) = some (.int .u32 (z1.getD i 0))) ∧ ∀ n ∈ z1, (Lit.int .u32 n).wf = true) (y1 : len1 * 4 ≤ 140737488351232) :
    Calls Tryd.prog 8 #[.string a0, .slice a1 len1 cap1] w fun e w' => e = .returned (.bool true) ∧ Below w.heap.size w w' := by
  obtain ⟨l1, rfl, hr1, hm1, hw1, hc1⟩ := ReadsInt.ofRowC w1
  obtain ⟨k, h⟩ := P a0 l1 w0 hm1 y1 hw1
  refine (tinderlaw05_PropUnits.calls k a0 _ _ l1 true w ht (Kd.C_of_reads (d := (0 : Int)) (h1 := fun _ => rfl) hr1) hc1 h).mono ?_
  rintro e w' ⟨rfl, hd⟩
  exact ⟨rfl, hd⟩

end Go.Proofs.YtlhnaplmphdhlaaDoor.Q
end
section
set_option linter.unusedSimpArgs false
set_option linter.unusedVariables false
namespace Go.Proofs.YtlhnaplmphdhlaaDoor.Q
open Go.RowKit Go.Proofs.YtlhnaplmphdhlaaDoorW.PrintWords Go.Proofs.YtlhnaplmphdhlaaDoorW.PrintLast
theorem sameu_l0 (L : List Int) (hl : L.length ≤ 1000000000) : ∀ (k : Nat) (i : Int), 0 ≤ i → i ≤ L.length → L.length + 1 ≤ k + i → tinderref03_Same.l0 k L L i = some true := by
  intro k
  induction k with
  | zero => intro i h0 hi hk; exact absurd hk (by omega)
  | succ k ih =>
    intro i h0 hi hk
    unfold tinderref03_Same.l0
    by_cases h : i < (L.length : Int)
    · rw [if_pos h, if_pos h0, if_pos h, if_pos rfl, show wrap64 (i + 1) = i + 1 by unfold wrap64; omega]
      exact ih (i + 1) (by omega) (by omega) (by omega)
    · rw [if_neg h]
theorem sameu_eq (k : Nat) (L : List Int) (hl : L.length ≤ 1000000000) (hk : L.length + 1 ≤ k) : tinderref03_Same.f k L L = some true := by
  unfold tinderref03_Same.f
  rw [if_pos rfl]
  exact sameu_l0 L hl k 0 (Int.le_refl _) (by omega) (by omega)
theorem unitF_len (s : ByteArray) : (unitF s).1.length ≤ 4 := by
  unfold unitF
  split
  · split
    · exact Nat.zero_le _
    · rw [List.length_map]; omega
  · exact Nat.zero_le _
theorem u32_of {L : List Int} (h : ∀ a ∈ L, (Lit.int .u32 a).wf = true) : U32L L := fun a ha => by
  have := h a ha
  simp only [Lit.wf, Bool.and_eq_true, decide_eq_true_eq, show IntKind.u32.min = 0 from rfl, show IntKind.u32.max = 4294967295 from rfl] at this
  omega
theorem propUnits_row {w : World} (ht : QB.Tabs w) (s : ByteArray) (hs : s.size ≤ 140737488351232) (A : Option Addr) (c : Nat) (L : List Int) (hC : Kd.C (Kd.int .u32) w A L.length L) (hc : L.length ≤ c) (hg : L.length * 4 ≤ 140737488351232 ∧ ∀ a ∈ L, (Lit.int .u32 a).wf = true) (u0 : s.size ≤ 1048576) (u1 : L.length ≤ 1048576) :
    Calls Tryd.prog 8 #[.string s, .slice A L.length c] w fun e w' => e = .returned (.bool true) ∧ Below w.heap.size w w' := by
  have hl := u32_of hg.2
  refine tinderlaw05_PropUnits.calls 2000000 s A c L true w ht hC hc ?_
  have e1 : prop_ParseUnit.f s = some (unitF s) := by unfold prop_ParseUnit.f; rw [if_pos (by omega)]
  have e2 : tinderref05_ParseUnit.f s = some (unitF s) := by unfold tinderref05_ParseUnit.f; rw [if_pos (by omega)]
  have e3 := unitF_len s
  unfold tinderlaw05_PropUnits.f tinderlaw05_alive.f
  rw [Option.bind_some, if_pos rfl, e1, Option.bind_some, e2, Option.bind_some, sameu_eq 2000000 _ (by omega) (by omega), Option.bind_some, if_pos rfl, if_pos rfl, units_eq 2000000 L hl (by omega) (by omega), Option.bind_some, refunits_eq 2000000 L hl (by omega) (by omega), Option.bind_some]
  simp
end Go.Proofs.YtlhnaplmphdhlaaDoor.Q
end
section
namespace Go.Proofs.YtlhnaplmphdhlaaDoor.Q
open Go.RowKit Go.Proofs.YtlhnaplmphdhlaaDoorW.PrintWords Go.Proofs.YtlhnaplmphdhlaaDoorW.PrintLast Go.Proofs.YtlhnaplmphdhlaaDoorW.PrintMore
def Opens {α : Type} (P : Program) (t : TypeId) (d : Kd α) (G : α → Prop) : Prop :=
  ∀ (H : Type) (enc : TypeId × Value → H) (W : World) (fuel : Nat) (cs : List Value) (x : DataW H × List MemPlace), DataW.trod enc P W 0 (fun _ => true) true fuel t cs = some x → (∀ n ∈ x.1.weights P t, n ≤ reachBytes) → ∃ a, d.K W a cs ∧ G a
section
variable {P : Program} {t e : TypeId}
theorem opens_int {k : IntKind} (ht : P.underlying t = some (.int k)) : Opens P t (Kd.int k) (fun n => (Lit.int k n).wf = true) := by
  intro H enc W fuel cs x h _
  obtain ⟨n, rfl, _, hw⟩ := DataW.trod_int ht h
  exact ⟨n, rfl, hw⟩
theorem opens_bool (ht : P.underlying t = some .bool) : Opens P t Kd.bool (fun _ => True) := by
  intro H enc W fuel cs x h _
  obtain ⟨b, rfl, _⟩ := DataW.trod_bool ht h
  exact ⟨b, rfl, trivial⟩
theorem opens_string (ht : P.underlying t = some .string) : Opens P t Kd.string (fun s => s.size ≤ 140737488351232) := by
  intro H enc W fuel cs x h hw
  obtain ⟨s, rfl, rfl, _⟩ := DataW.trod_string ht h
  have := hw s.data.toList.length (by simp [DataW.weights])
  exact ⟨s, rfl, by simpa [reachBytes] using this⟩
theorem weights_all {H : Type} {P : Program} {e : TypeId} : ∀ {l : List (DataW H)} {d : DataW H}, d ∈ l → ∀ n ∈ d.weights P e, n ∈ DataW.weightsAll P e l
  | d0 :: l, d, hd, n, hn => by
    simp only [DataW.weightsAll, List.mem_append]
    rcases List.mem_cons.1 hd with rfl | hd
    · exact .inl hn
    · exact .inr (weights_all hd n hn)
theorem cells_get {W : World} {base : Nat} {a : Addr} {n : Nat} {c : List Value} (h : W.cells? base a n = some c) : c.length = n ∧ ∀ i u, c[i]? = some u → W.cell? (a.add i) = some u := by
  unfold World.cells? at h
  split at h
  · have hl := mapM_some_length h
    refine ⟨by simpa using hl, fun i u hu => ?_⟩
    have hi : i < n := by
      have := (List.getElem?_eq_some_iff.1 hu).1
      simp at hl
      omega
    have := mapM_some_get h i i (by simp [hi])
    rw [this, hu]
  · cases h
theorem opens_slice {α : Type} {d : Kd α} {G : α → Prop} (ht : P.underlying t = some (.slice e)) (hc : P.cellsOf e = d.sz) (b : Nat) (hb : P.bytesOf e = b) (he : Opens P e d G) :
    Opens P t (Kd.slice e d) (fun xs => xs.length * b ≤ 140737488351232 ∧ ∀ a ∈ xs, G a) := by
  intro H enc W fuel cs x h hw
  rcases DataW.trod_slice ht h with ⟨rfl, _⟩ | ⟨a, len, cap, elems, rest, n, _, rfl, rfl, _, hl, hm, hlen, hel, _⟩
  · exact ⟨[], ⟨none, 0, rfl, Nat.le_refl _, Kd.C_nil d W⟩, by simp, fun a h => by cases h⟩
  · have hwt : (elems.length + rest.length) * b ≤ 140737488351232 := by
      have := hw ((elems.length + rest.length) * P.bytesOf e) (by simp [DataW.weights, ht])
      rw [hb] at this
      simpa [reachBytes] using this
    have hall : ∀ i : Fin len, ∃ p : α, ∃ c, c.length = d.sz ∧ d.K W p c ∧ G p ∧ ∀ j u, c[j]? = some u → W.cell? (a.add (i.1 * d.sz + j)) = some u := by
      intro i
      have hi : i.1 < elems.length := by have := i.2; omega
      have h1 := hel i.1 i.2
      rw [List.getElem?_eq_getElem hi] at h1
      obtain ⟨c, hcs, htr⟩ := Option.bind_eq_some_iff.1 h1
      obtain ⟨hcl, hcg⟩ := cells_get hcs
      obtain ⟨p, hK, hG⟩ := he H enc W n c _ htr (fun m hm => hw m (by
        simp only [DataW.weights, ht, List.mem_cons, List.mem_append]
        exact .inr (.inl (weights_all (List.mem_map.2 ⟨_, List.getElem_mem hi, rfl⟩) m hm))))
      refine ⟨p, c, by rw [hcl, hc], hK, hG, fun j u hu => ?_⟩
      have := hcg j u hu
      rw [add_add, hc] at this
      exact this
    refine ⟨List.ofFn fun i => Classical.choose (hall i), ⟨some a, cap, by simp, by simpa using hl, by simp, by simp only [maxLen] at hm; simp; omega, fun _ => ⟨a, rfl, fun j p hj => ?_⟩⟩, ?_, ?_⟩
    · obtain ⟨hjl, hjp⟩ := List.getElem?_eq_some_iff.1 hj
      simp only [List.length_ofFn] at hjl
      have h2 := Classical.choose_spec (hall ⟨j, hjl⟩)
      rw [List.getElem_ofFn] at hjp
      rw [hjp] at h2
      obtain ⟨c, h3, h4, _, h6⟩ := h2
      exact ⟨c, h3, h4, h6⟩
    · rw [List.length_ofFn]
      refine Nat.le_trans (Nat.mul_le_mul_right b ?_) hwt
      omega
    · intro p hp
      obtain ⟨i, rfl⟩ := (List.mem_ofFn).1 hp
      obtain ⟨_, _, _, h5, _⟩ := Classical.choose_spec (hall i)
      exact h5
/-- The fields of a struct from one on, one behind the other. -/
def OpensFields {α : Type} (P : Program) (fs : List Field) (off : Nat) (d : Kd α) (G : α → Prop) : Prop :=
  ∀ (H : Type) (enc : TypeId × Value → H) (W : World) (fuel : Nat) (cs : List Value) (xs : List (DataW H × List MemPlace)), off + d.sz = cs.length → xs.length = fs.length →
    (∀ (i : Nat) (f : Field), fs[i]? = some f → DataW.trod enc P W 0 (fun _ => true) true fuel f.type ((cs.drop f.offset).take (P.cellsOf f.type)) = xs[i]?) →
    (∀ n ∈ DataW.weightsEach P (fs.map (·.type)) (xs.map (·.1)), n ≤ reachBytes) → ∃ a, d.K W a (cs.drop off) ∧ G a
theorem opens_one {α : Type} {d : Kd α} {G : α → Prop} {f : Field} {off : Nat} (ho : f.offset = off) (hc : P.cellsOf f.type = d.sz) (he : Opens P f.type d G) : OpensFields P [f] off d G := by
  intro H enc W fuel cs xs hl hx hf hw
  match xs, hx with
  | [x], _ =>
    have h0 := hf 0 f rfl
    rw [ho, hc, List.take_of_length_le (by rw [List.length_drop]; omega)] at h0
    exact he H enc W fuel _ x h0 (fun n hn => hw n (by simpa [DataW.weightsEach] using hn))
theorem opens_more {α β : Type} {d : Kd α} {d2 : Kd β} {G : α → Prop} {G2 : β → Prop} {f : Field} {fs : List Field} {off : Nat} (ho : f.offset = off) (hc : P.cellsOf f.type = d.sz) (he : Opens P f.type d G) (hs : OpensFields P fs (off + d.sz) d2 G2) :
    OpensFields P (f :: fs) off (Kd.pair d d2) (fun p => G p.1 ∧ G2 p.2) := by
  intro H enc W fuel cs xs hl hx hf hw
  have hl' : off + (d.sz + d2.sz) = cs.length := hl
  match xs, hx with
  | x :: xs, hx =>
    have h0 := hf 0 f rfl
    rw [ho, hc] at h0
    obtain ⟨a, h1, h2⟩ := he H enc W fuel _ x h0 (fun n hn => hw n (by simp only [List.map_cons, DataW.weightsEach, List.mem_append]; exact .inl hn))
    obtain ⟨b, h3, h4⟩ := hs H enc W fuel cs xs (by omega) (by simpa using hx) (fun i g hg => by simpa using hf (i + 1) g (by simpa using hg)) (fun n hn => hw n (by simp only [List.map_cons, DataW.weightsEach, List.mem_append]; exact .inr hn))
    refine ⟨(a, b), ⟨_, _, ?_, h1, h3⟩, h2, h4⟩
    rw [← List.drop_drop, List.take_append_drop]
theorem opens_struct {α : Type} {d : Kd α} {G : α → Prop} {fs : Array Field} (ht : P.underlying t = some (.struct fs)) (hc : P.cellsOf t = d.sz) (hf : OpensFields P fs.toList 0 d G) : Opens P t d G := by
  intro H enc W fuel cs x h hw
  obtain ⟨xs, n, _, rfl, hl, hlen, hg⟩ := DataW.trod_struct ht h
  have := hf H enc W n cs xs (by omega) (by simpa using hlen) (fun i f hi => hg i f (by simpa using hi)) (fun m hm => hw m (by simpa [DataW.weights, ht] using hm))
  simpa using this
theorem opens_iso {α β : Type} {d : Kd α} {G : α → Prop} (f : β → α) (g : α → β) (hfg : ∀ a, f (g a) = a) (h : Opens P t d G) : Opens P t (Kd.iso d f) (fun b => G (f b)) := by
  intro H enc W fuel cs x hx hw
  obtain ⟨a, h1, h2⟩ := h H enc W fuel cs x hx hw
  exact ⟨g a, by show d.K W (f (g a)) cs; rw [hfg]; exact h1, by show G (f (g a)); rw [hfg]; exact h2⟩
/-- An array's elements, one behind the other. -/
theorem opens_array {α : Type} {d : Kd α} {G : α → Prop} {n : Nat} (ht : P.underlying t = some (.array n e)) (hc : P.cellsOf e = d.sz) (hct : P.cellsOf t = n * d.sz) (he : Opens P e d G)
    {H : Type} (enc : TypeId × Value → H) (W : World) (fuel : Nat) (cs : List Value) (x : DataW H × List MemPlace) (h : DataW.trod enc P W 0 (fun _ => true) true fuel t cs = some x) (hw : ∀ m ∈ x.1.weights P t, m ≤ reachBytes) :
    ∃ xs : List α, xs.length = n ∧ Reps (d.K W) d.sz xs cs ∧ ∀ a ∈ xs, G a := by
  obtain ⟨ys, m, _, rfl, hl, hlen, hg⟩ := DataW.trod_array ht h
  have hall : ∀ i : Fin n, ∃ p : α, d.K W p ((cs.drop (i.1 * d.sz)).take d.sz) ∧ G p := by
    intro i
    have hi : i.1 < ys.length := by have := i.2; omega
    have h1 := hg i.1 i.2
    rw [List.getElem?_eq_getElem hi, hc] at h1
    exact he H enc W m _ _ h1 (fun k hk => hw k (by
      simp only [DataW.weights, ht]
      exact weights_all (List.mem_map.2 ⟨_, List.getElem_mem hi, rfl⟩) k hk))
  refine ⟨List.ofFn fun i => Classical.choose (hall i), by simp, ⟨by rw [hl, hct, List.length_ofFn], fun j p hj => ?_⟩, fun p hp => ?_⟩
  · obtain ⟨hjl, hjp⟩ := List.getElem?_eq_some_iff.1 hj
    simp only [List.length_ofFn] at hjl
    have h2 := Classical.choose_spec (hall ⟨j, hjl⟩)
    rw [List.getElem_ofFn] at hjp
    rw [hjp] at h2
    exact h2.1
  · obtain ⟨i, rfl⟩ := (List.mem_ofFn).1 hp
    exact (Classical.choose_spec (hall i)).2
theorem okWide_array {W : World} {r : Reach} {b0 n : Nat} {v : Value} (ht : P.underlying t = some (.array n e)) (h : Value.okWide P W r b0 t v) : ∃ cs, v = .agg cs := by
  simp only [Value.okWide, ht] at h
  obtain ⟨cs, h1, _, _⟩ := h
  exact ⟨cs, h1⟩
theorem weights_each {H : Type} {P : Program} {ts : List TypeId} {ds : List (DataW H)} (h : (DataW.weightsEach P ts ds).all (· ≤ reachBytes) = true) {j : Nat} {t : TypeId} {d : DataW H} (ht : ts[j]? = some t) (hd : ds[j]? = some d) : ∀ n ∈ d.weights P t, n ≤ reachBytes := fun n hn => by
  simpa using List.all_eq_true.1 h _ (DataW.weights_mem_each ht hd n hn)
end
end Go.Proofs.YtlhnaplmphdhlaaDoor.Q
end
