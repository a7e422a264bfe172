/- What Go functions of this program answer, as plain Lean functions, and that the calls answer so, wherever the plain function has an answer. Written by a program of this claim's own out of the translation. -/
import Derived.Test.YthlpdjnfcjpbpaaDoorQ0
namespace Go.Proofs.YthlpdjnfcjpbpaaDoor.Q
open Go.RowKit Go.Proofs.YthlpdjnfcjpbpaaDoorW.PrintWords Go.Proofs.YthlpdjnfcjpbpaaDoorW.PrintLast Go.Proofs.YthlpdjnfcjpbpaaDoorW.PrintMore
set_option linter.unusedVariables false
set_option linter.unusedSimpArgs false

attribute [local go_sem] max2_int min2_int max_two min_two max_three min_three max_four min_four
/-! ### digit_bases: function 27 -/
def digit_bases.f (a0 : Int) : Option (Int) := if (Go.bits .or .u8 a0 32) = 104 then (some 16) else (if (Go.bits .or .u8 a0 32) = 111 then (some 8) else (if (Go.bits .or .u8 a0 32) = 98 then (some 2) else (if (Go.bits .or .u8 a0 32) = 100 then (some 10) else (some 0))))
set_option maxHeartbeats 8000000 in
set_option maxRecDepth 100000 in
theorem digit_bases.calls (a0 : Int) (r : Int) (w : World) (h : digit_bases.f a0 = some r) :
    Calls Tryd.prog 27 #[.int .u8 a0] w fun e w' => e = .returned (.int .u32 r) ∧ Drawn0 w w' := by
  have H : (if (Go.bits .or .u8 a0 32) = 104 then (some 16) else (if (Go.bits .or .u8 a0 32) = 111 then (some 8) else (if (Go.bits .or .u8 a0 32) = 98 then (some 2) else (if (Go.bits .or .u8 a0 32) = 100 then (some 10) else (some 0))))) = some r := h
  clear h
  by_cases c2 : (Go.bits .or .u8 a0 32) = 104
  · rw [if_pos c2] at H
    have c2b0 : ((Go.bits .or .u8 a0 32) == 104) = true := beq_iff_eq.mpr c2
    have c2b1 : ((Go.bits .or .u8 a0 32) != 104) = false := bne_eq_false_iff_eq.mpr c2
    clear c2
    obtain rfl := Option.some.inj H
    go_enter Tryd.func27, Tryd.ntmps27
    go_wp2
    go_ret
    exact ⟨by first | rfl | (simp; done) | (simp [*]; done), by repeat (first | exact Drawn0.refl _ | apply Drawn0.step)⟩
  · rw [if_neg c2] at H
    have c2b0 : ((Go.bits .or .u8 a0 32) == 104) = false := beq_eq_false_iff_ne.mpr c2
    have c2b1 : ((Go.bits .or .u8 a0 32) != 104) = true := bne_iff_ne.mpr c2
    by_cases c3 : (Go.bits .or .u8 a0 32) = 111
    · rw [if_pos c3] at H
      have c3b0 : ((Go.bits .or .u8 a0 32) == 111) = true := beq_iff_eq.mpr c3
      have c3b1 : ((Go.bits .or .u8 a0 32) != 111) = false := bne_eq_false_iff_eq.mpr c3
      clear c3
      obtain rfl := Option.some.inj H
      go_enter Tryd.func27, Tryd.ntmps27
      go_wp2
      go_ret
      exact ⟨by first | rfl | (simp; done) | (simp [*]; done), by repeat (first | exact Drawn0.refl _ | apply Drawn0.step)⟩
    · rw [if_neg c3] at H
      have c3b0 : ((Go.bits .or .u8 a0 32) == 111) = false := beq_eq_false_iff_ne.mpr c3
      have c3b1 : ((Go.bits .or .u8 a0 32) != 111) = true := bne_iff_ne.mpr c3
      by_cases c4 : (Go.bits .or .u8 a0 32) = 98
      · rw [if_pos c4] at H
        have c4b0 : ((Go.bits .or .u8 a0 32) == 98) = true := beq_iff_eq.mpr c4
        have c4b1 : ((Go.bits .or .u8 a0 32) != 98) = false := bne_eq_false_iff_eq.mpr c4
        clear c4
        obtain rfl := Option.some.inj H
        go_enter Tryd.func27, Tryd.ntmps27
        go_wp2
        go_ret
        exact ⟨by first | rfl | (simp; done) | (simp [*]; done), by repeat (first | exact Drawn0.refl _ | apply Drawn0.step)⟩
      · rw [if_neg c4] at H
        have c4b0 : ((Go.bits .or .u8 a0 32) == 98) = false := beq_eq_false_iff_ne.mpr c4
        have c4b1 : ((Go.bits .or .u8 a0 32) != 98) = true := bne_iff_ne.mpr c4
        by_cases c5 : (Go.bits .or .u8 a0 32) = 100
        · rw [if_pos c5] at H
          have c5b0 : ((Go.bits .or .u8 a0 32) == 100) = true := beq_iff_eq.mpr c5
          have c5b1 : ((Go.bits .or .u8 a0 32) != 100) = false := bne_eq_false_iff_eq.mpr c5
          clear c5
          obtain rfl := Option.some.inj H
          go_enter Tryd.func27, Tryd.ntmps27
          go_wp2
          go_ret
          exact ⟨by first | rfl | (simp; done) | (simp [*]; done), by repeat (first | exact Drawn0.refl _ | apply Drawn0.step)⟩
        · rw [if_neg c5] at H
          have c5b0 : ((Go.bits .or .u8 a0 32) == 100) = false := beq_eq_false_iff_ne.mpr c5
          have c5b1 : ((Go.bits .or .u8 a0 32) != 100) = true := bne_iff_ne.mpr c5
          obtain rfl := Option.some.inj H
          go_enter Tryd.func27, Tryd.ntmps27
          go_wp2
          go_ret
          exact ⟨by first | rfl | (simp; done) | (simp [*]; done), by repeat (first | exact Drawn0.refl _ | apply Drawn0.step)⟩

end Go.Proofs.YthlpdjnfcjpbpaaDoor.Q
