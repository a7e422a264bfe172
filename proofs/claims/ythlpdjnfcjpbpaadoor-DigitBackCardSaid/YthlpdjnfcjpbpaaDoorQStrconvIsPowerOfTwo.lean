/- What Go functions of this program answer, as plain Lean functions, and that the calls answer so, wherever the plain function has an answer. Written by a program of this claim's own out of the translation. -/
import Derived.Test.YthlpdjnfcjpbpaaDoorQ0
namespace Go.Proofs.YthlpdjnfcjpbpaaDoor.Q
open Go.RowKit Go.Proofs.YthlpdjnfcjpbpaaDoorW.PrintWords Go.Proofs.YthlpdjnfcjpbpaaDoorW.PrintLast Go.Proofs.YthlpdjnfcjpbpaaDoorW.PrintMore
set_option linter.unusedVariables false
set_option linter.unusedSimpArgs false

attribute [local go_sem] max2_int min2_int max_two min_two max_three min_three max_four min_four
/-! ### strconv_isPowerOfTwo: function 50 -/
def strconv_isPowerOfTwo.f (a0 : Int) : Option (Bool) := some ((Go.bits .and .i64 a0 (wrap64 (a0 - 1))) == 0)
set_option maxHeartbeats 8000000 in
set_option maxRecDepth 100000 in
theorem strconv_isPowerOfTwo.calls (a0 : Int) (r : Bool) (w : World) (h : strconv_isPowerOfTwo.f a0 = some r) :
    Calls Tryd.prog 50 #[.int .i64 a0] w fun e w' => e = .returned (.bool r) ∧ Drawn0 w w' := by
  have H : (some ((Go.bits .and .i64 a0 (wrap64 (a0 - 1))) == 0)) = some r := h
  clear h
  obtain rfl := Option.some.inj H
  go_enter Tryd.func50, Tryd.ntmps50
  go_wp2
  go_ret
  exact ⟨by first | rfl | (simp; done) | (simp [*]; done), by repeat (first | exact Drawn0.refl _ | apply Drawn0.step)⟩

end Go.Proofs.YthlpdjnfcjpbpaaDoor.Q
