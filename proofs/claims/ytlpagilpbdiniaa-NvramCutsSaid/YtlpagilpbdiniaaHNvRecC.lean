/- The contract of nvram.Recover in the printed form. -/
import Derived.Test.YtlpagilpbdiniaaHNvRecover
namespace Go.Proofs.Ytlpagilpbdiniaa.Q
open Go.RowKit Go.Proofs.YtlpagilpbdiniaaW.PrintWords Go.Proofs.YtlpagilpbdiniaaW.PrintLast Go.Proofs.YtlpagilpbdiniaaW.PrintMore
def bytesB (l : List Int) : Bool := l.all (fun a => decide (0 ≤ a) && decide (a < 256))
theorem bytesB_iff {l : List Int} : bytesB l = true ↔ Bytes l := by
  unfold bytesB Bytes
  rw [List.all_eq_true]
  constructor
  · intro h a ha
    have := h a ha
    simp at this
    exact this
  · intro h a ha
    have := h a ha
    simp [this]
/-- What nvram.Recover answers. -/
def nvram_Recover.f (l0 : List Int) : Option (List Int × Int × Bool) := if bytesB l0 = true then some (recF l0) else none
theorem nvram_Recover.calls (A0 : Option Addr) (c0 : Nat) (l0 : List Int) (r1 : List Int) (r2 : Int) (r3 : Bool) (w : World) (hr0 : Kd.C (Kd.int .u8) w A0 l0.length l0) (hc0 : l0.length ≤ c0) (h : nvram_Recover.f l0 = some (r1, r2, r3)) :
    Calls Try.prog 14 #[.slice A0 l0.length c0] w fun e w' => ∃ v0_ : Value, e = .returned (.tuple #[v0_, .int .i64 r2, .bool r3]) ∧ Kd.R (Kd.int .u8) 5 w' w.heap.size (fun _ => True) v0_ r1 ∧ Below w.heap.size w w' := by
  unfold nvram_Recover.f at h
  split at h
  · rename_i hb
    have e := Option.some.inj h
    have h2 := recover_calls A0 c0 l0 w hr0 hc0 (bytesB_iff.1 hb)
    rw [e] at h2
    exact h2
  · cases h
end Go.Proofs.Ytlpagilpbdiniaa.Q
