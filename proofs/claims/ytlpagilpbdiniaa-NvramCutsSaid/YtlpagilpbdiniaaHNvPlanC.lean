/- The contract of nvram.Plan in the printed form. -/
import Derived.Test.YtlpagilpbdiniaaHNvPlan
namespace Go.Proofs.Ytlpagilpbdiniaa.Q
open Go.RowKit Go.Proofs.YtlpagilpbdiniaaW.PrintWords Go.Proofs.YtlpagilpbdiniaaW.PrintLast Go.Proofs.YtlpagilpbdiniaaW.PrintMore
/-- What nvram.Plan answers. -/
def nvram_Plan.f (l0 l1 : List Int) : Option (List S62 × Int) := if bytesB l0 = true then some (planF l0 l1) else none
theorem nvram_Plan.calls (A0 : Option Addr) (c0 : Nat) (l0 : List Int) (A1 : Option Addr) (c1 : Nat) (l1 : List Int) (r1 : List S62) (r2 : Int) (w : World) (hr0 : Kd.C (Kd.int .u8) w A0 l0.length l0) (hc0 : l0.length ≤ c0) (hr1 : Kd.C (Kd.int .u8) w A1 l1.length l1) (hc1 : l1.length ≤ c1) (h : nvram_Plan.f l0 l1 = some (r1, r2)) :
    Calls Try.prog 17 #[.slice A0 l0.length c0, .slice A1 l1.length c1] w fun e w' => ∃ v0_ : Value, e = .returned (.tuple #[v0_, .int .i64 r2]) ∧ Kd.R k62 62 w' w.heap.size (fun _ => True) v0_ r1 ∧ Below w.heap.size w w' := by
  unfold nvram_Plan.f at h
  split at h
  · rename_i hb
    have e := Option.some.inj h
    have h2 := plan_calls A0 c0 l0 A1 c1 l1 w hr0 hc0 (bytesB_iff.1 hb) hr1 hc1
    rw [e] at h2
    exact h2
  · cases h
end Go.Proofs.Ytlpagilpbdiniaa.Q
