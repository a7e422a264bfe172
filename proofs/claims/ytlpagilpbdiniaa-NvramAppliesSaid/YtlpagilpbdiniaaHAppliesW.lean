/- The walk of the law NvramApplies. -/
import Derived.Test.YtlpagilpbdiniaaHNvApP
import Derived.Test.YtlpagilpbdiniaaQTinderlaw18NvramApplies
namespace Go.Proofs.Ytlpagilpbdiniaa.Q
open Go.RowKit Go.Proofs.YtlpagilpbdiniaaW.PrintWords Go.Proofs.YtlpagilpbdiniaaW.PrintLast Go.Proofs.YtlpagilpbdiniaaW.PrintMore
theorem nvramApplies_row (A0 : Option Addr) (c0 : Nat) (l0 : List Int) {w : World} (hr0 : Kd.C (Kd.int .u8) w A0 l0.length l0) (hc0 : l0.length ≤ c0) (hg0 : l0.length * 1 ≤ 140737488351232 ∧ ∀ a ∈ l0, (Lit.int .u8 a).wf = true) (A1 : Option Addr) (c1 : Nat) (l1 : List S62) (hr1 : Kd.C k62 w A1 l1.length l1) (hc1 : l1.length ≤ c1) (hg1 : l1.length * 16 ≤ 140737488351232 ∧ ∀ p ∈ l1, (Lit.int .i64 p.f0).wf = true ∧ (Lit.int .u8 p.f1).wf = true) (n : Int) (_w : (Lit.int .i64 n).wf = true) :
    Calls Try.prog 6 #[.slice A0 l0.length c0, .slice A1 l1.length c1, .int .i64 n] w fun e w' => e = .returned (.bool true) ∧ Below w.heap.size w w' := by
  refine tinderlaw18_NvramApplies.calls (2 * l1.length + 100) A0 c0 l0 A1 c1 l1 n true w hr0 hc0 hr1 hc1 ?_
  unfold tinderlaw18_NvramApplies.f
  rw [alive18 _ (by omega), Option.bind_some, if_pos rfl, apply_eq _ _ _ _ (by omega) (by omega) (by omega), Option.bind_some, ref_apply_eq _ _ _ _ (by omega) (by omega) (by omega), Option.bind_some]
  unfold tinderref04_Same.f
  simp
end Go.Proofs.Ytlpagilpbdiniaa.Q
