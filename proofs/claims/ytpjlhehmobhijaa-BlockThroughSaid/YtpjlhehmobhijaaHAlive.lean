/- Contracts and plain facts for the functions of layer 20: what each answers, wherever its plain function has an answer. -/
import Derived.Test.YtpjlhehmobhijaaQTinderlaw20Alive
import Derived.KernelRfl
namespace Go.Proofs.Ytpjlhehmobhijaa.Q
open Go.RowKit Go.Proofs.YtpjlhehmobhijaaW.PrintWords Go.Proofs.YtpjlhehmobhijaaW.PrintLast
theorem alive20_at : tinderlaw20_alive.f 10 = some true := by kernel_rfl
theorem alive20 (k : Nat) (h : 10 ≤ k) : tinderlaw20_alive.f k = some true := by
  exact at_rounds tinderlaw20_alive.mono h alive20_at
end Go.Proofs.Ytpjlhehmobhijaa.Q
