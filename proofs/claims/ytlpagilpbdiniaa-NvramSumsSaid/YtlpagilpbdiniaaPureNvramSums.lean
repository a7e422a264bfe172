/- The sum of a generation and data is the reference's, for all bytes. -/
import Derived.Test.YtlpagilpbdiniaaQTinderlaw18NvramSums
import Derived.Test.YtlpagilpbdiniaaHNvP
namespace Go.Proofs.Ytlpagilpbdiniaa.Pure
open Go.RowKit Go.Proofs.Ytlpagilpbdiniaa.Q Go.Proofs.YtlpagilpbdiniaaW.PrintWords Go.Proofs.YtlpagilpbdiniaaW.PrintLast
theorem NvramSums : tinderlaw18_NvramSums.Pure := by
  intro g l hg _ hl hb
  refine ⟨l.length + 100, ?_⟩
  unfold tinderlaw18_NvramSums.f nvram_Sum.f
  rw [alive18 _ (by omega), Option.bind_some, if_pos rfl, Option.bind_some, ref18_Sum_eq _ _ _ (u8_wf hg) (bytes_wf hb) (by omega) (by omega), Option.bind_some]
  simp
end Go.Proofs.Ytlpagilpbdiniaa.Pure
