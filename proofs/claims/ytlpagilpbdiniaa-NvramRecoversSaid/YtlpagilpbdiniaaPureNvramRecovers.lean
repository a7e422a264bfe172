/- What is found in an NVRAM, of any bytes, is what the reference says. -/
import Derived.Test.YtlpagilpbdiniaaQTinderlaw18NvramRecovers
import Derived.Test.YtlpagilpbdiniaaHNvP
namespace Go.Proofs.Ytlpagilpbdiniaa.Pure
open Go.RowKit Go.Proofs.Ytlpagilpbdiniaa.Q Go.Proofs.YtlpagilpbdiniaaW.PrintWords Go.Proofs.YtlpagilpbdiniaaW.PrintLast
theorem NvramRecovers : tinderlaw18_NvramRecovers.Pure := by
  intro l _ hl hb
  have hB := bytes_wf hb
  refine ⟨40, ?_⟩
  unfold tinderlaw18_NvramRecovers.f
  have e1 : tinderref04_Copy.f l = some l := by unfold tinderref04_Copy.f; rw [if_pos (by simp; omega)]; simp
  have e2 : nvram_Recover.f l = some (recF l) := by unfold nvram_Recover.f; rw [if_pos (bytesB_iff.2 hB)]
  have e3 : tinderref18_Recover.f l = some (recF l) := by unfold tinderref18_Recover.f; rw [if_pos (bytesB_iff.2 hB), rec_eq l hB]
  have e4 : ∀ x : List Int, tinderref04_Same.f x x = some true := fun x => by unfold tinderref04_Same.f; simp
  rw [alive18 _ (by omega), Option.bind_some, if_pos rfl, e1, Option.bind_some, e2, Option.bind_some, e3, Option.bind_some, e4, Option.bind_some, if_pos rfl, if_pos rfl, if_pos (by simp), e4, Option.bind_some]
end Go.Proofs.Ytlpagilpbdiniaa.Pure
