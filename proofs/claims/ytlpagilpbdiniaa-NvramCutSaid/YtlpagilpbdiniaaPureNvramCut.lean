/- Wherever the power goes while data are written, what is found is what was found ahead, or the new data. -/
import Derived.Test.YtlpagilpbdiniaaQTinderlaw18NvramCut
import Derived.Test.YtlpagilpbdiniaaHNvCutP
namespace Go.Proofs.Ytlpagilpbdiniaa.Pure
open Go.RowKit Go.Proofs.Ytlpagilpbdiniaa.Q Go.Proofs.YtlpagilpbdiniaaW.PrintWords Go.Proofs.YtlpagilpbdiniaaW.PrintLast
theorem NvramCut : tinderlaw18_NvramCut.Pure := by
  intro nv data n _ hl hb _ hl2 hb2 _
  have hB := bytes_wf hb
  have hD := bytes_wf hb2
  refine ⟨1000, ?_⟩
  unfold tinderlaw18_NvramCut.f
  have e2 : nvram_Plan.f nv data = some (planF nv data) := by unfold nvram_Plan.f; rw [if_pos (bytesB_iff.2 hB)]
  have e4 : ∀ x : List Int, tinderref04_Same.f x x = some true := fun x => by unfold tinderref04_Same.f; simp
  have er : ∀ x : List Int, Bytes x → nvram_Recover.f x = some (recF x) := fun x hx => by unfold nvram_Recover.f; rw [if_pos (bytesB_iff.2 hx)]
  rw [alive18 _ (by omega), Option.bind_some, if_pos rfl, e2, Option.bind_some]
  unfold planF
  by_cases hn : nv.length = 512
  · rw [if_pos hn]
    by_cases hd : data.length ≤ 248
    · rw [if_pos hd, if_pos rfl]
      dsimp only
      obtain ⟨h1, h2, h3, h4⟩ := cut_rec nv data n hn hd hB hD
      have hrl := rowsF_len (baseF nv) (genF nv) data
      rw [apply_eq 1000 nv _ n (by omega) (by omega) (by omega), Option.bind_some, er _ h1, Option.bind_some]
      by_cases hge : (data.length : Int) + 9 ≤ n
      · obtain ⟨k, hk⟩ := h3 hge
        rw [if_pos (by rw [hrl]; omega), hk, if_pos rfl, e4, Option.bind_some]
      · rw [if_neg (by rw [hrl]; omega), h4 (by omega), er nv hB, Option.bind_some, if_pos (by simp), e4, Option.bind_some]
    · rw [if_neg hd, if_neg (by decide), if_pos (by simp), if_pos (by omega), Option.some.injEq, decide_eq_true_iff]
      omega
  · rw [if_neg hn, if_neg (by decide), if_pos (by simp), if_neg (by omega)]
end Go.Proofs.Ytlpagilpbdiniaa.Pure
