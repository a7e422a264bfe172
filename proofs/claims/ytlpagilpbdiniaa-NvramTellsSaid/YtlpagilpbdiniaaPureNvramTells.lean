/- A byte that is turned in a bank makes it wrong, unless it lies behind the data, or the sums meet. -/
import Derived.Test.YtlpagilpbdiniaaQTinderlaw18NvramTells
import Derived.Test.YtlpagilpbdiniaaHNvTellsQ
namespace Go.Proofs.Ytlpagilpbdiniaa.Pure
open Go.RowKit Go.Proofs.Ytlpagilpbdiniaa.Q Go.Proofs.YtlpagilpbdiniaaW.PrintWords Go.Proofs.YtlpagilpbdiniaaW.PrintLast
theorem u16_wf {x : Int} (h : (Lit.int .u16 x).wf = true) : 0 ≤ x ∧ x < 65536 := by
  simp [Lit.wf, IntKind.min, IntKind.max, IntKind.bits, IntKind.signed] at h
  omega
theorem tells_j (K : Nat) (hK : 900 ≤ K) (rows : List S62) (data : List Int) (hrows : rows = rowsF 0 1 data) (at_ turn : Int) (hd : data.length ≤ 248) (hD : Bytes data) (ha : 0 ≤ at_ ∧ at_ < 65536) (ht : 0 ≤ turn ∧ turn < 256) (hne : turn ≠ 0) :
    tinderlaw18_NvramTells.j0 (K + 1) data at_ turn zeros rows false = some true := by
  have hrl : rows.length = data.length + 9 := by rw [hrows]; exact rowsF_len 0 1 data
  have hM : applyF zeros rows (rows.length : Int) = over zeros 0 (165 :: body 1 data) := by
    have h := apply_all zeros 0 1 data (rows.length : Int) (by rw [zeros_len]; omega) (by omega)
    rw [show (((0:Nat):Int)) = 0 from rfl, ← hrows] at h
    exact h
  clear hrows
  have hA := apply_eq K zeros rows (rows.length : Int) (by rw [zeros_len]; decide) (by omega) (by omega)
  rw [hM] at hA
  clear hM
  obtain ⟨k, hk⟩ : ∃ k : Nat, Int.tmod (wrap64 at_) 256 = (k : Int) ∧ k < 256 := by
    have e : wrap64 at_ = at_ := by unfold wrap64; omega
    refine ⟨(at_ % 256).toNat, ?_, by omega⟩
    rw [e, Int.tmod_eq_emod_of_nonneg ha.1]
    omega
  have hbl := body_len 1 data
  have hML : (over zeros 0 (165 :: body 1 data)).length = 512 := by rw [over_len _ _ _ (by rw [zeros_len]; simp; omega)]; exact zeros_len
  have hMb : Bytes (over zeros 0 (165 :: body 1 data)) := by
    refine over_bytes _ _ _ zeros_bytes ?_
    intro a h
    rcases List.mem_cons.1 h with rfl | h
    · omega
    · exact body_bytes 1 data (by omega) hD a h
  obtain ⟨M, hMe⟩ : ∃ M, M = over zeros 0 (165 :: body 1 data) := ⟨_, rfl⟩
  have hbank := bank_over zeros 0 (165 :: body 1 data) zeros_len (.inl rfl) (by simp; omega)
  rw [Nat.zero_mul] at hbank
  rw [← hMe] at hA hML hMb hbank
  clear hbl
  obtain ⟨Y, hY⟩ : ∃ Y, Y = (bankF zeros 0).drop (165 :: body 1 data).length := ⟨_, rfl⟩
  have hb0 : M.take 256 = (165 :: body 1 data) ++ Y := by rw [hY]; exact hbank.1
  have hb1 : M.drop 256 = bankF zeros 1 := hbank.2
  have hkM : k < M.length := by omega
  have hkr := rd_bytes hMb k hkM
  obtain ⟨v, hv⟩ : ∃ v, v = bits BinOp.xor IntKind.u8 (rd M k) turn := ⟨_, rfl⟩
  have hvr := bits_xor_u8 (rd M k) turn hkr ht hne
  rw [← hv] at hvr
  obtain ⟨y, hy⟩ : ∃ y, y = M.set k v := ⟨_, rfl⟩
  have hyl : y.length = 512 := by rw [hy, List.length_set]; exact hML
  have hyb : Bytes y := by
    intro a h
    rw [hy] at h
    rcases List.mem_or_eq_of_mem_set h with h | h
    · exact hMb a h
    · rw [h]; omega
  have hy0 : bankF y 0 = ((165 :: body 1 data) ++ Y).set k v := by
    show y.take 256 = _
    rw [hy, List.take_set, hb0]
  have hy1 : bankF y 1 = bankF zeros 1 := by
    show y.drop 256 = _
    rw [hy, List.drop_set_of_lt (by omega), hb1]
  have hrec := rec_first y hyl (by rw [hy1]; kernel_rfl)
  have hMk : rd M k = rd ((165 :: body 1 data) ++ Y) k := by rw [← hb0, rd_take _ _ _ (by omega)]
  have er : nvram_Recover.f y = some (recF y) := by unfold nvram_Recover.f; rw [if_pos (bytesB_iff.2 hyb)]
  have e4 : ∀ x : List Int, tinderref04_Same.f x x = some true := fun x => by unfold tinderref04_Same.f; simp
  have ew : wrap64 (8 + (data.length : Int)) = 8 + data.length := by unfold wrap64; omega
  have hvk0 : v ≠ rd M k := hvr.2.2
  obtain ⟨hv0, hv1⟩ : 0 ≤ v ∧ v < 256 := ⟨hvr.1, hvr.2.1⟩
  have HVK := Aside0.mk hvk0
  have HV := Aside0.mk hv
  have HY := Aside0.mk hy
  clear hvk0 hvr hkr hv hMe hY hkM
  clear hy
  obtain ⟨hk1, hk2⟩ := hk
  obtain ⟨at2, hat2⟩ : ∃ at2, at2 = Int.tmod (wrap64 at_) 256 := ⟨_, rfl⟩
  rw [← hat2] at hk1
  clear ha ht hne
  rw [tinderlaw18_NvramTells.j0]
  rw [if_neg (by decide), hA, Option.bind_some, ← hat2, hk1]
  clear hat2 hk1 hA
  rw [if_pos (by omega), if_pos (by omega)]
  rw [Option.bind_some, Int.toNat_natCast, ← HV.out, ← HY.out, er, Option.bind_some, ew]
  have HMk := Aside0.mk hMk
  clear hMk
  by_cases c8 : 8 + data.length ≤ k
  · rw [if_pos (by omega), hrec, hy0, List.set_append_right _ _ (by simp [body_len]; omega), data_all 1 data _ hd, if_pos rfl, if_pos rfl, e4, Option.bind_some]
  · rw [if_neg (by omega), if_pos (by omega), if_pos (by omega)]
    have hwrong : (dataF (bankF y 0)).2 = false → (if (recF y).2.2 = true then some false else some (((recF y).1.length : Int) == 0)) = some true := by
      intro h
      rw [hrec, h]
      rfl
    by_cases c4 : k < 4
    · rw [if_pos (by omega)]
      by_cases c0 : k = 0
      · rw [if_neg (by omega)]
        refine hwrong ?_
        rw [hy0, c0]
        have hvk : v ≠ 165 := by
          have := HVK.out
          rw [HMk.out, c0] at this
          exact this
        unfold dataF
        rw [if_neg (fun h => hvk h.1)]
      · rw [if_pos (by omega)]
        have ry : ∀ i : Nat, i < 256 → rd y i = rd (bankF y 0) i := fun i hi => (rd_take y 256 i (by omega)).symm
        have rr : ∀ i : Nat, i < 256 → 0 ≤ rd y i ∧ rd y i < 256 := fun i hi => rd_bytes hyb i (by omega)
        have hBl : (bankF y 0).length = 256 := bankF_len hyl 0
        have hBb : Bytes (bankF y 0) := bankF_bytes hyb 0
        have r1 := rr 1 (by omega)
        have r2 := rr 2 (by omega)
        have r3 := rr 3 (by omega)
        obtain ⟨n, hn⟩ : ∃ n, n = lenF (bankF y 0) := ⟨_, rfl⟩
        have hn2 : n = rd y 2 * 256 + rd y 3 := by
          have e2 := ry 2 (by omega)
          have e3 := ry 3 (by omega)
          rw [hn]
          unfold lenF
          have e2' : rd (bankF y 0) 2 = rd y 2 := e2.symm
          have e3' : rd (bankF y 0) 3 = rd y 3 := e3.symm
          rw [e2', e3']
        have hwn : wrap64 (wrap64 (256 * wrap64 (rd y 2)) + wrap64 (rd y 3)) = n := by
          have e : ∀ x : Int, 0 ≤ x → x < 1000000 → wrap64 x = x := fun x h1 h2 => by unfold wrap64; omega
          have r2' : 0 ≤ rd y 2 ∧ rd y 2 < 256 := r2
          have r3' : 0 ≤ rd y 3 ∧ rd y 3 < 256 := r3
          rw [e (rd y 2) (by omega) (by omega), e (rd y 3) (by omega) (by omega), e (256 * rd y 2) (by omega) (by omega), e _ (by omega) (by omega), hn2]
          omega
        rw [hwn]
        have h0 : rd (bankF y 0) 0 = 165 := by
          rw [hy0]
          obtain ⟨q, rfl⟩ : ∃ q, k = q + 1 := ⟨k - 1, by omega⟩
          rfl
        have hn0 : 0 ≤ n := by
          have r2' : 0 ≤ rd y 2 ∧ rd y 2 < 256 := r2
          have r3' : 0 ≤ rd y 3 ∧ rd y 3 < 256 := r3
          omega
        by_cases hn8 : n ≤ 248
        · have ew8 : wrap64 (8 + n) = 8 + n := by unfold wrap64; omega
          obtain ⟨D, hD2⟩ : ∃ D, D = ((bankF y 0).drop 8).take n.toNat := ⟨_, rfl⟩
          have hDe : (y.take (8 + n).toNat).drop 8 = D := by
            rw [hD2, List.drop_take, show (8 + n).toNat - 8 = n.toNat by omega]
            show _ = ((y.take 256).drop 8).take n.toNat
            rw [List.drop_take, List.take_take, show min n.toNat (256 - 8) = n.toNat by omega]
          have hDb : Bytes D := by rw [hD2]; exact (hBb.drop _).take _
          have hDl : D.length ≤ 248 := by rw [hD2, List.length_take]; omega
          have hdat : (dataF (bankF y 0)).2 = ((((bankF y 0).drop 4).take 4).foldl beStep 0 == sumF (rd y 1) D) := by
            rw [four_be _ (by rw [List.length_take, List.length_drop]; omega) ((hBb.drop _).take _) _ (sumF_range _ _)]
            unfold dataF
            rw [← hn, if_pos ⟨h0, hn8⟩, ← hD2, show rd (bankF y 0) 1 = rd y 1 from (ry 1 (by omega)).symm]
          have hM4 : ((bankF y 0).drop 4).take 4 = [rd y 4, rd y 5, rd y 6, rd y 7] := by
            have g : ∀ i : Nat, i < 256 → (bankF y 0)[i]? = some (rd y i) := fun i hi => by
              rw [ry i hi]
              simp [rd, List.getD_eq_getElem?_getD, List.getElem?_eq_getElem (show i < (bankF y 0).length by omega)]
            apply List.ext_getElem?
            intro i
            by_cases hi : i < 4
            · rw [List.getElem?_take, if_pos hi, List.getElem?_drop, g _ (by omega)]
              match i, hi with
              | 0, _ => rfl
              | 1, _ => rfl
              | 2, _ => rfl
              | 3, _ => rfl
            · rw [List.getElem?_eq_none (by rw [List.length_take]; omega), List.getElem?_eq_none (by simp; omega)]
          have hrec2 : (recF y).2.2 = (dataF (bankF y 0)).2 := by
            rw [hrec]
            cases (dataF (bankF y 0)).2 <;> rfl
          rw [if_pos hn8, if_pos (by omega), ew8, if_pos (by omega), if_pos (by omega), hDe, ref18_Sum_eq K (rd y 1) D r1 hDb (by omega) (by omega), Option.bind_some, if_pos (by omega), if_pos (by omega), if_pos (by omega), if_pos (by omega), hrec2, hdat, hM4]
          simp only [List.foldl_cons, List.foldl_nil, beStep]
          rw [Option.some.injEq, beq_iff_eq, BEq.comm]
          congr 1
          omega
        · rw [if_neg hn8]
          refine hwrong ?_
          unfold dataF
          rw [← hn, if_neg (fun h => hn8 h.2)]
    · rw [if_neg (by omega)]
      refine hwrong ?_
      rw [hy0]
      exact tell_wrong data Y hd hD k (by omega) (by omega) v ⟨hv0, hv1⟩ (by rw [← HMk.out]; exact HVK.out)
theorem NvramTells : tinderlaw18_NvramTells.Pure := by
  intro data at_ turn _ hl hb ha ht
  have hD := bytes_wf hb
  refine ⟨1000, ?_⟩
  unfold tinderlaw18_NvramTells.f
  have e2 : nvram_Plan.f zeros data = some (planF zeros data) := by unfold nvram_Plan.f; rw [if_pos (bytesB_iff.2 zeros_bytes)]
  rw [alive18 _ (by omega), Option.bind_some, if_pos rfl, if_pos (by decide), Option.bind_some, show List.replicate 512 (0 : Int) = zeros from rfl, e2, Option.bind_some]
  have hone : tinderlaw18_NvramTells.j0 1000 data at_ turn zeros (planF zeros data).1 true = some true := by
    rw [tinderlaw18_NvramTells.j0]
    rw [if_pos rfl]
  by_cases hd : data.length ≤ 248
  · have hp : planF zeros data = (rowsF 0 1 data, 0) := by
      unfold planF
      rw [if_pos zeros_len, if_pos hd, zeros_base, zeros_gen]
    rw [hp] at hone ⊢
    rw [if_pos rfl]
    by_cases h0 : turn = 0
    · rw [show (turn == 0) = true by simp [h0]]
      exact hone
    · rw [show (turn == 0) = false by simp [h0]]
      exact tells_j 999 (by omega) _ data rfl at_ turn hd hD (u16_wf ha) (u8_wf ht) h0
  · have hp : (planF zeros data).2 = 3 := by
      unfold planF
      rw [if_pos zeros_len, if_neg hd]
    rw [hp, if_neg (by decide)]
    exact hone
end Go.Proofs.Ytlpagilpbdiniaa.Pure
