/- What an NVRAM is after some of the bytes of a row were written. -/
import Derived.Test.YtlpagilpbdiniaaHNvApP
namespace Go.Proofs.Ytlpagilpbdiniaa.Q
open Go.RowKit Go.Proofs.YtlpagilpbdiniaaW.PrintWords Go.Proofs.YtlpagilpbdiniaaW.PrintLast Go.Proofs.YtlpagilpbdiniaaW.PrintMore
def over (L : List Int) (o : Nat) (X : List Int) : List Int := L.take o ++ X ++ L.drop (o + X.length)
theorem over_len (L X : List Int) (o : Nat) (h : o + X.length ≤ L.length) : (over L o X).length = L.length := by
  unfold over
  simp
  omega
theorem over_snoc (L X : List Int) (o : Nat) (v : Int) (h : o + X.length < L.length) : (over L o X).set (o + X.length) v = over L o (X ++ [v]) := by
  unfold over
  have hl : (L.take o ++ X).length = o + X.length := by simp; omega
  rw [List.set_append_right _ _ (by omega), hl, Nat.sub_self, List.drop_eq_getElem_cons h, List.set_cons_zero]
  simp [Nat.add_assoc]
theorem over_head (L X : List Int) (o : Nat) (u v : Int) (h : o + X.length < L.length) : (over L o (u :: X)).set o v = over L o (v :: X) := by
  unfold over
  have hl : (L.take o).length = o := by rw [List.length_take]; omega
  rw [List.append_assoc, List.append_assoc, List.set_append_right _ _ (by omega), hl, Nat.sub_self]
  rfl
theorem lay_prefix (base : Int) (C : List Int) : ∀ rows : List S62, ∃ t, layF base rows C = rows ++ t := by
  induction C with
  | nil => intro rows; exact ⟨[], by simp [layF]⟩
  | cons c C ih =>
    intro rows
    obtain ⟨t, ht⟩ := ih (rows ++ [⟨base + rows.length, c⟩])
    exact ⟨[⟨base + rows.length, c⟩] ++ t, by rw [← List.append_assoc]; exact ht⟩
theorem take_lay (base : Int) (C : List Int) : ∀ (rows : List S62) (j : Nat), rows.length ≤ j → (layF base rows C).take j = layF base rows (C.take (j - rows.length)) := by
  induction C with
  | nil => intro rows j h; simp [layF, List.take_of_length_le h]
  | cons c C ih =>
    intro rows j h
    by_cases he : j = rows.length
    · obtain ⟨t, ht⟩ := lay_prefix base (c :: C) rows
      rw [ht, he, Nat.sub_self, List.take_zero]
      simp [layF]
    · rw [show j - rows.length = (j - (rows.length + 1)) + 1 by omega, List.take_succ_cons]
      have := ih (rows ++ [⟨base + rows.length, c⟩]) j (by simp; omega)
      simp only [List.length_append, List.length_cons, List.length_nil, Nat.zero_add] at this
      exact this
theorem apply_lay (nv : List Int) (base : Nat) (C : List Int) : ∀ (rows : List S62) (X : List Int), rows.length = X.length → rows.foldl stepA nv = over nv base X → base + X.length + C.length ≤ nv.length → (layF base rows C).foldl stepA nv = over nv base (X ++ C) := by
  induction C with
  | nil => intro rows X h1 h2 h3; simpa [layF] using h2
  | cons c C ih =>
    intro rows X h1 h2 h3
    simp only [List.length_cons] at h3
    have h := ih (rows ++ [⟨(base : Int) + rows.length, c⟩]) (X ++ [c]) (by simp [h1]) (by
      rw [List.foldl_append, h2]
      simp only [List.foldl_cons, List.foldl_nil, stepA]
      rw [if_pos (by rw [over_len _ _ _ (by omega)]; omega), show ((base : Int) + (rows.length : Int)).toNat = base + X.length by omega, over_snoc _ _ _ _ (by omega)]) (by simp; omega)
    rw [List.append_assoc] at h
    exact h
def body (g : Int) (data : List Int) : List Int := [g, (data.length : Int) / 256 % 256, (data.length : Int) % 256] ++ fourF (sumF g data) ++ data
theorem body_len (g : Int) (data : List Int) : (body g data).length = data.length + 7 := by simp [body, fourF]
theorem rows_body (base g : Int) (data : List Int) : rowsF base g data = layF base [⟨base, 0⟩] (body g data) ++ [⟨base, 165⟩] := by
  unfold rowsF body layF
  rw [List.foldl_append, List.foldl_append]
theorem body_bytes (g : Int) (data : List Int) (hg : 0 ≤ g ∧ g < 256) (hd : Bytes data) : Bytes (body g data) := by
  intro a ha
  simp only [body, fourF, List.mem_append, List.mem_cons, List.not_mem_nil, or_false] at ha
  rcases ha with ((rfl | rfl | rfl) | (rfl | rfl | rfl | rfl)) | ha
  · exact hg
  all_goals first | exact hd a ha | omega
/-- The three states. -/
theorem apply_none (nv : List Int) (l : List S62) (n : Int) (h : n ≤ 0) : applyF nv l n = nv := by
  unfold applyF
  rw [show n.toNat = 0 by omega]
  rfl
theorem apply_part (nv : List Int) (base : Nat) (g : Int) (data : List Int) (n : Int) (hl : base + (data.length + 8) ≤ nv.length) (h1 : 0 < n) (h2 : n < data.length + 9) : applyF nv (rowsF base g data) n = over nv base (0 :: (body g data).take (n.toNat - 1)) := by
  unfold applyF
  have hb := body_len g data
  have hr : (layF (base : Int) [⟨base, 0⟩] (body g data)).length = data.length + 8 := by rw [layF_len, hb]; simp; omega
  rw [rows_body, List.take_append_of_le_length (by omega), take_lay _ _ _ _ (by simp; omega)]
  rw [apply_lay nv base _ [⟨(base : Int), 0⟩] [0] rfl ?_ (by simp only [List.length_cons, List.length_nil, List.length_take]; omega)]
  · rfl
  · simp only [List.foldl_cons, List.foldl_nil, stepA]
    rw [if_pos (by omega), show ((base : Int)).toNat = base + ([] : List Int).length by simp]
    have h := over_snoc nv [] base 0 (by simp; omega)
    rw [show over nv base [] = nv by simp [over]] at h
    exact h
theorem apply_all (nv : List Int) (base : Nat) (g : Int) (data : List Int) (n : Int) (hl : base + (data.length + 8) ≤ nv.length) (h2 : data.length + 9 ≤ n) : applyF nv (rowsF base g data) n = over nv base (165 :: body g data) := by
  have hp := apply_part nv base g data (data.length + 8) hl (by omega) (by omega)
  unfold applyF at hp ⊢
  have hb := body_len g data
  have hr : (layF (base : Int) [⟨base, 0⟩] (body g data)).length = data.length + 8 := by rw [layF_len, hb]; simp; omega
  rw [List.take_of_length_le (by rw [rowsF_len]; omega), rows_body, List.foldl_append]
  rw [rows_body, List.take_append_of_le_length (by omega), List.take_of_length_le (by omega), List.take_of_length_le (by omega)] at hp
  rw [hp]
  simp only [List.foldl_cons, List.foldl_nil, stepA]
  rw [if_pos (by rw [over_len _ _ _ (by simp; omega)]; omega), Int.toNat_natCast, over_head _ _ _ _ _ (by omega)]
theorem bank_over (nv : List Int) (t : Nat) (X : List Int) (hl : nv.length = 512) (ht : t = 0 ∨ t = 1) (hX : X.length ≤ 256) : bankF (over nv (t * 256) X) t = X ++ (bankF nv t).drop X.length ∧ bankF (over nv (t * 256) X) (1 - (t : Int)) = bankF nv (1 - (t : Int)) := by
  rcases ht with rfl | rfl
  · refine ⟨?_, ?_⟩
    · show (over nv 0 X).take 256 = X ++ (nv.take 256).drop X.length
      unfold over
      rw [List.take_zero, List.nil_append, Nat.zero_add, List.take_append, List.take_of_length_le hX, List.drop_take]
    · show (over nv 0 X).drop 256 = nv.drop 256
      unfold over
      rw [List.take_zero, List.nil_append, Nat.zero_add, List.drop_append, List.drop_eq_nil_of_le hX, List.nil_append, List.drop_drop]
      congr 1
      omega
  · refine ⟨?_, ?_⟩
    · show (over nv 256 X).drop 256 = X ++ (nv.drop 256).drop X.length
      unfold over
      rw [List.append_assoc, List.drop_append_of_le_length (by rw [List.length_take]; omega), List.drop_eq_nil_of_le (by rw [List.length_take]; omega), List.nil_append, List.drop_drop]
    · show (over nv 256 X).take 256 = nv.take 256
      unfold over
      rw [List.append_assoc, List.take_append_of_le_length (by rw [List.length_take]; omega), List.take_take, Nat.min_self]
theorem data_zero (Y : List Int) : dataF (0 :: Y) = ([], false) := by
  unfold dataF
  rw [if_neg (fun h => by have h1 := h.1; simp [rd] at h1)]
theorem data_all (g : Int) (data Y : List Int) (hd : data.length ≤ 248) : dataF ((165 :: body g data) ++ Y) = (data, true) := by
  have e : lenF ((165 :: body g data) ++ Y) = data.length := by
    unfold lenF
    have h2 : rd ((165 :: body g data) ++ Y) 2 = (data.length : Int) / 256 % 256 := rfl
    have h3 : rd ((165 :: body g data) ++ Y) 3 = (data.length : Int) % 256 := rfl
    rw [h2, h3]
    omega
  have h0 : rd ((165 :: body g data) ++ Y) 0 = 165 := rfl
  have h1 : rd ((165 :: body g data) ++ Y) 1 = g := rfl
  have h8 : ((165 :: body g data) ++ Y).drop 8 = data ++ Y := rfl
  have h4 : (((165 :: body g data) ++ Y).drop 4).take 4 = fourF (sumF g data) := rfl
  unfold dataF
  rw [e, if_pos ⟨h0, by omega⟩, h8, h1, h4, Int.toNat_natCast, List.take_left']
  · simp
  · rfl
theorem counts_banks (L : List Int) : countsF L = if (dataF (bankF L 1)).2 = true ∧ ((dataF (bankF L 0)).2 = false ∨ rd (bankF L 1) 1 = (rd (bankF L 0) 1 + 1) % 256) then 1 else if (dataF (bankF L 0)).2 = true then 0 else -1 := by
  have r0 : rd (bankF L 0) 1 = rd L 1 := rd_take L 256 1 (by decide)
  have r1 : rd (bankF L 1) 1 = rd L 257 := rd_drop L 256 1
  rw [r0, r1]
  rfl
theorem gen_banks (L : List Int) : genF L = if 0 ≤ countsF L then (rd (bankF L (countsF L)) 1 + 1) % 256 else 1 := by
  unfold genF
  rcases countsF_cases L with h | h | h
  · rw [h]; rfl
  · rw [h]
    have r0 : rd (bankF L 0) 1 = rd L 1 := rd_take L 256 1 (by decide)
    rw [r0]
    rfl
  · rw [h]
    have r1 : rd (bankF L 1) 1 = rd L 257 := rd_drop L 256 1
    rw [r1]
    rfl
theorem over_bytes (L X : List Int) (o : Nat) (hL : Bytes L) (hX : Bytes X) : Bytes (over L o X) := by
  intro a ha
  unfold over at ha
  simp only [List.mem_append] at ha
  rcases ha with (ha | ha) | ha
  · exact hL.take _ a ha
  · exact hX a ha
  · exact hL.drop _ a ha
theorem rd_bytes {B : List Int} (hb : Bytes B) (i : Nat) (h : i < B.length) : 0 ≤ rd B i ∧ rd B i < 256 := by
  have : rd B (i : Int) = B[i] := by simp [rd, List.getD_eq_getElem?_getD, List.getElem?_eq_getElem h]
  rw [this]
  exact hb _ (List.getElem_mem h)
theorem gen_range (L : List Int) : 0 ≤ genF L ∧ genF L < 256 := by
  unfold genF
  split <;> omega
/-- Wherever the power goes: what was found ahead, or the new data. -/
theorem cut_rec (nv data : List Int) (n : Int) (hl : nv.length = 512) (hd : data.length ≤ 248) (hB : Bytes nv) (hD : Bytes data) :
    Bytes (applyF nv (rowsF (baseF nv) (genF nv) data) n) ∧ (applyF nv (rowsF (baseF nv) (genF nv) data) n).length = 512 ∧
    ((data.length : Int) + 9 ≤ n → ∃ k, recF (applyF nv (rowsF (baseF nv) (genF nv) data) n) = (data, k, true)) ∧ (n < (data.length : Int) + 9 → recF (applyF nv (rowsF (baseF nv) (genF nv) data) n) = recF nv) := by
  obtain ⟨t, ht, hbase, hcase⟩ : ∃ t : Nat, (t = 0 ∨ t = 1) ∧ baseF nv = ((t * 256 : Nat) : Int) ∧ ((countsF nv = 0 ∧ t = 1) ∨ (countsF nv = 1 ∧ t = 0) ∨ (countsF nv = -1 ∧ t = 0)) := by
    unfold baseF
    rcases countsF_cases nv with h | h | h
    · exact ⟨0, .inl rfl, by rw [h]; rfl, .inr (.inr ⟨h, rfl⟩)⟩
    · exact ⟨1, .inr rfl, by rw [h]; rfl, .inl ⟨h, rfl⟩⟩
    · exact ⟨0, .inl rfl, by rw [h]; rfl, .inr (.inl ⟨h, rfl⟩)⟩
  obtain ⟨g, hg⟩ : ∃ g, g = genF nv := ⟨_, rfl⟩
  have hgr := gen_range nv
  have hgb := gen_banks nv
  have hcb := counts_banks nv
  rw [← hg] at hgr hgb ⊢
  rw [hbase]
  have hbl := body_len g data
  have hbb := body_bytes g data hgr hD
  have h257 : 0 ≤ rd (bankF nv 1) 1 ∧ rd (bankF nv 1) 1 < 256 := rd_bytes (bankF_bytes hB 1) 1 (by rw [bankF_len hl]; decide)
  by_cases c0 : n ≤ 0
  · rw [apply_none _ _ _ c0]
    exact ⟨hB, hl, fun h => by omega, fun _ => rfl⟩
  · by_cases c1 : n < (data.length : Int) + 9
    · rw [apply_part nv (t * 256) g data n (by omega) (by omega) c1]
      obtain ⟨X, hX⟩ : ∃ X, X = (body g data).take (n.toNat - 1) := ⟨_, rfl⟩
      have hXl : X.length ≤ 255 := by rw [hX, List.length_take]; omega
      have hXb : Bytes (0 :: X) := by
        intro a ha
        rcases List.mem_cons.1 ha with rfl | ha
        · omega
        · rw [hX] at ha; exact hbb.take _ a ha
      rw [← hX]
      obtain ⟨h1, h2⟩ := bank_over nv t (0 :: X) hl ht (by simp; omega)
      have hM := over_len nv (0 :: X) (t * 256) (by simp; omega)
      have hMb := over_bytes nv (0 :: X) (t * 256) hB hXb
      obtain ⟨M, hMe⟩ : ∃ M, M = over nv (t * 256) (0 :: X) := ⟨_, rfl⟩
      rw [← hMe] at h1 h2 hM hMb ⊢
      refine ⟨hMb, by rw [hM]; exact hl, fun h => by omega, fun _ => ?_⟩
      have hz : dataF (bankF M t) = ([], false) := by rw [h1]; exact data_zero _
      have hcM := counts_banks M
      unfold recF
      rcases hcase with ⟨hk, rfl⟩ | ⟨hk, rfl⟩ | ⟨hk, rfl⟩
      · have h2' : bankF M 0 = bankF nv 0 := h2
        have hz' : dataF (bankF M 1) = ([], false) := hz
        have hx0 : (dataF (bankF nv 0)).2 = true := by
          rw [hk] at hcb
          split at hcb
          · omega
          · split at hcb
            · assumption
            · omega
        have hcm : countsF M = 0 := by rw [hcM, hz', h2', hx0]; simp
        rw [hcm, hk, h2']
        simp [hM, hl]
      · have h2' : bankF M 1 = bankF nv 1 := h2
        have hz' : dataF (bankF M 0) = ([], false) := hz
        have hx1 : (dataF (bankF nv 1)).2 = true := by
          rw [hk] at hcb
          split at hcb
          · rename_i h; exact h.1
          · split at hcb <;> omega
        have hcm : countsF M = 1 := by rw [hcM, hz', h2', hx1]; simp
        rw [hcm, hk, h2']
        simp [hM, hl]
      · have h2' : bankF M 1 = bankF nv 1 := h2
        have hz' : dataF (bankF M 0) = ([], false) := hz
        have hx : (dataF (bankF nv 1)).2 = false := by
          rw [hk] at hcb
          split at hcb
          · omega
          · rename_i h3
            split at hcb
            · omega
            · rename_i h4
              cases hx1 : (dataF (bankF nv 1)).2
              · rfl
              · exact absurd ⟨hx1, .inl (by simpa using h4)⟩ h3
        have hcm : countsF M = -1 := by rw [hcM, hz', h2', hx]; simp
        rw [hcm, hk]
        simp
    · rw [apply_all nv (t * 256) g data n (by omega) (by omega)]
      have hXb : Bytes (165 :: body g data) := by
        intro a ha
        rcases List.mem_cons.1 ha with rfl | ha
        · omega
        · exact hbb a ha
      obtain ⟨h1, h2⟩ := bank_over nv t (165 :: body g data) hl ht (by simp; omega)
      have hM := over_len nv (165 :: body g data) (t * 256) (by simp; omega)
      have hMb := over_bytes nv (165 :: body g data) (t * 256) hB hXb
      obtain ⟨M, hMe⟩ : ∃ M, M = over nv (t * 256) (165 :: body g data) := ⟨_, rfl⟩
      rw [← hMe] at h1 h2 hM hMb ⊢
      refine ⟨hMb, by rw [hM]; exact hl, fun _ => ?_, fun h => by omega⟩
      have hz : dataF (bankF M t) = (data, true) := by rw [h1]; exact data_all g data _ hd
      have hg1 : rd (bankF M t) 1 = g := by rw [h1]; rfl
      have hcM := counts_banks M
      unfold recF
      rcases hcase with ⟨hk, rfl⟩ | ⟨hk, rfl⟩ | ⟨hk, rfl⟩
      · have h2' : bankF M 0 = bankF nv 0 := h2
        have hz' : dataF (bankF M 1) = (data, true) := hz
        have hg' : rd (bankF M 1) 1 = g := hg1
        rw [hk, if_pos (by omega)] at hgb
        have hcm : countsF M = 1 := by rw [hcM, hz', hg', h2', if_pos ⟨rfl, .inr hgb⟩]
        refine ⟨1, ?_⟩
        rw [hcm, if_pos ⟨by rw [hM]; exact hl, by omega⟩, hz']
      · have h2' : bankF M 1 = bankF nv 1 := h2
        have hz' : dataF (bankF M 0) = (data, true) := hz
        have hg' : rd (bankF M 0) 1 = g := hg1
        rw [hk, if_pos (by omega)] at hgb
        have hcm : countsF M = 0 := by
          rw [hcM, hz', hg', h2', if_neg (fun h => by
            rcases h.2 with h | h
            · cases h
            · omega), if_pos rfl]
        refine ⟨0, ?_⟩
        rw [hcm, if_pos ⟨by rw [hM]; exact hl, by omega⟩, hz']
      · have h2' : bankF M 1 = bankF nv 1 := h2
        have hz' : dataF (bankF M 0) = (data, true) := hz
        have hx : (dataF (bankF nv 1)).2 = false := by
          rw [hk] at hcb
          split at hcb
          · omega
          · rename_i h3
            split at hcb
            · omega
            · rename_i h4
              cases hx1 : (dataF (bankF nv 1)).2
              · rfl
              · exact absurd ⟨hx1, .inl (by simpa using h4)⟩ h3
        have hcm : countsF M = 0 := by rw [hcM, hz', h2', hx]; simp
        refine ⟨0, ?_⟩
        rw [hcm, if_pos ⟨by rw [hM]; exact hl, by omega⟩, hz']
end Go.Proofs.Ytlpagilpbdiniaa.Q
