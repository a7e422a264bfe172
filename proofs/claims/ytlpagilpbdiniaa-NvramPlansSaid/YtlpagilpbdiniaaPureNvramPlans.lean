/- The row of bytes that writes data is the reference's. -/
import Derived.Test.YtlpagilpbdiniaaQTinderlaw18NvramPlans
import Derived.Test.YtlpagilpbdiniaaHNvApP
namespace Go.Proofs.Ytlpagilpbdiniaa.Pure
open Go.RowKit Go.Proofs.Ytlpagilpbdiniaa.Q Go.Proofs.YtlpagilpbdiniaaW.PrintWords Go.Proofs.YtlpagilpbdiniaaW.PrintLast
theorem enc_step (k : Nat) (s : Int) (acc : List Int) (i : Int) (hs : 0 ≤ s ∧ s < 4294967296) (hi : i = 0 ∨ i = 1 ∨ i = 2 ∨ i = 3) (ha : acc.length ≤ 10) : tinderref05_EncodeInt.l0 (k + 1) s acc i = tinderref05_EncodeInt.l0 k s (acc ++ [s / (256 ^ i.toNat) % 256]) (i - 1) := by
  have e0 : wrap64 (i - 1) = i - 1 := by unfold wrap64; omega
  have e1 : wrap64 (8 * i) = 8 * i := by unfold wrap64; omega
  have e2 : IntKind.u64.wrap (8 * i) = 8 * i := by rw [IntKind.wrap_u64]; omega
  have e3 : Int.tmod (shr .u32 s (8 * i)) 256 % 256 = s / (256 ^ i.toNat) % 256 := by
    rcases hi with rfl | rfl | rfl | rfl
    · rw [show shr .u32 s (8 * 0) = s / 1 from rfl, Int.tmod_eq_emod_of_nonneg (by omega), show (256 : Int) ^ (0 : Int).toNat = 1 from rfl]
      omega
    · rw [show shr .u32 s (8 * 1) = s / 256 from rfl, Int.tmod_eq_emod_of_nonneg (by omega), show (256 : Int) ^ (1 : Int).toNat = 256 from rfl]
      omega
    · rw [show shr .u32 s (8 * 2) = s / 65536 from rfl, Int.tmod_eq_emod_of_nonneg (by omega), show (256 : Int) ^ (2 : Int).toNat = 65536 from rfl]
      omega
    · rw [show shr .u32 s (8 * 3) = s / 16777216 from rfl, Int.tmod_eq_emod_of_nonneg (by omega), show (256 : Int) ^ (3 : Int).toNat = 16777216 from rfl]
      omega
  simp only [tinderref05_EncodeInt.l0]
  rw [if_pos (by omega), e1, e2, if_pos (by omega), if_pos (by omega), e3, e0]
theorem encode_eq (k : Nat) (s : Int) (hs : 0 ≤ s ∧ s < 4294967296) (hk : 10 ≤ k) : tinderref05_EncodeInt.f k s = some (fourF s) := by
  obtain ⟨k, rfl⟩ : ∃ m, k = m + 5 := ⟨k - 5, by omega⟩
  unfold tinderref05_EncodeInt.f
  rw [enc_step _ s _ 3 hs (by omega) (by simp), enc_step _ s _ (3 - 1) hs (by omega) (by simp), enc_step _ s _ (3 - 1 - 1) hs (by omega) (by simp), enc_step _ s _ (3 - 1 - 1 - 1) hs (by omega) (by simp)]
  simp only [tinderref05_EncodeInt.l0]
  rw [if_neg (by decide)]
  simp [fourF]
theorem plan_go (base : Int) (hb : 0 ≤ base ∧ base ≤ 1000) (b : List Int) (hl : b.length ≤ 1000) (d : Nat) : ∀ (k : Nat) (acc : List S62) (i : Int), 0 ≤ i → i + d = b.length → d < k → (acc.length : Int) = i + 1 → tinderref18_Plan.l0 k base b acc i = some (layF base acc (b.drop i.toNat) ++ [⟨base, 165⟩], 0) := by
  induction d with
  | zero =>
    intro k acc i h0 h1 hk ha
    obtain ⟨k, rfl⟩ : ∃ m, k = m + 1 := ⟨k - 1, by omega⟩
    simp only [tinderref18_Plan.l0]
    rw [if_neg (by omega), if_pos (by omega), List.drop_eq_nil_of_le (by omega)]
    rfl
  | succ d ih =>
    intro k acc i h0 h1 hk ha
    obtain ⟨k, rfl⟩ : ∃ m, k = m + 1 := ⟨k - 1, by omega⟩
    have hil : i.toNat < b.length := by omega
    have hrd : rd b i = b[i.toNat] := by simp [rd, List.getD_eq_getElem?_getD, List.getElem?_eq_getElem hil]
    have e1 : wrap64 (i + 1) = i + 1 := by unfold wrap64; omega
    have e2 : (i + 1).toNat = i.toNat + 1 := by omega
    have e3 : wrap64 (wrap64 (base + 1) + i) = base + acc.length := by
      have : wrap64 (base + 1) = base + 1 := by unfold wrap64; omega
      rw [this]
      unfold wrap64
      omega
    simp only [tinderref18_Plan.l0]
    rw [if_pos (by omega), if_pos h0, if_pos (by omega), e1, e3, hrd, ih k _ (i + 1) (by omega) (by omega) (by omega) (by simp; omega), List.drop_eq_getElem_cons hil, e2]
    rfl
theorem lay_append (base : Int) (xs ys : List Int) (rows : List S62) : layF base rows (xs ++ ys) = layF base (layF base rows xs) ys := by
  unfold layF
  exact List.foldl_append ..
theorem plan_j (k : Nat) (data : List Int) (g base : Int) (hd : data.length ≤ 248) (hbd : Bytes data) (hg : 0 ≤ g ∧ g < 256) (hb : 0 ≤ base ∧ base ≤ 1000) (hk : 1000 ≤ k) : tinderref18_Plan.j0 k data g base = some (rowsF base g data, 0) := by
  obtain ⟨k, rfl⟩ : ∃ m, k = m + 1 := ⟨k - 1, by omega⟩
  simp only [tinderref18_Plan.j0, Option.bind_some]
  rw [ref18_Sum_eq k g data hg hbd (by omega) (by omega), Option.bind_some, encode_eq k _ (sumF_range g data) (by omega), Option.bind_some, if_pos (by simp [fourF]), if_pos (by simp [fourF]; omega)]
  rw [plan_go base hb _ (by simp [fourF]; omega) ([g, 0, (data.length : Int) % 256] ++ fourF (sumF g data) ++ data).length k _ 0 (by omega) (by omega) (by simp [fourF]; omega) (by simp)]
  unfold rowsF
  have e : (data.length : Int) / 256 % 256 = 0 := by omega
  rw [e]
  simp only [Int.toNat_zero, List.drop_zero]
  rw [lay_append, lay_append]
theorem same_go (xs : List S62) (hl : xs.length ≤ 1000000000) (d : Nat) : ∀ (k : Nat) (i : Int), 0 ≤ i → i + d = xs.length → d < k → tinderref18_SameBytes.l0 k xs xs i = some true := by
  induction d with
  | zero =>
    intro k i h0 h1 hk
    obtain ⟨k, rfl⟩ : ∃ m, k = m + 1 := ⟨k - 1, by omega⟩
    simp only [tinderref18_SameBytes.l0]
    rw [if_neg (by omega)]
  | succ d ih =>
    intro k i h0 h1 hk
    obtain ⟨k, rfl⟩ : ∃ m, k = m + 1 := ⟨k - 1, by omega⟩
    have e1 : wrap64 (i + 1) = i + 1 := by unfold wrap64; omega
    simp only [tinderref18_SameBytes.l0]
    rw [if_pos (by omega), if_pos h0, if_pos (by omega), if_neg (by simp), e1]
    exact ih k (i + 1) (by omega) (by omega) (by omega)
theorem NvramPlans : tinderlaw18_NvramPlans.Pure := by
  intro nv data _ hl hb _ hl2 hb2
  have hB := bytes_wf hb
  have hB2 := bytes_wf hb2
  refine ⟨2000, ?_⟩
  unfold tinderlaw18_NvramPlans.f
  have e2 : nvram_Plan.f nv data = some (planF nv data) := by unfold nvram_Plan.f; rw [if_pos (bytesB_iff.2 hB)]
  have e3 : tinderref18_Plan.f 2000 nv data = some (planF nv data) := by
    unfold tinderref18_Plan.f planF
    by_cases hn : nv.length = 512
    · rw [if_pos (by omega), if_pos hn]
      by_cases hd : data.length ≤ 248
      · rw [if_neg (by omega), if_pos hd]
        have hc : tinderref18_Counts.f nv = some (countsR nv) := by unfold tinderref18_Counts.f; rw [if_pos ⟨hn, bytesB_iff.2 hB⟩]
        obtain ⟨h1, h2⟩ := counts_eq nv hn hB
        have hcs := countsF_cases nv
        rw [hc, Option.bind_some, h1, h2]
        have hgr : 0 ≤ genF nv ∧ genF nv < 256 := by rw [← h2]; omega
        have hbase : baseF nv = if 0 ≤ countsF nv then (1 - countsF nv) * 256 else 0 := rfl
        by_cases hk : countsF nv = 0
        · rw [if_pos hk, plan_j 2000 data _ 256 hd hB2 hgr (by omega) (by omega), hbase, if_pos (by omega), hk]
          rfl
        · rw [if_neg hk, plan_j 2000 data _ 0 hd hB2 hgr (by omega) (by omega), hbase]
          rcases hcs with h | h | h
          · rw [if_neg (by omega)]
          · exact absurd h hk
          · rw [if_pos (by omega), h]
            rfl
      · rw [if_pos (by omega), if_neg hd]
    · rw [if_neg (by omega), if_neg hn]
  have hlen : (planF nv data).1.length ≤ 1000 := by
    unfold planF
    split
    · split
      · rw [rowsF_len]; omega
      · simp
    · simp
  rw [alive18 _ (by omega), Option.bind_some, if_pos rfl, e2, Option.bind_some, e3, Option.bind_some]
  unfold tinderref18_SameBytes.f
  rw [if_pos rfl, same_go _ (by omega) (planF nv data).1.length 2000 0 (by omega) (by omega) (by omega), Option.bind_some, if_pos rfl]
  simp
end Go.Proofs.Ytlpagilpbdiniaa.Pure
