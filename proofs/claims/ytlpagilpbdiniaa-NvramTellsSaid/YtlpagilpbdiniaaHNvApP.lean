/- What a row of bytes makes of an NVRAM. -/
import Derived.Test.YtlpagilpbdiniaaHNvP
import Derived.Test.YtlpagilpbdiniaaQNvramApply
import Derived.Test.YtlpagilpbdiniaaQTinderref18Apply
namespace Go.Proofs.Ytlpagilpbdiniaa.Q
open Go.RowKit Go.Proofs.YtlpagilpbdiniaaW.PrintWords Go.Proofs.YtlpagilpbdiniaaW.PrintLast Go.Proofs.YtlpagilpbdiniaaW.PrintMore
def stepA (x : List Int) (p : S62) : List Int := if 0 ≤ p.f0 ∧ p.f0 < x.length then x.set p.f0.toNat p.f1 else x
def applyF (nv : List Int) (l : List S62) (n : Int) : List Int := (l.take n.toNat).foldl stepA nv
theorem rd62_at (L : List S62) (i : Int) (h : i.toNat < L.length) : L[i.toNat]'h = rd_T62 L i := by simp [rd_T62, List.getD_eq_getElem?_getD, List.getElem?_eq_getElem h]
theorem apply_go (L : List S62) (hL : L.length ≤ 1000000000000000) (d : Nat) : ∀ (k : Nat) (x : List Int) (i : Int), 0 ≤ i → i + d = L.length → d < k → nvram_Apply.l0 k x L (L.length : Int) i = some ((L.drop i.toNat).foldl stepA x) := by
  induction d with
  | zero =>
    intro k x i h0 h1 hk
    obtain ⟨k, rfl⟩ : ∃ m, k = m + 1 := ⟨k - 1, by omega⟩
    simp only [nvram_Apply.l0]
    rw [if_neg (by omega), List.drop_eq_nil_of_le (by omega)]
    rfl
  | succ d ih =>
    intro k x i h0 h1 hk
    obtain ⟨k, rfl⟩ : ∃ m, k = m + 1 := ⟨k - 1, by omega⟩
    have hil : i.toNat < L.length := by omega
    have e1 : wrap64 (i + 1) = i + 1 := by unfold wrap64; omega
    have e2 : (i + 1).toNat = i.toNat + 1 := by omega
    simp only [nvram_Apply.l0]
    rw [if_pos (by omega), if_pos h0, if_pos (by omega), e1, ih k _ (i + 1) (by omega) (by omega) (by omega), ih k _ (i + 1) (by omega) (by omega) (by omega), List.drop_eq_getElem_cons hil, List.foldl_cons, rd62_at L i hil, e2]
    unfold stepA
    by_cases c1 : 0 ≤ (rd_T62 L i).f0
    · by_cases c2 : (rd_T62 L i).f0 < x.length
      · rw [if_pos (by omega), if_pos c2, if_pos c1, if_pos ⟨c1, c2⟩]
      · rw [if_pos (by omega), if_neg c2, if_neg (fun h => c2 h.2)]
    · rw [if_neg (by omega), if_neg (fun h => c1 h.1)]
theorem apply_eq (k : Nat) (nv : List Int) (l : List S62) (n : Int) (hn : nv.length ≤ 140737488351232) (hl : l.length ≤ 100000000000000) (hk : l.length < k) : nvram_Apply.f k nv l n = some (applyF nv l n) := by
  unfold nvram_Apply.f
  have e1 : slices_Clone_byte_byte.f nv = some nv := by unfold slices_Clone_byte_byte.f; rw [if_pos (by omega)]
  obtain ⟨m, hm⟩ : ∃ m, mx 0 (mn n (l.length : Int)) = m := ⟨_, rfl⟩
  have hm2 : 0 ≤ m ∧ m ≤ l.length ∧ l.take m.toNat = l.take n.toNat := by
    have h1 : m = if 0 < (if (l.length : Int) < n then (l.length : Int) else n) then (if (l.length : Int) < n then (l.length : Int) else n) else 0 := hm.symm
    by_cases h2 : (l.length : Int) < n
    · rw [if_pos h2] at h1
      have h3 : m = l.length := by split at h1 <;> omega
      refine ⟨by omega, by omega, ?_⟩
      rw [List.take_of_length_le (by omega), List.take_of_length_le (by omega)]
    · rw [if_neg h2] at h1
      have h3 : m.toNat = n.toNat := by split at h1 <;> omega
      refine ⟨by split at h1 <;> omega, by split at h1 <;> omega, by rw [h3]⟩
  rw [e1, Option.bind_some, hm, if_pos hm2.1, if_pos hm2.2.1, Option.bind_some, hm2.2.2]
  have h := apply_go (l.take n.toNat) (by rw [List.length_take]; omega) (l.take n.toNat).length k nv 0 (by omega) (by omega) (by rw [List.length_take]; omega)
  rw [h]
  rfl
theorem ref_apply_go (L : List S62) (n : Int) (hL : L.length ≤ 1000000000000000) (d : Nat) : ∀ (k : Nat) (x : List Int) (i : Int), 0 ≤ i → i + d = L.length → 2 * d + 2 < k → tinderref18_Apply.l0 k L n x i = some (((L.take n.toNat).drop i.toNat).foldl stepA x) := by
  induction d with
  | zero =>
    intro k x i h0 h1 hk
    obtain ⟨k, rfl⟩ : ∃ m, k = m + 2 := ⟨k - 2, by omega⟩
    simp only [tinderref18_Apply.l0, tinderref18_Apply.j1]
    rw [if_neg (by omega), if_neg (by decide), List.drop_eq_nil_of_le (by rw [List.length_take]; omega)]
    rfl
  | succ d ih =>
    intro k x i h0 h1 hk
    obtain ⟨k, rfl⟩ : ∃ m, k = m + 2 := ⟨k - 2, by omega⟩
    have hil : i.toNat < L.length := by omega
    have e1 : wrap64 (i + 1) = i + 1 := by unfold wrap64; omega
    have e2 : (i + 1).toNat = i.toNat + 1 := by omega
    simp only [tinderref18_Apply.l0, tinderref18_Apply.j1]
    rw [if_pos (by omega)]
    by_cases hin : i < n
    · have hit : i.toNat < (L.take n.toNat).length := by rw [List.length_take]; omega
      have hgt : (L.take n.toNat)[i.toNat]'hit = rd_T62 L i := by rw [List.getElem_take]; exact rd62_at L i hil
      rw [if_pos (decide_eq_true hin), if_pos h0, if_pos (by omega), e1, ih k _ (i + 1) (by omega) (by omega) (by omega), ih k _ (i + 1) (by omega) (by omega) (by omega), List.drop_eq_getElem_cons hit, List.foldl_cons, hgt, e2]
      unfold stepA
      by_cases c1 : 0 ≤ (rd_T62 L i).f0
      · by_cases c2 : (rd_T62 L i).f0 < x.length
        · rw [if_pos (by omega), if_pos c2, if_pos c1, if_pos ⟨c1, c2⟩]
        · rw [if_pos (by omega), if_neg c2, if_neg (fun h => c2 h.2)]
      · rw [if_neg (by omega), if_neg (fun h => c1 h.1)]
    · rw [if_neg (by simp; omega), List.drop_eq_nil_of_le (by rw [List.length_take]; omega)]
      rfl
theorem ref_apply_eq (k : Nat) (nv : List Int) (l : List S62) (n : Int) (hn : nv.length ≤ 140737488351232) (hl : l.length ≤ 100000000000000) (hk : 2 * l.length + 2 < k) : tinderref18_Apply.f k nv l n = some (applyF nv l n) := by
  unfold tinderref18_Apply.f
  have e1 : tinderref04_Copy.f nv = some nv := by unfold tinderref04_Copy.f; rw [if_pos (by simp; omega)]; simp
  rw [e1, Option.bind_some, ref_apply_go l n (by omega) l.length k nv 0 (by omega) (by omega) hk]
  rfl
end Go.Proofs.Ytlpagilpbdiniaa.Q
