/- What is found behind a byte that was turned. -/
import Derived.Test.YtlpagilpbdiniaaHNvTellsP
namespace Go.Proofs.Ytlpagilpbdiniaa.Q
open Go.RowKit Go.Proofs.YtlpagilpbdiniaaW.PrintWords Go.Proofs.YtlpagilpbdiniaaW.PrintLast Go.Proofs.YtlpagilpbdiniaaW.PrintMore
def zeros : List Int := List.replicate 512 0
theorem zeros_counts : countsF zeros = -1 := by kernel_rfl
theorem zeros_base : baseF zeros = 0 := by unfold baseF; rw [zeros_counts]; rfl
theorem zeros_gen : genF zeros = 1 := by unfold genF; rw [zeros_counts]; rfl
theorem zeros_len : zeros.length = 512 := List.length_replicate
theorem zeros_bytes : Bytes zeros := fun a ha => by have := List.eq_of_mem_replicate ha; omega
theorem four_inj (s s' : Int) (hs : 0 ≤ s ∧ s < 4294967296) (hs' : 0 ≤ s' ∧ s' < 4294967296) (h : fourF s = fourF s') : s = s' := by
  simp only [fourF, List.cons.injEq, and_true] at h
  omega
theorem bits_xor_u8 (a b : Int) (ha : 0 ≤ a ∧ a < 256) (hb : 0 ≤ b ∧ b < 256) (hne : b ≠ 0) : 0 ≤ bits BinOp.xor IntKind.u8 a b ∧ bits BinOp.xor IntKind.u8 a b < 256 ∧ bits BinOp.xor IntKind.u8 a b ≠ a := by
  obtain ⟨x, rfl⟩ := Int.eq_ofNat_of_zero_le ha.1
  obtain ⟨y, rfl⟩ := Int.eq_ofNat_of_zero_le hb.1
  have hx : x ^^^ y < 2 ^ 8 := Nat.xor_lt_two_pow (by omega) (by omega)
  have h1 : (BitVec.ofInt 8 (x : Int)).toNat = x := by
    rw [BitVec.ofInt_natCast, BitVec.toNat_ofNat]; exact Nat.mod_eq_of_lt (by omega)
  have h2 : (BitVec.ofInt 8 (y : Int)).toNat = y := by
    rw [BitVec.ofInt_natCast, BitVec.toNat_ofNat]; exact Nat.mod_eq_of_lt (by omega)
  have e : bits BinOp.xor IntKind.u8 (x : Int) (y : Int) = ((x ^^^ y : Nat) : Int) := by
    show IntKind.u8.wrap ((BitVec.ofInt 8 (x : Int) ^^^ BitVec.ofInt 8 (y : Int)).toNat : Int) = _
    rw [BitVec.toNat_xor, h1, h2, wrap_u8]
    omega
  rw [e]
  refine ⟨by omega, by omega, fun h => ?_⟩
  have h3 : x ^^^ y = x := by omega
  have h4 : x ^^^ (x ^^^ y) = x ^^^ x := by rw [h3]
  rw [← Nat.xor_assoc, Nat.xor_self, Nat.zero_xor] at h4
  omega
/-- What is found where the second bank is empty. -/
theorem rec_first (y : List Int) (hl : y.length = 512) (h1 : (dataF (bankF y 1)).2 = false) : recF y = if (dataF (bankF y 0)).2 = true then ((dataF (bankF y 0)).1, 0, true) else ([], 0, false) := by
  have hc := counts_banks y
  unfold recF
  rw [h1] at hc
  cases hx : (dataF (bankF y 0)).2
  · rw [hx] at hc
    have hc2 : countsF y = -1 := by rw [hc]; simp
    rw [hc2, if_neg (fun h => by omega), if_neg (by decide)]
  · rw [hx] at hc
    have hc2 : countsF y = 0 := by rw [hc]; simp
    rw [hc2, if_pos ⟨hl, by omega⟩, if_pos rfl]
/-- One byte of a right bank is another: a bank that is wrong, where it is the sum's or the data's. -/
theorem tell_wrong (data Y : List Int) (hd : data.length ≤ 248) (hD : Bytes data) (j : Nat) (h4 : 4 ≤ j) (hj : j < 8 + data.length) (v : Int) (hv : 0 ≤ v ∧ v < 256) (hne : v ≠ rd ((165 :: body 1 data) ++ Y) j) : (dataF (((165 :: body 1 data) ++ Y).set j v)).2 = false := by
  obtain ⟨i, rfl⟩ : ∃ i, j = i + 4 := ⟨j - 4, by omega⟩
  have hB : ((165 :: body 1 data) ++ Y).set (i + 4) v = 165 :: 1 :: ((data.length : Int) / 256 % 256) :: ((data.length : Int) % 256) :: ((fourF (sumF 1 data) ++ data ++ Y).set i v) := rfl
  have hr : rd ((165 :: body 1 data) ++ Y) ((i + 4 : Nat) : Int) = (fourF (sumF 1 data) ++ data ++ Y).getD i 0 := by
    unfold rd
    rw [Int.toNat_natCast]
    rfl
  rw [hr] at hne
  rw [hB]
  obtain ⟨W, hW⟩ : ∃ W, W = (fourF (sumF 1 data) ++ data ++ Y).set i v := ⟨_, rfl⟩
  rw [← hW]
  have e : lenF (165 :: 1 :: ((data.length : Int) / 256 % 256) :: ((data.length : Int) % 256) :: W) = data.length := by
    unfold lenF
    have h2 : rd (165 :: 1 :: ((data.length : Int) / 256 % 256) :: ((data.length : Int) % 256) :: W) 2 = (data.length : Int) / 256 % 256 := rfl
    have h3 : rd (165 :: 1 :: ((data.length : Int) / 256 % 256) :: ((data.length : Int) % 256) :: W) 3 = (data.length : Int) % 256 := rfl
    rw [h2, h3]
    omega
  unfold dataF
  rw [e, if_pos ⟨rfl, by omega⟩, Int.toNat_natCast]
  show decide (fourF (sumF 1 ((W.drop 4).take data.length)) = W.take 4) = false
  rw [decide_eq_false_iff_not]
  have hf : (fourF (sumF 1 data)).length = 4 := rfl
  by_cases hi : i < 4
  · have hd4 : (W.drop 4).take data.length = data := by
      rw [hW, List.append_assoc, List.set_append_left _ _ (by omega), List.drop_append_of_le_length (by simp [hf]), List.drop_eq_nil_of_le (by simp [hf]), List.nil_append, List.take_left' rfl]
    have ht4 : W.take 4 = (fourF (sumF 1 data)).set i v := by
      rw [hW, List.append_assoc, List.set_append_left _ _ (by omega), List.take_left' (by simp [hf])]
    rw [hd4, ht4]
    intro h
    apply hne
    have h5 : ((fourF (sumF 1 data)).set i v)[i]? = some v := by rw [List.getElem?_set_self (by omega)]
    rw [← h] at h5
    rw [List.append_assoc, List.getD_eq_getElem?_getD, List.getElem?_append_left (by omega), h5]
    rfl
  · obtain ⟨q, rfl⟩ : ∃ q, i = q + 4 := ⟨i - 4, by omega⟩
    have hW2 : W = fourF (sumF 1 data) ++ ((data.set q v) ++ Y) := by
      rw [hW, List.append_assoc, List.set_append_right _ _ (by omega), hf, Nat.add_sub_cancel, List.set_append_left _ _ (by omega)]
    have hd4 : (W.drop 4).take data.length = data.set q v := by
      rw [hW2, List.drop_left' hf, List.take_left' (by simp)]
    have ht4 : W.take 4 = fourF (sumF 1 data) := by rw [hW2, List.take_left' hf]
    rw [hd4, ht4]
    intro h
    have hs := four_inj _ _ (sumF_range _ _) (sumF_range _ _) h
    unfold sumF at hs
    rw [List.length_set] at hs
    refine fold_set data hD q (by omega) v hv (fun e => hne ?_) _ (stepF_range _ _) hs
    rw [e, List.append_assoc, List.getD_eq_getElem?_getD, List.getElem?_append_right (by omega), hf, Nat.add_sub_cancel, List.getElem?_append_left (by omega), List.getElem?_eq_getElem (by omega)]
    rfl
end Go.Proofs.Ytlpagilpbdiniaa.Q
