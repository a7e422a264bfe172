/- Plain facts on block.Get: what it answers is a stretch of the disk, or refused. -/
import Derived.Test.YtpjlhehmobhijaaHBlockPut
import Derived.Test.YtpjlhehmobhijaaQBlockGet
namespace Go.Proofs.Ytpjlhehmobhijaa.Q
open Go.RowKit Go.Proofs.YtpjlhehmobhijaaW.PrintWords Go.Proofs.YtpjlhehmobhijaaW.PrintLast Go.Proofs.YtpjlhehmobhijaaW.PrintMore
theorem take_split (l : List Int) (a n m : Nat) : (l.drop a).take (n + m) = (l.drop a).take n ++ (l.drop (a + n)).take m := by
  rw [List.take_add, List.drop_drop]
theorem get_go (l : List Int) (hd : diskB l = true) (ps : List S49) (hps : ps.length ≤ 1000000000) (d : Nat) : ∀ (k : Nat) (acc : List Int) (i at_ n : Int), 0 ≤ i → i + d = ps.length → d < k → acc.length + n ≤ 1000000000 → 0 ≤ at_ → at_ + n ≤ l.length → Chain at_ n (ps.drop i.toNat) →
    block_Get.l0 k l acc ps (ps.length : Int) i = some (acc ++ (l.drop at_.toNat).take n.toNat, 0) := by
  have hln : l.length % 512 = 0 ∧ l.length ≤ 32768 := by simpa [diskB] using hd
  induction d with
  | zero =>
    intro k acc i at_ n h0 h1 hk ha hat hn hc
    obtain ⟨k, rfl⟩ : ∃ m, k = m + 1 := ⟨k - 1, by omega⟩
    rw [List.drop_eq_nil_of_le (by omega)] at hc
    have := hc.nil_inv
    subst this
    simp only [block_Get.l0]
    rw [if_neg (by omega)]
    simp
  | succ d ih =>
    intro k acc i at_ n h0 h1 hk ha hat hn hc
    obtain ⟨k, rfl⟩ : ∃ m, k = m + 1 := ⟨k - 1, by omega⟩
    have hil : i.toNat < ps.length := by omega
    have hrd : rd_T49 ps i = ps[i.toNat] := by simp [rd_T49, List.getD_eq_getElem?_getD, List.getElem?_eq_getElem hil]
    rw [List.drop_eq_getElem_cons hil] at hc
    obtain ⟨⟨q1, q2, q3, q4, q5, q6⟩, q7, q8⟩ := hc.cons_inv
    have e1 : wrap64 (i + 1) = i + 1 := by unfold wrap64; omega
    have e2 : (i + 1).toNat = i.toNat + 1 := by omega
    have e3 : wrap64 (ps[i.toNat].f1 + ps[i.toNat].f2) = ps[i.toNat].f1 + ps[i.toNat].f2 := by unfold wrap64; omega
    have hsl : ((l.drop (ps[i.toNat].f0 * 512).toNat).take 512).length = 512 := by rw [List.length_take, List.length_drop]; omega
    simp only [block_Get.l0]
    rw [if_pos (by omega), if_pos h0, if_pos (by omega), hrd, e1, e3, block_Read_eq l _ (by omega), if_pos hd, if_pos (by omega), Option.bind_some]
    dsimp only
    rw [if_pos rfl, if_pos q3, if_pos (by omega), if_pos (by rw [hsl]; omega), Option.bind_some]
    have hy : (((l.drop (ps[i.toNat].f0 * 512).toNat).take 512).take (ps[i.toNat].f1 + ps[i.toNat].f2).toNat).drop ps[i.toNat].f1.toNat = (l.drop at_.toNat).take ps[i.toNat].f2.toNat := by
      rw [List.take_take, List.drop_take, List.drop_drop]
      congr 1
      · omega
      · congr 1
        omega
    have hyl : ((l.drop at_.toNat).take ps[i.toNat].f2.toNat).length = ps[i.toNat].f2.toNat := by rw [List.length_take, List.length_drop]; omega
    rw [hy, if_pos (by rw [hyl]; omega), ih k _ (i + 1) (at_ + ps[i.toNat].f2) (n - ps[i.toNat].f2) (by omega) (by omega) (by omega) (by rw [List.length_append, hyl]; omega) (by omega) (by omega) (by rw [e2]; exact q8)]
    rw [List.append_assoc, show n.toNat = ps[i.toNat].f2.toNat + (n - ps[i.toNat].f2).toNat by omega, take_split, show at_.toNat + ps[i.toNat].f2.toNat = (at_ + ps[i.toNat].f2).toNat by omega]
theorem block_Get_eq (l : List Int) (a n : Int) (k : Nat) (hl : l.length ≤ 140737488351232) (hk : 40000 ≤ k) : block_Get.f k l a n = some (if diskB l = true then (if 0 ≤ a ∧ 0 ≤ n ∧ a ≤ l.length ∧ n ≤ l.length - a then ((l.drop a.toNat).take n.toNat, 0) else ([], 23)) else ([], 1)) := by
  unfold block_Get.f
  rw [block_stretch_eq l a n hl, Option.bind_some]
  by_cases hd : diskB l = true
  · have hln : l.length % 512 = 0 ∧ l.length ≤ 32768 := by simpa [diskB] using hd
    rw [if_pos hd, if_pos hd]
    by_cases hn : 0 ≤ a ∧ 0 ≤ n ∧ a ≤ l.length ∧ n ≤ l.length - a
    · obtain ⟨ps, hp, hc, hpl⟩ := pieces_chain k a n (by omega) (by omega) (by omega) (by omega)
      rw [if_pos hn, if_pos hn, if_pos rfl, if_pos hn.2.1, if_pos (by omega), hp, Option.bind_some, get_go l hd ps (by omega) ps.length k [] 0 a n (by omega) (by omega) (by omega) (by simp; omega) (by omega) (by omega) hc, List.nil_append]
    · rw [if_neg hn, if_neg hn, if_neg (by decide)]
  · rw [if_neg hd, if_neg hd, if_neg (by decide)]
end Go.Proofs.Ytpjlhehmobhijaa.Q
