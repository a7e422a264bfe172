/- Contracts and plain facts for the functions of layer 20: what each answers, wherever its plain function has an answer. -/
import Derived.Test.YtpjlhehmobhijaaHBlockPut
import Derived.Test.YtpjlhehmobhijaaQTinderref20Read
import Derived.Test.YtpjlhehmobhijaaQTinderref20Write
import Derived.Test.YtpjlhehmobhijaaQTinderref20In
import Derived.Test.YtpjlhehmobhijaaQTinderref20Get
import Derived.Test.YtpjlhehmobhijaaQTinderref20Put
import Derived.Test.YtpjlhehmobhijaaQTinderref04Same
namespace Go.Proofs.Ytpjlhehmobhijaa.Q
open Go.RowKit Go.Proofs.YtpjlhehmobhijaaW.PrintWords Go.Proofs.YtpjlhehmobhijaaW.PrintLast Go.Proofs.YtpjlhehmobhijaaW.PrintMore
theorem wrap_id {x : Int} (h1 : -9223372036854775808 ≤ x) (h2 : x ≤ 9223372036854775807) : wrap64 x = x := by unfold wrap64; omega
theorem ref04_Same_self (l : List Int) : tinderref04_Same.f l l = some true := by unfold tinderref04_Same.f; simp
theorem ref04_Copy_eq (l : List Int) (h : l.length ≤ 140737488351232) : tinderref04_Copy.f l = some l := by
  unfold tinderref04_Copy.f
  rw [if_pos (by simp; omega), List.nil_append]
theorem ref20_Formed_eq (l : List Int) : tinderref20_Formed.f l = some (diskB l) := by
  unfold tinderref20_Formed.f diskB
  split
  · rw [Option.some.injEq, decide_eq_decide]; omega
  · rw [Option.some.injEq, eq_comm, decide_eq_false_iff_not]; omega
theorem ref20_Read_eq (l : List Int) (n : Int) (hl : l.length ≤ 140737488351232) : tinderref20_Read.f l n = some (if diskB l = true then (if 0 ≤ n ∧ n < l.length / 512 then ((l.drop (n * 512).toNat).take 512, 0) else ([], 23)) else ([], 1)) := by
  unfold tinderref20_Read.f
  rw [ref20_Formed_eq, Option.bind_some]
  by_cases hd : diskB l = true
  · have hln : l.length % 512 = 0 ∧ l.length ≤ 32768 := by simpa [diskB] using hd
    have e0 : wrap64 ((l.length : Int) / 512) = (l.length : Int) / 512 := wrap_id (by omega) (by omega)
    rw [if_pos hd, if_pos hd, e0]
    by_cases hn : 0 ≤ n ∧ n < l.length / 512
    · have e : wrap64 (512 * n) = 512 * n := wrap_id (by omega) (by omega)
      have e2 : wrap64 (512 * n + 512) = 512 * n + 512 := wrap_id (by omega) (by omega)
      rw [if_neg (by omega), if_neg (by omega), e, e2, if_pos (by omega), if_pos (by omega), if_pos (by omega), if_pos hn, ref04_Copy_eq _ (by simp; omega), Option.bind_some, List.drop_take]
      congr 3
      · omega
      · congr 1
        omega
    · rw [if_neg hn]
      split
      · rfl
      · rw [if_pos (by omega)]
  · rw [if_neg hd, if_neg hd]
theorem ref20_In_eq (l : List Int) (a n : Int) (hl : l.length ≤ 140737488351232) : tinderref20_In.f l a n = some (decide (0 ≤ a ∧ 0 ≤ n ∧ a ≤ l.length ∧ n ≤ l.length - a)) := by
  unfold tinderref20_In.f
  split
  · split
    · have e : wrap64 ((l.length : Int) - a) = (l.length : Int) - a := wrap_id (by omega) (by omega)
      rw [e]
      split
      · rw [Option.some.injEq, decide_eq_decide]; omega
      · rw [Option.some.injEq, eq_comm, decide_eq_false_iff_not]; omega
    · rw [Option.some.injEq, eq_comm, decide_eq_false_iff_not]; omega
  · rw [Option.some.injEq, eq_comm, decide_eq_false_iff_not]; omega
theorem ref20_Get_eq (l : List Int) (a n : Int) (hl : l.length ≤ 140737488351232) : tinderref20_Get.f l a n = some (if diskB l = true then (if 0 ≤ a ∧ 0 ≤ n ∧ a ≤ l.length ∧ n ≤ l.length - a then ((l.drop a.toNat).take n.toNat, 0) else ([], 23)) else ([], 1)) := by
  unfold tinderref20_Get.f
  rw [ref20_Formed_eq, Option.bind_some, ref20_In_eq l a n hl, Option.bind_some]
  by_cases hd : diskB l = true
  · rw [if_pos hd, if_pos hd]
    by_cases hn : 0 ≤ a ∧ 0 ≤ n ∧ a ≤ l.length ∧ n ≤ l.length - a
    · have e : wrap64 (a + n) = a + n := wrap_id (by omega) (by omega)
      rw [if_pos hn, if_pos (decide_eq_true hn), e, if_pos hn.1, if_pos (by omega), if_pos (by omega), ref04_Copy_eq _ (by simp; omega), Option.bind_some, List.drop_take]
      congr 3
      omega
    · rw [if_neg hn, if_neg (by simpa using hn)]
  · rw [if_neg hd, if_neg hd]
theorem ref20_Put_eq (l : List Int) (a : Int) (b : List Int) (hl : l.length ≤ 140737488351232) (hb : b.length ≤ 140737488351232) : tinderref20_Put.f l a b = block_Put.f l a b := by
  unfold tinderref20_Put.f block_Put.f
  rw [ref20_Formed_eq, Option.bind_some, ref20_In_eq l a _ hl, Option.bind_some, if_pos hl]
  by_cases hd : diskB l = true
  · have hln : l.length % 512 = 0 ∧ l.length ≤ 32768 := by simpa [diskB] using hd
    rw [if_pos hd, if_pos hd]
    by_cases hn : 0 ≤ a ∧ a ≤ l.length ∧ b.length ≤ l.length - a
    · have e : wrap64 (a + (b.length : Int)) = a + (b.length : Int) := wrap_id (by omega) (by omega)
      have hl1 : (l.take a.toNat).length = a.toNat := by rw [List.length_take]; omega
      rw [if_pos hn, if_pos (decide_eq_true ⟨hn.1, by omega, hn.2.1, hn.2.2⟩), if_pos hn.1, if_pos hn.2.1, ref04_Copy_eq _ (by omega), Option.bind_some, if_pos (by omega), Option.bind_some, e, if_pos (by omega), if_pos (by omega), if_pos (by rw [List.length_append, List.length_drop]; omega)]
      rw [splice, List.append_assoc]
      congr 5
      omega
    · rw [if_neg hn, if_neg (by simp; omega)]
  · rw [if_neg hd, if_neg hd]
theorem ref20_Write_eq (k : Nat) (l : List Int) (n : Int) (b : List Int) (hl : l.length ≤ 140737488351232) : tinderref20_Write.f (k + 1) l n b = block_Write.f l n b := by
  unfold tinderref20_Write.f block_Write.f
  rw [ref20_Formed_eq, Option.bind_some, if_pos hl]
  simp only [tinderref20_Write.j0]
  by_cases hd : diskB l = true
  · have hln : l.length % 512 = 0 ∧ l.length ≤ 32768 := by simpa [diskB] using hd
    rw [if_pos hd]
    by_cases hb : b.length = 512
    · have e0 : wrap64 ((l.length : Int) / 512) = (l.length : Int) / 512 := wrap_id (by omega) (by omega)
      rw [if_neg (by simp; omega), if_pos (show diskB l = true ∧ b.length = 512 from ⟨hd, hb⟩), e0]
      by_cases hn : 0 ≤ n ∧ n < l.length / 512
      · have e : wrap64 (512 * n) = 512 * n := wrap_id (by omega) (by omega)
        have e2 : wrap64 (512 * n + 512) = 512 * n + 512 := wrap_id (by omega) (by omega)
        have hl1 : (l.take (512 * n).toNat).length = (512 * n).toNat := by rw [List.length_take]; omega
        rw [if_pos hn, if_neg (by omega), if_neg (by omega), e, e2, if_pos (by omega), if_pos (by omega), ref04_Copy_eq _ (by omega), Option.bind_some, if_pos (by omega), Option.bind_some, if_pos (by omega), if_pos (by omega), if_pos (by rw [List.length_append, List.length_drop]; omega)]
        rw [splice, List.append_assoc]
        congr 5
        omega
      · rw [if_neg hn]
        split
        · rfl
        · rw [if_pos (by omega)]
    · rw [if_pos (by simp; omega), if_neg (fun h => hb h.2)]
  · rw [if_neg hd, if_pos trivial, if_neg (fun h => hd h.1)]
end Go.Proofs.Ytpjlhehmobhijaa.Q
