/- Contracts and plain facts for the functions of layer 20: what each answers, wherever its plain function has an answer. -/
import Derived.Test.YtpjlhehmobhijaaHWords
import Derived.Test.YtpjlhehmobhijaaHClone
import Derived.Test.YtpjlhehmobhijaaQBlockFormed
import Derived.Test.YtpjlhehmobhijaaQBlockCheck
namespace Go.Proofs.Ytpjlhehmobhijaa.Q
open Go.RowKit Go.Proofs.YtpjlhehmobhijaaW.PrintWords Go.Proofs.YtpjlhehmobhijaaW.PrintLast Go.Proofs.YtpjlhehmobhijaaW.PrintMore
def diskB (l : List Int) : Bool := decide (l.length % 512 = 0 ∧ l.length ≤ 32768)
theorem block_Formed_eq (l : List Int) (hl : l.length ≤ 140737488351232) : block_Formed.f l = some (diskB l) := by
  unfold block_Formed.f diskB
  have : wrap64 ((l.length : Int) / 512) = (l.length : Int) / 512 := by unfold wrap64; omega
  rw [this]
  split
  · rw [Option.some.injEq, decide_eq_decide]; omega
  · rw [Option.some.injEq, eq_comm, decide_eq_false_iff_not]; omega
theorem block_check_eq (l : List Int) (n : Int) (hl : l.length ≤ 140737488351232) : block_check.f l n = some (if diskB l = true then (if 0 ≤ n ∧ n < l.length / 512 then 0 else 23) else 1) := by
  unfold block_check.f
  rw [block_Formed_eq l hl]
  have : wrap64 ((l.length : Int) / 512) = (l.length : Int) / 512 := by unfold wrap64; omega
  rw [this, Option.bind_some]
  split
  · split
    · rw [if_neg (by omega)]
    · split
      · rw [if_neg (by omega)]
      · rw [if_pos (by omega)]
  · rfl
/-- What block.Write answers. -/
def block_Write.f (l0 : List Int) (a1 : Int) (l2 : List Int) : Option (List Int × Int) :=
  if l0.length ≤ 140737488351232 then
    (if diskB l0 = true ∧ l2.length = 512 then (if 0 ≤ a1 ∧ a1 < l0.length / 512 then some (splice l0 (512 * a1).toNat l2, 0) else some ([], 23)) else some ([], 1))
  else none
set_option maxHeartbeats 1000000 in
theorem block_Write.calls (A0 : Option Addr) (c0 : Nat) (l0 : List Int) (a1 : Int) (A2 : Option Addr) (c2 : Nat) (l2 : List Int) (r1 : List Int) (r2 : Int) (w : World) (hr0 : Kd.C (Kd.int .u8) w A0 l0.length l0) (hc0 : l0.length ≤ c0) (hr2 : Kd.C (Kd.int .u8) w A2 l2.length l2) (hc2 : l2.length ≤ c2) (h : block_Write.f l0 a1 l2 = some (r1, r2)) :
    Calls Try.prog 14 #[.slice A0 l0.length c0, .int .i64 a1, .slice A2 l2.length c2] w fun e w' => ∃ v0_ : Value, e = .returned (.tuple #[v0_, .int .i64 r2]) ∧ Kd.R (Kd.int .u8) 5 w' w.heap.size (fun _ => True) v0_ r1 ∧ Below w.heap.size w w' := by
  have HR0 := Aside0.mk hr0
  have HC0 := Aside0.mk hc0
  have HR2 := Aside0.mk hr2
  have HC2 := Aside0.mk hc2
  clear hr0 hc0 hr2 hc2
  unfold block_Write.f at h
  split at h
  case isFalse => cases h
  rename_i hsz
  have HS := Aside0.mk hsz
  have HF := Aside0.mk (block_Formed_eq l0 hsz)
  have HE := Aside0.mk (block_check_eq l0 a1 hsz)
  clear hsz
  by_cases hd : diskB l0 = true
  · rw [hd] at HF
    by_cases hl : l2.length = 512
    · rw [if_pos ⟨hd, hl⟩] at h
      rw [if_pos hd] at HE
      have hl' : ((l2.length : Int) != 512) = false := by simp [hl]
      have HL := Aside0.mk hl
      have HD := Aside0.mk hd
      clear hl hd
      by_cases hn : 0 ≤ a1 ∧ a1 < l0.length / 512
      · rw [if_pos hn] at h HE
        simp only [Option.some.injEq, Prod.mk.injEq] at h
        obtain ⟨rfl, rfl⟩ := h
        obtain ⟨m, rfl⟩ := Int.eq_ofNat_of_zero_le hn.1
        have hln : l0.length % 512 = 0 ∧ l0.length ≤ 32768 := by simpa [diskB] using HD.out
        have hm : m ≤ 63 := by omega
        have HM := Aside0.mk (show 512 * m + 512 ≤ l0.length by omega)
        have HCl := Aside0.mk (show slices_Clone_byte_byte.f l0 = some l0 by unfold slices_Clone_byte_byte.f; rw [if_pos (by omega)])
        clear hn hln
        go_enter Try.func14, Try.ntmps14
        go_wp2_with (first
          | (go_at_call 17; refine (block_Formed.calls _ _ _ _ _ HR0.out HC0.out HF.out).mono ?_; rintro e w' ⟨rfl, ⟨nd, rfl⟩⟩)
          | (go_at_call 25; refine (block_check.calls _ _ _ _ _ _ (Kd.C_drewN HR0.out _) HC0.out HE.out).mono ?_; rintro e w' ⟨rfl, ⟨nd, rfl⟩⟩)
          | (go_at_call 26; refine (slices_Clone_byte_byte.calls _ _ _ _ _ (Kd.C_drewN HR0.out _) HC0.out HCl.out).mono ?_; rintro e w' ⟨v, rfl, ho, hb⟩; obtain ⟨g, cap, rfl, hg1, hg2, _⟩ := Kd.R_form ho (by have := HM.out; omega); have HO := Aside0.mk ho; have HB := Aside0.mk hb; have HLC := Aside0.mk (Kd.R_reads' ho).2.1; have hcut := run_cut_lo (P := Try.prog) (sz := 1) Try.underlying30 (by kernel_rfl) (some ⟨g, 0, none⟩) l0.length cap ((m : Int) * 512) (by omega) (by have := HM.out; omega); clear ho hb hg1 hg2)
          | ((with_reducible refine gate_builtin (b := .copy) (xs := #[.tmp 28, .tmp 29]) rfl ?_); refine copy_row (Value.int .u8) (fun _ => rfl) (w0 := w) w.heap.size rfl (.tmp 28) (.tmp 29) 30 30 5 rfl Try.underlying30 (by kernel_rfl) g l0.length cap (m * 512) (l0.length - m * 512) (cap - m * 512) l2.length c2 _ _ l0 l2 (fun _ => True) rfl rfl ?aO ?aD ?aF ?aR ?aB ?_; (case aO => exact HO.out); (case aD => intro _; rw [cutAt_own (by have := HM.out; have := HLC.out; omega), Nat.mul_one]); (case aF => have := HM.out; omega); (case aR => exact Kd.C_below (Kd.C_drewN HR2.out _) HB.out); (case aB => exact below_then (pw_below_drewN (Below.refl _ _) _) (by simp) HB.out); intro w1 ho hb hg; have HO1 := Aside0.mk ho; have HB1 := Aside0.mk hb; clear ho hb hg))
        go_ret2
        have hsp : splice l0 (m * 512) (l2.take (l0.length - m * 512)) = splice l0 (512 * (m : Int)).toNat l2 := by
          rw [List.take_of_length_le (by have := HL.out; have := HM.out; omega), show (512 * (m : Int)).toNat = m * 512 by omega]
        have ho := HO1.out
        rw [hsp] at ho
        exact ⟨_, rfl, ho, HB1.out⟩
      · rw [if_neg hn] at h HE
        simp only [Option.some.injEq, Prod.mk.injEq] at h
        obtain ⟨rfl, rfl⟩ := h
        clear hn
        go_enter Try.func14, Try.ntmps14
        go_wp2_with (first
          | (go_at_call 17; refine (block_Formed.calls _ _ _ _ _ HR0.out HC0.out HF.out).mono ?_; rintro e w' ⟨rfl, ⟨nd, rfl⟩⟩)
          | (go_at_call 25; refine (block_check.calls _ _ _ _ _ _ (Kd.C_drewN HR0.out _) HC0.out HE.out).mono ?_; rintro e w' ⟨rfl, ⟨nd, rfl⟩⟩))
        go_ret2
        exact ⟨_, rfl, Kd.R_nil _ _ _ _ _, pw_below_drewN (Below.refl _ _) _⟩
    · rw [if_neg (fun x => hl x.2)] at h
      simp only [Option.some.injEq, Prod.mk.injEq] at h
      obtain ⟨rfl, rfl⟩ := h
      have hl' : ((l2.length : Int) != 512) = true := by simp; omega
      clear hl
      go_enter Try.func14, Try.ntmps14
      go_wp2_with (first
        | (go_at_call 17; refine (block_Formed.calls _ _ _ _ _ HR0.out HC0.out HF.out).mono ?_; rintro e w' ⟨rfl, ⟨nd, rfl⟩⟩))
      go_ret2
      exact ⟨_, rfl, Kd.R_nil _ _ _ _ _, pw_below_drewN (Below.refl _ _) _⟩
  · rw [if_neg (fun x => hd x.1)] at h
    simp only [Option.some.injEq, Prod.mk.injEq] at h
    obtain ⟨rfl, rfl⟩ := h
    rw [Bool.eq_false_iff.mpr hd] at HF
    clear hd
    go_enter Try.func14, Try.ntmps14
    go_wp2_with (first
      | (go_at_call 17; refine (block_Formed.calls _ _ _ _ _ HR0.out HC0.out HF.out).mono ?_; rintro e w' ⟨rfl, ⟨nd, rfl⟩⟩))
    go_ret2
    exact ⟨_, rfl, Kd.R_nil _ _ _ _ _, pw_below_drewN (Below.refl _ _) _⟩
end Go.Proofs.Ytpjlhehmobhijaa.Q
