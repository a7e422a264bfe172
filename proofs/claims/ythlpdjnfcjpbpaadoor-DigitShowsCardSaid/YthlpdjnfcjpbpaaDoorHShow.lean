/- Numbers as texts: digit.Show and digit.Signed. -/
import Derived.Test.YthlpdjnfcjpbpaaDoorHFmt
namespace Go.Proofs.YthlpdjnfcjpbpaaDoor.Q
open Go.RowKit Go.Proofs.YthlpdjnfcjpbpaaDoorW.PrintWords Go.Proofs.YthlpdjnfcjpbpaaDoorW.PrintLast Go.Proofs.YthlpdjnfcjpbpaaDoorW.PrintMore
theorem nopow_all : ((List.range 37).all fun (b : Nat) => (b == 0 || b == 1 || b == 2 || b == 4 || b == 8 || b == 16 || b == 32) || (strconv_isPowerOfTwo.f (b : Int) == some false)) = true := by kernel_rfl
theorem nopow (b : Int) (h : 2 ≤ b ∧ b ≤ 36) (h2 : b ≠ 2 ∧ b ≠ 4 ∧ b ≠ 8 ∧ b ≠ 16 ∧ b ≠ 32) : strconv_isPowerOfTwo.f b = some false := by
  have h3 := List.all_eq_true.1 nopow_all b.toNat (List.mem_range.2 (by omega))
  rw [show ((b.toNat : Nat) : Int) = b by omega] at h3
  simp only [Bool.or_eq_true, beq_iff_eq] at h3
  rcases h3 with h3 | h3
  · exfalso; omega
  · exact h3
theorem bits_calls (b u : Int) (hb : 2 ≤ b ∧ b ≤ 36 ∧ b ≠ 10) (hu : 0 ≤ u ∧ u < 4294967296) (w : World) (ht : Tabs w) :
    Calls Tryd.prog 42 #[.slice none 0 0, .int .u64 u, .int .i64 b, .bool false, .bool false] w fun e w' => e = .returned (.tuple #[.slice none 0 0, .string (showB b u)]) ∧ Below w.heap.size w w' := by
  rw [← str_showI]
  by_cases h2 : b = 2
  · subst h2; exact formatBits_p2 u hu w ht
  by_cases h4 : b = 4
  · subst h4; exact formatBits_p4 u hu w ht
  by_cases h8 : b = 8
  · subst h8; exact formatBits_p8 u hu w ht
  by_cases h16 : b = 16
  · subst h16; exact formatBits_p16 u hu w ht
  by_cases h32 : b = 32
  · subst h32; exact formatBits_p32 u hu w ht
  exact formatBits_plain b u hb (nopow b ⟨hb.1, hb.2.1⟩ ⟨h2, h4, h8, h16, h32⟩) hu w
theorem bits_neg_calls (b u : Int) (hb : 2 ≤ b ∧ b ≤ 36 ∧ b ≠ 10) (hu : 0 ≤ u ∧ u < 4294967296) (U : Int) (hU : IntKind.u64.wrap (-U) = u) (w : World) (ht : Tabs w) :
    Calls Tryd.prog 42 #[.slice none 0 0, .int .u64 U, .int .i64 b, .bool true, .bool false] w fun e w' => e = .returned (.tuple #[.slice none 0 0, .string (⟨#[45]⟩ ++ showB b u)]) ∧ Below w.heap.size w w' := by
  rw [← str_neg]
  by_cases h2 : b = 2
  · subst h2; exact formatBits_p2_neg u hu U hU w ht
  by_cases h4 : b = 4
  · subst h4; exact formatBits_p4_neg u hu U hU w ht
  by_cases h8 : b = 8
  · subst h8; exact formatBits_p8_neg u hu U hU w ht
  by_cases h16 : b = 16
  · subst h16; exact formatBits_p16_neg u hu U hU w ht
  by_cases h32 : b = 32
  · subst h32; exact formatBits_p32_neg u hu U hU w ht
  exact formatBits_plain_neg b u hb (nopow b ⟨hb.1, hb.2.1⟩ ⟨h2, h4, h8, h16, h32⟩) hu U hU w
set_option maxHeartbeats 1000000 in
set_option maxRecDepth 100000 in
theorem formatUint_calls (b u : Int) (hb : 2 ≤ b ∧ b ≤ 36) (hu : 0 ≤ u ∧ u < 4294967296) (w : World) (ht : Tabs w) :
    Calls Tryd.prog 30 #[.int .u64 u, .int .i64 b] w fun e w' => e = .returned (.string (showB b u)) ∧ Below w.heap.size w w' := by
  by_cases h10 : b = 10
  · subst h10
    obtain ⟨n, rfl⟩ := Int.eq_ofNat_of_zero_le hu.1
    exact formatUint_ten n (by omega) w ht
  · have HC := Aside0.mk (bits_calls b u ⟨hb.1, hb.2, h10⟩ hu w ht)
    have d1 : (b == 10) = false := beq_eq_false_iff_ne.2 h10
    clear ht hb hu h10
    go_enter Tryd.func30, Tryd.ntmps30
    go_wp2_with (first
      | (go_at_call 42; (with_reducible refine HC.out.mono ?_); rintro e w1 ⟨rfl, hb⟩; have HB := Aside0.mk hb; clear hb))
    go_ret
    exact ⟨rfl, HB.out⟩
def signB (b i : Int) : ByteArray := if i < 0 then ⟨#[45]⟩ ++ showB b (-i) else showB b i
theorem itoa_sign (i : Int) : (⟨(Go.Lib.itoa i).toArray⟩ : ByteArray) = signB 10 i := by
  unfold Go.Lib.itoa signB
  by_cases h : i < 0
  · rw [if_pos h, if_pos h, ← str_neg]
    have h3 : showB 10 (-i) = ⟨(Go.Lib.decDigits i.natAbs).toArray⟩ := by
      rw [dec_show]
      congr 1
      omega
    rw [str_neg, h3, show (⟨#[45]⟩ : ByteArray) = ⟨([45] : List UInt8).toArray⟩ from rfl, ByteArray.mk_append_mk]
    rfl
  · rw [if_neg h, if_neg h, dec_show]
    congr 1
    omega
set_option maxHeartbeats 1000000 in
set_option maxRecDepth 100000 in
theorem formatInt_calls (b i : Int) (hb : 2 ≤ b ∧ b ≤ 36) (hi : -2147483648 ≤ i ∧ i < 2147483648) (w : World) (ht : Tabs w) :
    Calls Tryd.prog 26 #[.int .i64 i, .int .i64 b] w fun e w' => e = .returned (.string (signB b i)) ∧ Below w.heap.size w w' := by
  by_cases h10 : b = 10
  · subst h10
    refine (Tryd.strconv_FormatInt_10 i (by omega) (by omega) w ht.strconv_uint64pow10).mono ?_
    rintro e w' ⟨rfl, k, os, rfl⟩
    rw [itoa_sign]
    exact ⟨rfl, below_grow (pw_below_drewN (Below.refl _ _) k) os⟩
  · have hin : Calls Tryd.prog 31 #[.int .i64 i, .int .i64 b] w fun e w' => e = .returned (.string (signB b i)) ∧ Below w.heap.size w w' := by
      have d1 : (b == 10) = false := beq_eq_false_iff_ne.2 h10
      by_cases hn : i < 0
      · have hU : IntKind.u64.wrap (-(IntKind.u64.wrap i)) = -i := by rw [IntKind.wrap_u64, IntKind.wrap_u64]; omega
        obtain ⟨U, hUe⟩ : ∃ U, U = IntKind.u64.wrap i := ⟨_, rfl⟩
        rw [← hUe] at hU
        have HC := Aside0.mk (bits_neg_calls b (-i) ⟨hb.1, hb.2, h10⟩ (by omega) U hU w ht)
        have e1 : IntKind.u64.wrap i = U := hUe.symm
        have d2 : decide (i < 0) = true := decide_eq_true hn
        have hs : signB b i = ⟨#[45]⟩ ++ showB b (-i) := if_pos hn
        rw [hs]
        clear ht hb hi h10 hn hs hU hUe
        go_enter Tryd.func31, Tryd.ntmps31
        go_wp2_with (first
          | (go_at_call 42; (with_reducible refine HC.out.mono ?_); rintro e w1 ⟨rfl, hb⟩; have HB := Aside0.mk hb; clear hb))
        go_ret
        exact ⟨rfl, HB.out⟩
      · have HC := Aside0.mk (bits_calls b i ⟨hb.1, hb.2, h10⟩ (by omega) w ht)
        have e1 : IntKind.u64.wrap i = i := wrap_u64_id i (by omega) (by omega)
        have d2 : decide (i < 0) = false := decide_eq_false hn
        have hs : signB b i = showB b i := if_neg hn
        rw [hs]
        clear ht hb hi h10 hn hs
        go_enter Tryd.func31, Tryd.ntmps31
        go_wp2_with (first
          | (go_at_call 42; (with_reducible refine HC.out.mono ?_); rintro e w1 ⟨rfl, hb⟩; have HB := Aside0.mk hb; clear hb))
        go_ret
        exact ⟨rfl, HB.out⟩
    have HC := Aside0.mk hin
    clear hin ht hb hi h10
    go_enter Tryd.func26, Tryd.ntmps26
    go_wp2_with (first
      | (go_at_call 31; (with_reducible refine HC.out.mono ?_); rintro e w1 ⟨rfl, hb⟩; have HB := Aside0.mk hb; clear hb))
    go_ret
    exact ⟨rfl, HB.out⟩
def digit_Show.f (n b : Int) : Option (ByteArray × Int) := if 0 ≤ n ∧ n < 4294967296 then (if 2 ≤ b ∧ b ≤ 36 then some (showB b n, 0) else some (⟨#[]⟩, 1)) else none
set_option maxHeartbeats 1000000 in
set_option maxRecDepth 100000 in
theorem digit_Show.calls (a0 : Int) (a1 : Int) (r1 : ByteArray) (r2 : Int) (w : World) (ht : Tabs w) (h : digit_Show.f a0 a1 = some (r1, r2)) :
    Calls Tryd.prog 14 #[.int .u32 a0, .int .u32 a1] w fun e w' => e = .returned (.tuple #[.string r1, .int .i64 r2]) ∧ Below w.heap.size w w' := by
  unfold digit_Show.f at h
  split at h
  case isFalse => cases h
  rename_i hn
  by_cases hb : 2 ≤ a1 ∧ a1 ≤ 36
  · rw [if_pos hb] at h
    obtain ⟨rfl, rfl⟩ := Prod.mk.inj (Option.some.inj h)
    have HU := Aside0.mk (show ∀ W : World, Tabs W → Calls Tryd.prog 25 #[.int .u64 a0, .int .i64 a1] W (fun e w' => e = .returned (.string (showB a1 a0)) ∧ Below W.heap.size W w') from fun W hT => by
      have HC := Aside0.mk (formatUint_calls a1 a0 hb hn W hT)
      clear ht hb h hn hT
      go_enter Tryd.func25, Tryd.ntmps25
      go_wp2_with (first
        | (go_at_call 30; (with_reducible refine HC.out.mono ?_); rintro e w1 ⟨rfl, hb⟩; have HB := Aside0.mk hb; clear hb))
      go_ret
      exact ⟨rfl, HB.out⟩)
    have HF := Aside0.mk (show digit_fit.f a1 = some true by rw [fit_eq, decide_eq_true hb])
    have HT := Aside0.mk ht
    have e1 : IntKind.u64.wrap a0 = a0 := wrap_u64_id a0 hn.1 (by omega)
    have e2 : wrap64 a1 = a1 := by unfold wrap64; omega
    clear h hb hn ht
    go_enter Tryd.func14, Tryd.ntmps14
    go_wp2_with (first
      | (go_at_call 22; (with_reducible refine (digit_fit.calls _ _ _ HF.out).mono ?_); rintro e w1 ⟨rfl, hd⟩; have HB1 := Aside0.mk hd.below; have HT1 := Aside0.mk (HT.out.below hd.below); clear hd)
      | (go_at_call 25; (with_reducible refine (HU.out _ HT1.out).mono ?_); rintro e w2 ⟨rfl, hb⟩; have HB2 := Aside0.mk (below_step HB1.out hb); clear hb))
    go_ret2
    exact ⟨rfl, HB2.out⟩
  · rw [if_neg hb] at h
    obtain ⟨rfl, rfl⟩ := Prod.mk.inj (Option.some.inj h)
    have HF := Aside0.mk (show digit_fit.f a1 = some false by rw [fit_eq, decide_eq_false hb])
    clear h hb hn ht
    go_enter Tryd.func14, Tryd.ntmps14
    go_wp2_with (first
      | (go_at_call 22; (with_reducible refine (digit_fit.calls _ _ _ HF.out).mono ?_); rintro e w1 ⟨rfl, hd⟩; have HB1 := Aside0.mk hd.below; clear hd))
    go_ret2
    exact ⟨rfl, HB1.out⟩
def signI (n : Int) : Int := if n < 2147483648 then n else n - 4294967296
def digit_Signed.f (n b : Int) : Option (ByteArray × Int) := if 0 ≤ n ∧ n < 4294967296 then (if 2 ≤ b ∧ b ≤ 36 then some (signB b (signI n), 0) else some (⟨#[]⟩, 1)) else none
theorem sign_conv (n : Int) (h : 0 ≤ n ∧ n < 4294967296) : wrap64 (wrap32 n) = signI n ∧ (-2147483648 ≤ signI n ∧ signI n < 2147483648) := by
  unfold signI wrap64 wrap32
  split <;> omega
set_option maxHeartbeats 1000000 in
set_option maxRecDepth 100000 in
theorem digit_Signed.calls (a0 : Int) (a1 : Int) (r1 : ByteArray) (r2 : Int) (w : World) (ht : Tabs w) (h : digit_Signed.f a0 a1 = some (r1, r2)) :
    Calls Tryd.prog 16 #[.int .u32 a0, .int .u32 a1] w fun e w' => e = .returned (.tuple #[.string r1, .int .i64 r2]) ∧ Below w.heap.size w w' := by
  unfold digit_Signed.f at h
  split at h
  case isFalse => cases h
  rename_i hn
  by_cases hb : 2 ≤ a1 ∧ a1 ≤ 36
  · rw [if_pos hb] at h
    obtain ⟨rfl, rfl⟩ := Prod.mk.inj (Option.some.inj h)
    obtain ⟨e1, hs⟩ := sign_conv a0 hn
    obtain ⟨i, hi⟩ : ∃ i, i = signI a0 := ⟨_, rfl⟩
    rw [← hi] at e1 hs ⊢
    have HU := Aside0.mk (show ∀ W : World, Tabs W → Calls Tryd.prog 26 #[.int .i64 i, .int .i64 a1] W (fun e w' => e = .returned (.string (signB a1 i)) ∧ Below W.heap.size W w') from fun W hT => formatInt_calls a1 i hb hs W hT)
    have HF := Aside0.mk (show digit_fit.f a1 = some true by rw [fit_eq, decide_eq_true hb])
    have HT := Aside0.mk ht
    have e2 : wrap64 a1 = a1 := by unfold wrap64; omega
    clear h hb hn ht hs hi
    go_enter Tryd.func16, Tryd.ntmps16
    go_wp2_with (first
      | (go_at_call 22; (with_reducible refine (digit_fit.calls _ _ _ HF.out).mono ?_); rintro e w1 ⟨rfl, hd⟩; have HB1 := Aside0.mk hd.below; have HT1 := Aside0.mk (HT.out.below hd.below); clear hd)
      | (go_at_call 26; (with_reducible refine (HU.out _ HT1.out).mono ?_); rintro e w2 ⟨rfl, hb⟩; have HB2 := Aside0.mk (below_step HB1.out hb); clear hb))
    go_ret2
    exact ⟨rfl, HB2.out⟩
  · rw [if_neg hb] at h
    obtain ⟨rfl, rfl⟩ := Prod.mk.inj (Option.some.inj h)
    have HF := Aside0.mk (show digit_fit.f a1 = some false by rw [fit_eq, decide_eq_false hb])
    clear h hb hn ht
    go_enter Tryd.func16, Tryd.ntmps16
    go_wp2_with (first
      | (go_at_call 22; (with_reducible refine (digit_fit.calls _ _ _ HF.out).mono ?_); rintro e w1 ⟨rfl, hd⟩; have HB1 := Aside0.mk hd.below; clear hd))
    go_ret2
    exact ⟨rfl, HB1.out⟩
end Go.Proofs.YthlpdjnfcjpbpaaDoor.Q
