/- The walks of the laws DigitShows and DigitBack. -/
import Derived.Test.YthlpdjnfcjpbpaaDoorQTinderlaw02DigitShows
import Derived.Test.YthlpdjnfcjpbpaaDoorQTinderlaw02DigitBack
namespace Go.Proofs.YthlpdjnfcjpbpaaDoor.Q
open Go.RowKit Go.Proofs.YthlpdjnfcjpbpaaDoorW.PrintWords Go.Proofs.YthlpdjnfcjpbpaaDoorW.PrintLast Go.Proofs.YthlpdjnfcjpbpaaDoorW.PrintMore
theorem u32w {x : Int} (h : (Lit.int .u32 x).wf = true) : 0 ≤ x ∧ x < 4294967296 := by
  simp [Lit.wf, IntKind.min, IntKind.max, IntKind.bits, IntKind.signed] at h
  omega
theorem showB_size (b u : Int) : (showB b u).size = (showL b.toNat u.toNat).length := by
  show (showL b.toNat u.toNat).toArray.size = _
  rw [List.size_toArray]
theorem showB_small (b u : Int) (hb : 2 ≤ b) (hu : 0 ≤ u ∧ u < 4294967296) : 1 ≤ (showB b u).size ∧ (showB b u).size ≤ 32 := by
  rw [showB_size]
  exact ⟨showL_pos _ _, showL_len b.toNat (by omega) 31 u.toNat (by omega)⟩
theorem refSigned_eq (n b : Int) (hn : 0 ≤ n ∧ n < 4294967296) : tinderref02_Signed.f n b = digit_Signed.f n b := by
  unfold tinderref02_Signed.f digit_Signed.f tinderref02_Show.f
  rw [if_pos hn]
  by_cases h1 : n < 2147483648
  · have hs : signI n = n := if_pos h1
    rw [if_pos h1, if_pos hn, hs]
    have hsg : signB b n = showB b n := if_neg (by omega)
    rw [hsg]
    split <;> rfl
  · have hs : signI n = n - 4294967296 := if_neg h1
    have hm : (2147483648 - (n - 2147483648) % 4294967296) % 4294967296 = 4294967296 - n := by omega
    rw [if_neg h1, hm, if_pos (by omega), hs]
    by_cases hb : 2 ≤ b ∧ b ≤ 36
    · have hsg : signB b (n - 4294967296) = ⟨#[45]⟩ ++ showB b (4294967296 - n) := by
        unfold signB
        rw [if_pos (by omega), show -(n - 4294967296) = 4294967296 - n by omega]
      have hsz := showB_small b (4294967296 - n) hb.1 (by omega)
      rw [if_pos hb, Option.bind_some, if_pos rfl, if_pos (by dsimp only; omega), if_pos hb, hsg, if_pos hn]
    · rw [if_neg hb, Option.bind_some, if_neg (by decide), if_neg hb, if_pos hn]
theorem digitShows_row {w : World} (ht : Tabs w) (n : Int) (hn : (Lit.int .u32 n).wf = true) (b : Int) (_hb : (Lit.int .u32 b).wf = true) :
    Calls Tryd.prog 5 #[.int .u32 n, .int .u32 b] w fun e w' => e = .returned (.bool true) ∧ Below w.heap.size w w' := by
  have hn := u32w hn
  refine tinderlaw02_DigitShows.calls n b true w ht ?_
  unfold tinderlaw02_DigitShows.f tinderlaw02_alive.f
  rw [Option.bind_some, if_pos rfl, refSigned_eq n b hn]
  have e1 : digit_Show.f n b = tinderref02_Show.f n b := rfl
  rw [e1]
  unfold tinderref02_Show.f digit_Signed.f
  rw [if_pos hn, if_pos hn]
  split <;> simp
theorem bytes_show (b u : Int) : bytesOf (showB b u) = showI b u := rfl
theorem num_ch (r : Int) (h : 0 ≤ r ∧ r < 36) : numF (chI r) = r := by
  unfold numF chI
  split <;> split <;> (try split) <;> (try split) <;> omega
theorem val_ch (r b : Int) (h : 0 ≤ r ∧ r < b) (hb : 2 ≤ b ∧ b ≤ 36) : valF (chI r) b = (r, true) := by
  unfold valF
  rw [num_ch r (by omega), if_pos (by omega)]
theorem parL_snoc (b c : Int) (l : List Int) : ∀ n g, parL b (l ++ [c]) n g = (parL b l n g).bind fun p => parL b [c] p.1 p.2 := by
  induction l with
  | nil => intro n g; rfl
  | cons x l ih =>
    intro n g
    rw [List.cons_append, parL_cons, parL_cons]
    by_cases h1 : (valF x b).2 = true
    · rw [if_pos h1, if_pos h1]
      cases g
      · rw [if_neg Bool.false_ne_true, if_neg Bool.false_ne_true]; exact ih _ _
      · rw [if_pos rfl, if_pos rfl]; exact ih _ _
    · rw [if_neg h1, if_neg h1]; rfl
theorem par_show (b : Int) (hb : 2 ≤ b ∧ b ≤ 36) (m : Nat) : (m : Int) < 4294967296 → parL b (showI b m) 0 false = some ((m : Int), false) := by
  induction m using Nat.strongRecOn with
  | ind m ih =>
    intro hm
    by_cases h : (m : Int) < b
    · rw [showI_small (by omega) h hb.2, parL_cons, val_ch m b ⟨by omega, h⟩ hb, if_pos rfl, if_neg Bool.false_ne_true]
      show parL b [] (0 * b + (m : Int)) (decide (0 * b + (m : Int) ≥ 4294967296)) = _
      rw [Int.zero_mul, Int.zero_add, decide_eq_false (by omega), parL_nil]
    · have hq : (m : Int) / b = ((m / b.toNat : Nat) : Int) := by
        obtain ⟨x, rfl⟩ := Int.eq_ofNat_of_zero_le (show 0 ≤ b by omega)
        rfl
      have hlt : m / b.toNat < m := Nat.div_lt_self (by omega) (by omega)
      have hdm := Int.mul_ediv_add_emod (m : Int) b
      have hm0 := Int.emod_nonneg (m : Int) (show b ≠ 0 by omega)
      have hm1 := Int.emod_lt_of_pos (m : Int) (show 0 < b by omega)
      rw [showI_big hb.1 hb.2 (by omega), parL_snoc, hq, ih _ hlt (by omega), Option.bind_some, parL_cons, val_ch _ b ⟨hm0, hm1⟩ hb, if_pos rfl, if_neg Bool.false_ne_true]
      rw [← hq]
      have e : (m : Int) / b * b + (m : Int) % b = m := by rw [Int.mul_comm]; exact hdm
      show parL b [] ((m : Int) / b * b + (m : Int) % b) (decide ((m : Int) / b * b + (m : Int) % b ≥ 4294967296)) = _
      rw [e, decide_eq_false (by omega), parL_nil]
theorem par_show' (b u : Int) (hb : 2 ≤ b ∧ b ≤ 36) (hu : 0 ≤ u ∧ u < 4294967296) : parL b (showI b u) 0 false = some (u, false) := by
  obtain ⟨m, rfl⟩ := Int.eq_ofNat_of_zero_le hu.1
  exact par_show b hb m hu.2
theorem ch_big (r : Int) (h : 0 ≤ r) : 48 ≤ chI r := by unfold chI; split <;> omega
theorem show_first (b : Int) (hb : 2 ≤ b ∧ b ≤ 36) (m : Nat) : ∀ c ∈ showI b m, 48 ≤ c := by
  induction m using Nat.strongRecOn with
  | ind m ih =>
    intro c hc
    by_cases h : (m : Int) < b
    · rw [showI_small (by omega) h hb.2] at hc
      rw [List.mem_singleton.1 hc]
      exact ch_big _ (by omega)
    · have hq : (m : Int) / b = ((m / b.toNat : Nat) : Int) := by
        obtain ⟨x, rfl⟩ := Int.eq_ofNat_of_zero_le (show 0 ≤ b by omega)
        rfl
      have hm0 := Int.emod_nonneg (m : Int) (show b ≠ 0 by omega)
      rw [showI_big hb.1 hb.2 (by omega), hq] at hc
      rcases List.mem_append.1 hc with hc | hc
      · exact ih _ (Nat.div_lt_self (by omega) (by omega)) c hc
      · rw [List.mem_singleton.1 hc]
        exact ch_big _ hm0
theorem show_nominus (b u : Int) (hb : 2 ≤ b ∧ b ≤ 36) (hu : 0 ≤ u ∧ u < 4294967296) : ¬ bt (showB b u) 0 = 45 := by
  obtain ⟨m, rfl⟩ := Int.eq_ofNat_of_zero_le hu.1
  have hs := showB_small b m hb.1 hu
  have hl : 0 < (showI b m).length := by rw [← bytes_show, bytesOf_length]; omega
  have h := show_first b hb m ((showI b m)[0]) (List.getElem_mem hl)
  intro he
  rw [← rd_bytesOf, bytes_show] at he
  have : rd (showI b m) 0 = (showI b m)[0] := by simp [rd, List.getD_eq_getElem?_getD, List.getElem?_eq_getElem hl]
  omega
theorem parF_show (b u : Int) (hb : 2 ≤ b ∧ b ≤ 36) (hu : 0 ≤ u ∧ u < 4294967296) : parF (showB b u) b = (u, 0) := by
  have hs := showB_small b u hb.1 hu
  unfold parF
  rw [if_pos hb, if_neg (fun h => show_nominus b u hb hu h.2), if_neg (by omega), bytes_show, par_show' b u hb hu, resF_pos]
theorem parF_sign (b n : Int) (hb : 2 ≤ b ∧ b ≤ 36) (hn : 0 ≤ n ∧ n < 4294967296) : parF (signB b (signI n)) b = (n, 0) := by
  unfold signI
  by_cases h1 : n < 2147483648
  · rw [if_pos h1]
    have hsg : signB b n = showB b n := if_neg (by omega)
    rw [hsg]
    exact parF_show b n hb hn
  · rw [if_neg h1]
    have hsg : signB b (n - 4294967296) = ⟨#[45]⟩ ++ showB b (4294967296 - n) := by
      unfold signB
      rw [if_pos (by omega), show -(n - 4294967296) = 4294967296 - n by omega]
    rw [hsg]
    have hs := showB_small b (4294967296 - n) hb.1 (by omega)
    obtain ⟨t, ht⟩ : ∃ t, t = showB b (4294967296 - n) := ⟨_, rfl⟩
    rw [← ht] at hs ⊢
    have hbt : bt (⟨#[45]⟩ ++ t) 0 = 45 := by
      obtain ⟨⟨l⟩⟩ := t
      rw [show (⟨#[45]⟩ : ByteArray) = ⟨([45] : List UInt8).toArray⟩ from rfl, show (⟨⟨l⟩⟩ : ByteArray) = ⟨l.toArray⟩ from rfl, ByteArray.mk_append_mk]
      rfl
    have hsz : (⟨#[45]⟩ ++ t : ByteArray).size = 1 + t.size := by rw [ByteArray.size_append]; rfl
    have hex : (⟨#[45]⟩ ++ t : ByteArray).extract 1 (⟨#[45]⟩ ++ t : ByteArray).size = t := by
      rw [hsz]
      have h := ByteArray.extract_append_eq_right (a := (⟨#[45]⟩ : ByteArray)) (b := t) (i := 1) (j := 1 + t.size) rfl rfl
      exact h
    unfold parF
    rw [if_pos hb, if_pos ⟨by omega, hbt⟩, if_neg (by omega), hex, ht, bytes_show, par_show' b _ hb (by omega), resF_neg]
    rw [Prod.mk.injEq]
    exact ⟨by omega, rfl⟩
theorem digitBack_row {w : World} (ht : Tabs w) (n : Int) (hn : (Lit.int .u32 n).wf = true) (m : Int) (hm : (Lit.int .u32 m).wf = true) (b : Int) (hb : (Lit.int .u32 b).wf = true) :
    Calls Tryd.prog 6 #[.int .u32 n, .int .u32 m, .int .u32 b] w fun e w' => e = .returned (.bool true) ∧ Below w.heap.size w w' := by
  have hn := u32w hn
  have hm := u32w hm
  have hb0 := u32w hb
  refine tinderlaw02_DigitBack.calls 1000 n m b true w ht ?_
  unfold tinderlaw02_DigitBack.f tinderlaw02_alive.f
  rw [Option.bind_some, if_pos rfl]
  by_cases hb : 2 ≤ b ∧ b ≤ 36
  · have e1 : ∀ x : Int, 0 ≤ x ∧ x < 4294967296 → digit_Show.f x b = some (showB b x, 0) := fun x hx => by unfold digit_Show.f; rw [if_pos hx, if_pos hb]
    have e2 : digit_Signed.f n b = some (signB b (signI n), 0) := by unfold digit_Signed.f; rw [if_pos hn, if_pos hb]
    rw [e1 n hn, Option.bind_some, e2, Option.bind_some, if_neg (by omega), decide_eq_false (by omega), tinderlaw02_DigitBack.j0, if_neg Bool.false_ne_true]
    dsimp only
    have hs1 := showB_small b n hb.1 hn
    have hs2 : (signB b (signI n)).size ≤ 33 := by
      unfold signB
      split
      · have := showB_small b (-(signI n)) hb.1 (by have := sign_conv n hn; omega)
        rw [ByteArray.size_append, show (⟨#[45]⟩ : ByteArray).size = 1 from rfl]
        omega
      · have := showB_small b (signI n) hb.1 (by have := sign_conv n hn; omega)
        omega
    rw [parse_eq _ _ b (by omega) (by omega), parF_show b n hb hn, Option.bind_some, parse_eq _ _ b (by omega) (by omega), parF_sign b n hb hn, Option.bind_some, e1 m hm, Option.bind_some]
    dsimp only
    rw [if_pos rfl, if_pos rfl, if_pos rfl, if_pos rfl, Option.some.injEq, beq_iff_eq, Bool.eq_iff_iff, beq_iff_eq, beq_iff_eq]
    constructor
    · intro h
      have h2 : showB b n = showB b m := by
        rw [ByteArray.toList_eq, ByteArray.toList_eq] at h
        generalize showB b n = x at h
        generalize showB b m = y at h
        obtain ⟨⟨l⟩⟩ := x
        obtain ⟨⟨l2⟩⟩ := y
        rw [show l = l2 from h]
      have h3 := parF_show b n hb hn
      rw [h2, parF_show b m hb hm] at h3
      exact (Prod.mk.inj h3).1.symm
    · intro h
      rw [h]
  · have e1 : digit_Show.f n b = some (⟨#[]⟩, 1) := by unfold digit_Show.f; rw [if_pos hn, if_neg hb]
    have e2 : digit_Signed.f n b = some (⟨#[]⟩, 1) := by unfold digit_Signed.f; rw [if_pos hn, if_neg hb]
    have hj : tinderlaw02_DigitBack.j0 1000 n m b ⟨#[]⟩ 1 ⟨#[]⟩ 1 true = some true := by
      rw [tinderlaw02_DigitBack.j0, if_pos rfl, if_pos rfl, if_pos rfl, if_pos ((empty_iff _).2 rfl), (empty_iff _).2 rfl]
      rfl
    rw [e1, Option.bind_some, e2, Option.bind_some]
    by_cases h1 : b < 2
    · rw [if_pos h1]; exact hj
    · rw [if_neg h1, decide_eq_true (by omega)]; exact hj
end Go.Proofs.YthlpdjnfcjpbpaaDoor.Q
