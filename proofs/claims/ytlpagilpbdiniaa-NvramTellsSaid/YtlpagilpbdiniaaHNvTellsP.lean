/- Plain facts for the law NvramTells: the sum tells any one byte that is another. -/
import Derived.Test.YtlpagilpbdiniaaHNvCutP
namespace Go.Proofs.Ytlpagilpbdiniaa.Q
open Go.RowKit Go.Proofs.YtlpagilpbdiniaaW.PrintWords Go.Proofs.YtlpagilpbdiniaaW.PrintLast Go.Proofs.YtlpagilpbdiniaaW.PrintMore
theorem inv_mul (z : Int) (hz : 0 ≤ z ∧ z < 4294967296) : ((z * 16777619 % 4294967296) * 899433627) % 4294967296 = z := by
  rw [Int.mul_emod, Int.emod_emod_of_dvd _ (Int.dvd_refl _), ← Int.mul_emod, Int.mul_assoc, show (16777619 : Int) * 899433627 = 1 + 4294967296 * 3513497 from rfl, Int.mul_add, Int.mul_one, Int.mul_left_comm, Int.add_mul_emod_self_left]
  exact Int.emod_eq_of_lt hz.1 hz.2
theorem mul_inj (x y : Int) (hx : 0 ≤ x ∧ x < 4294967296) (hy : 0 ≤ y ∧ y < 4294967296) (h : x * 16777619 % 4294967296 = y * 16777619 % 4294967296) : x = y := by
  rw [← inv_mul x hx, ← inv_mul y hy, h]
theorem stepF_nat (a b : Nat) (ha : a < 4294967296) (hb : b < 256) : stepF (a : Int) (b : Int) = ((a ^^^ b : Nat) : Int) * 16777619 % 4294967296 := by
  unfold stepF
  have e2 : (b : Int) % 4294967296 = (b : Int) := by omega
  rw [e2, bits_xor_u32_nat _ _ ha (by omega)]
theorem xor_lt32 (a b : Nat) (ha : a < 4294967296) (hb : b < 256) : a ^^^ b < 4294967296 := by
  have hx : a ^^^ b < 2 ^ 32 := Nat.xor_lt_two_pow (by omega) (by omega)
  exact hx
theorem step_inj (a b a' b' : Nat) (ha : a < 4294967296) (hb : b < 256) (ha' : a' < 4294967296) (hb' : b' < 256) (e : stepF (a : Int) (b : Int) = stepF (a' : Int) (b' : Int)) : a ^^^ b = a' ^^^ b' := by
  rw [stepF_nat a b ha hb, stepF_nat a' b' ha' hb'] at e
  have h1 := xor_lt32 a b ha hb
  have h2 := xor_lt32 a' b' ha' hb'
  generalize a ^^^ b = u at *
  generalize a' ^^^ b' = v at *
  exact Int.ofNat.inj (mul_inj (u : Int) (v : Int) ⟨Int.natCast_nonneg _, Int.ofNat_lt.2 h1⟩ ⟨Int.natCast_nonneg _, Int.ofNat_lt.2 h2⟩ e)
theorem step_inj_h (h h' c : Int) (hh : 0 ≤ h ∧ h < 4294967296) (hh' : 0 ≤ h' ∧ h' < 4294967296) (hc : 0 ≤ c ∧ c < 256) (e : stepF h c = stepF h' c) : h = h' := by
  obtain ⟨a, rfl⟩ := Int.eq_ofNat_of_zero_le hh.1
  obtain ⟨a', rfl⟩ := Int.eq_ofNat_of_zero_le hh'.1
  obtain ⟨b, rfl⟩ := Int.eq_ofNat_of_zero_le hc.1
  have h5 := step_inj a b a' b (Int.ofNat_lt.1 hh.2) (Int.ofNat_lt.1 hc.2) (Int.ofNat_lt.1 hh'.2) (Int.ofNat_lt.1 hc.2) e
  have h6 : (a ^^^ b) ^^^ b = (a' ^^^ b) ^^^ b := by rw [h5]
  rw [Nat.xor_assoc, Nat.xor_assoc, Nat.xor_self, Nat.xor_zero, Nat.xor_zero] at h6
  rw [h6]
theorem step_inj_c (h c c' : Int) (hh : 0 ≤ h ∧ h < 4294967296) (hc : 0 ≤ c ∧ c < 256) (hc' : 0 ≤ c' ∧ c' < 256) (e : stepF h c = stepF h c') : c = c' := by
  obtain ⟨a, rfl⟩ := Int.eq_ofNat_of_zero_le hh.1
  obtain ⟨b, rfl⟩ := Int.eq_ofNat_of_zero_le hc.1
  obtain ⟨b', rfl⟩ := Int.eq_ofNat_of_zero_le hc'.1
  have h5 := step_inj a b a b' (Int.ofNat_lt.1 hh.2) (Int.ofNat_lt.1 hc.2) (Int.ofNat_lt.1 hh.2) (Int.ofNat_lt.1 hc'.2) e
  have h6 : a ^^^ (a ^^^ b) = a ^^^ (a ^^^ b') := by rw [h5]
  rw [← Nat.xor_assoc, ← Nat.xor_assoc, Nat.xor_self, Nat.zero_xor, Nat.zero_xor] at h6
  rw [h6]
theorem fold_inj (l : List Int) (hl : Bytes l) : ∀ h h' : Int, (0 ≤ h ∧ h < 4294967296) → (0 ≤ h' ∧ h' < 4294967296) → l.foldl stepF h = l.foldl stepF h' → h = h' := by
  induction l with
  | nil => intro h h' _ _ e; exact e
  | cons c l ih =>
    intro h h' hh hh' e
    exact step_inj_h h h' c hh hh' (hl c (by simp)) (ih (fun a ha => hl a (by simp [ha])) _ _ (stepF_range _ _) (stepF_range _ _) e)
theorem fold_set (l : List Int) (hl : Bytes l) (j : Nat) (hj : j < l.length) (v : Int) (hv : 0 ≤ v ∧ v < 256) (hne : v ≠ l[j]) (h : Int) (hh : 0 ≤ h ∧ h < 4294967296) : (l.set j v).foldl stepF h ≠ l.foldl stepF h := by
  intro e
  have e1 : l = l.take j ++ l[j] :: l.drop (j + 1) := by rw [← List.drop_eq_getElem_cons hj, List.take_append_drop]
  have e2 : l.set j v = l.take j ++ v :: l.drop (j + 1) := List.set_eq_take_append_cons_drop .. |>.trans (by rw [if_pos hj])
  rw [e2] at e
  conv at e => rhs; rw [e1]
  rw [List.foldl_append, List.foldl_append, List.foldl_cons, List.foldl_cons] at e
  have hr := fold_range (l.take j) h hh
  have h3 := fold_inj _ (hl.drop _) _ _ (stepF_range _ _) (stepF_range _ _) e
  exact hne (step_inj_c _ _ _ hr hv (hl _ (List.getElem_mem hj)) h3)
end Go.Proofs.Ytlpagilpbdiniaa.Q
