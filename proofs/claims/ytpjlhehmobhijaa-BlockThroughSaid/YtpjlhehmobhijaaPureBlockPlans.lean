/- Which sectors are read and written for some bytes is what the reference says, for every place and number. -/
import Derived.Test.YtpjlhehmobhijaaQTinderlaw20BlockPlans
import Derived.Test.YtpjlhehmobhijaaHBlockP
import Derived.Test.YtpjlhehmobhijaaHAlive
namespace Go.Proofs.Ytpjlhehmobhijaa.Pure
open Go.RowKit Go.Proofs.Ytpjlhehmobhijaa.Q Go.Proofs.YtpjlhehmobhijaaW.PrintWords Go.Proofs.YtpjlhehmobhijaaW.PrintLast Go.Proofs.YtpjlhehmobhijaaW.PrintMore
def actsOf : List S49 → List S28
  | [] => []
  | p :: ps => (if p.f2 < 512 then [⟨false, p.f0⟩, ⟨true, p.f0⟩] else [⟨true, p.f0⟩]) ++ actsOf ps
theorem plan_go (ps : List S49) (d : Nat) : ∀ (k : Nat) (acc : List S28) (i : Int), 0 ≤ i → i + d = ps.length → d < k → acc.length + 2 * d ≤ 1000000000 → ps.length ≤ 1000000000 →
    block_Plan.l0 k acc ps (ps.length : Int) i = some (acc ++ actsOf (ps.drop i.toNat), 0) := by
  induction d with
  | zero =>
    intro k acc i h0 h1 hk ha hp
    obtain ⟨k, rfl⟩ : ∃ m, k = m + 1 := ⟨k - 1, by omega⟩
    simp only [block_Plan.l0]
    rw [if_neg (by omega), List.drop_eq_nil_of_le (by omega)]
    simp [actsOf]
  | succ d ih =>
    intro k acc i h0 h1 hk ha hp
    obtain ⟨k, rfl⟩ : ∃ m, k = m + 1 := ⟨k - 1, by omega⟩
    have hil : i.toNat < ps.length := by omega
    have hrd : rd_T49 ps i = ps[i.toNat] := by simp [rd_T49, List.getD_eq_getElem?_getD, List.getElem?_eq_getElem hil]
    have e1 : wrap64 (i + 1) = i + 1 := by unfold wrap64; omega
    have e2 : (i + 1).toNat = i.toNat + 1 := by omega
    simp only [block_Plan.l0]
    rw [if_pos (by omega), if_pos h0, if_pos (by omega), hrd, e1, List.drop_eq_getElem_cons hil]
    by_cases hf : ps[i.toNat].f2 < 512
    · rw [if_pos hf, if_pos (by omega), Option.bind_some, if_pos (by simp; omega), ih k _ (i + 1) (by omega) (by omega) (by omega) (by simp; omega) hp, e2]
      simp [actsOf, hf]
    · rw [if_neg hf, if_pos (by omega), ih k _ (i + 1) (by omega) (by omega) (by omega) (by simp; omega) hp, e2]
      simp [actsOf, hf]
theorem ref_go (x0 x1 : Int) (h0 : 0 ≤ x0) (h1 : 0 ≤ x1) (h2 : x0 + x1 ≤ 32768) (d : Nat) : ∀ (k : Nat) (acc : List S28) (s at_ n : Int) (ps : List S49), 0 ≤ s → s + d = 64 → d < k → acc.length + 2 * d ≤ 1000000000 → Chain at_ n ps →
    (n = 0 ∧ (x0 + x1 ≤ 512 * s ∨ x1 = 0)) ∨ (0 < n ∧ 512 * s ≤ at_ ∧ at_ + n = x0 + x1 ∧ (at_ = x0 ∨ (at_ = 512 * s ∧ x0 ≤ at_))) →
    tinderref20_Plan.l0 k x0 x1 acc s = some (acc ++ actsOf ps, 0) := by
  induction d with
  | zero =>
    intro k acc s at_ n ps hs0 hs hk ha hc hi
    obtain ⟨k, rfl⟩ : ∃ m, k = m + 1 := ⟨k - 1, by omega⟩
    simp only [tinderref20_Plan.l0]
    rw [if_neg (by omega)]
    cases ps with
    | nil => simp [actsOf]
    | cons p ps =>
      have := hc.cons_inv.1
      omega
  | succ d ih =>
    intro k acc s at_ n ps hs0 hs hk ha hc hi
    obtain ⟨k, rfl⟩ : ∃ m, k = m + 1 := ⟨k - 1, by omega⟩
    have e1 : wrap64 (512 * s) = 512 * s := by unfold wrap64; omega
    have e2 : wrap64 (512 * s + 512) = 512 * s + 512 := by unfold wrap64; omega
    have e3 : wrap64 (x0 + x1) = x0 + x1 := by unfold wrap64; omega
    have e4 : wrap64 (s + 1) = s + 1 := by unfold wrap64; omega
    obtain ⟨f, hf⟩ : ∃ f, mx x0 (512 * s) = f := ⟨_, rfl⟩
    obtain ⟨t, ht⟩ : ∃ t, mn (x0 + x1) (512 * s + 512) = t := ⟨_, rfl⟩
    have hf' : f = if x0 < 512 * s then 512 * s else x0 := hf.symm
    have ht' : t = if 512 * s + 512 < x0 + x1 then 512 * s + 512 else x0 + x1 := ht.symm
    simp only [tinderref20_Plan.l0]
    rw [if_pos (by omega), e1, e2, e3, hf, ht, e4]
    cases ps with
    | nil =>
      have hn : n = 0 := hc.nil_inv
      rw [if_pos (by split at hf' <;> split at ht' <;> omega)]
      exact ih k acc (s + 1) at_ n [] (by omega) (by omega) (by omega) (by omega) hc (by omega)
    | cons p ps =>
      obtain ⟨⟨q1, q2, q3, q4, q5, q6⟩, q7, q8⟩ := hc.cons_inv
      by_cases hle : 512 * s + 512 ≤ at_
      · rw [if_pos (by split at hf' <;> split at ht' <;> omega)]
        exact ih k acc (s + 1) at_ n (p :: ps) (by omega) (by omega) (by omega) (by omega) hc (by omega)
      · have hp : p.f0 = s := by omega
        have ef : f = at_ := by split at hf' <;> omega
        have et : t = at_ + p.f2 := by split at ht' <;> omega
        have e5 : wrap64 (t - f) = p.f2 := by rw [ef, et]; unfold wrap64; omega
        rw [if_neg (by omega), e5]
        by_cases hf2 : p.f2 < 512
        · rw [if_pos hf2, if_pos (by omega), Option.bind_some, if_pos (by simp; omega), ih k _ (s + 1) _ _ ps (by omega) (by omega) (by omega) (by simp; omega) q8 (by omega)]
          simp [actsOf, hf2, hp]
        · rw [if_neg hf2, if_pos (by omega), ih k _ (s + 1) _ _ ps (by omega) (by omega) (by omega) (by simp; omega) q8 (by omega)]
          simp [actsOf, hf2, hp]
theorem same_go (xs : List S28) (hl : xs.length ≤ 1000000000) (d : Nat) : ∀ (k : Nat) (i : Int), 0 ≤ i → i + d = xs.length → d < k → tinderlaw20_BlockPlans.l0 k xs xs i = some true := by
  induction d with
  | zero =>
    intro k i h0 h1 hk
    obtain ⟨k, rfl⟩ : ∃ m, k = m + 1 := ⟨k - 1, by omega⟩
    simp only [tinderlaw20_BlockPlans.l0]
    rw [if_neg (by omega)]
  | succ d ih =>
    intro k i h0 h1 hk
    obtain ⟨k, rfl⟩ : ∃ m, k = m + 1 := ⟨k - 1, by omega⟩
    have e1 : wrap64 (i + 1) = i + 1 := by unfold wrap64; omega
    simp only [tinderlaw20_BlockPlans.l0]
    rw [if_pos (by omega), if_pos h0, if_pos (by omega), if_neg (by simp), e1]
    exact ih k (i + 1) (by omega) (by omega) (by omega)
theorem acts_len : ∀ ps : List S49, (actsOf ps).length ≤ 2 * ps.length
  | [] => by simp [actsOf]
  | p :: ps => by
    have := acts_len ps
    simp only [actsOf, List.length_append, List.length_cons]
    split <;> simp <;> omega
theorem plan_eq (a n : Int) (K : Nat) (hK : 40000 ≤ K) : ∃ r, block_Plan.f K a n = some r ∧ tinderref20_Plan.f K a n = some r ∧ r.1.length ≤ 100000 := by
  obtain ⟨k, rfl⟩ : ∃ m, K = m + 1 := ⟨K - 1, by omega⟩
  unfold block_Plan.f tinderref20_Plan.f
  by_cases h : 0 ≤ a ∧ 0 ≤ n ∧ a ≤ 32768 ∧ n ≤ 32768 - a
  · have e : wrap64 (32768 - a) = 32768 - a := by unfold wrap64; omega
    rw [if_neg (by omega), if_neg (by omega), if_neg (by omega), if_neg (by omega), if_neg (by omega), if_neg (by omega), e, decide_eq_false (by omega)]
    simp only [block_Plan.j0, tinderref20_Plan.j0]
    obtain ⟨ps, hp, hc, hl⟩ := pieces_chain k a n h.1 h.2.1 (by omega) (by omega)
    have hl2 := acts_len ps
    rw [if_neg (by decide), if_neg (by decide), hp, Option.bind_some, plan_go ps ps.length k [] 0 (by omega) (by omega) (by omega) (by simp; omega) (by omega)]
    refine ⟨(actsOf ps, 0), by simp, ?_, by simp; omega⟩
    rw [ref_go a n h.1 h.2.1 (by omega) 64 k [] 0 a n ps (by omega) (by omega) (by omega) (by simp) hc (by omega)]
    simp
  · refine ⟨([], 1), ?_, ?_, by simp⟩
    all_goals
      have e : wrap64 (32768 - a) = 32768 - a ∨ ¬ (0 ≤ a ∧ a ≤ 32768) := by
        by_cases h2 : 0 ≤ a ∧ a ≤ 32768
        · left; unfold wrap64; omega
        · right; exact h2
      repeat' split
      all_goals first | (simp only [block_Plan.j0, tinderref20_Plan.j0]; first | rfl | (rw [if_pos rfl]) | (rw [if_pos trivial])) | (rcases e with e | e; (rw [e, decide_eq_true (by omega)]; simp [block_Plan.j0, tinderref20_Plan.j0]); omega)
theorem BlockPlans : tinderlaw20_BlockPlans.Pure := by
  intro a n _ _
  obtain ⟨⟨l, e⟩, h1, h2, h3⟩ := plan_eq a n 200002 (by omega)
  replace h3 : l.length ≤ 100000 := h3
  refine ⟨200002, ?_⟩
  unfold tinderlaw20_BlockPlans.f
  rw [alive20 _ (by omega), Option.bind_some, if_pos rfl, h1, h2, Option.bind_some, Option.bind_some, if_pos rfl]
  simp only [tinderlaw20_BlockPlans.j0]
  rw [if_neg (by simp)]
  exact same_go l (by omega) l.length _ 0 (by omega) (by omega) (by omega)
end Go.Proofs.Ytpjlhehmobhijaa.Pure
