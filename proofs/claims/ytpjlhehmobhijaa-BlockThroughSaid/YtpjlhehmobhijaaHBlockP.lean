/- Contracts and plain facts for the functions of layer 20: what each answers, wherever its plain function has an answer. -/
import Derived.Test.YtpjlhehmobhijaaHWords
import Derived.Test.YtpjlhehmobhijaaQBlockPieces
namespace Go.Proofs.Ytpjlhehmobhijaa.Q
open Go.RowKit Go.Proofs.YtpjlhehmobhijaaW.PrintWords Go.Proofs.YtpjlhehmobhijaaW.PrintLast Go.Proofs.YtpjlhehmobhijaaW.PrintMore
/-- The pieces of a stretch, one behind the other. -/
def Chain : Int → Int → List S49 → Prop
  | _, n, [] => n = 0
  | at_, n, p :: ps => (p.f0 * 512 + p.f1 = at_ ∧ 0 ≤ p.f0 ∧ 0 ≤ p.f1 ∧ 0 < p.f2 ∧ p.f2 ≤ n ∧ p.f1 + p.f2 ≤ 512) ∧ (p.f2 < n → p.f1 + p.f2 = 512) ∧ Chain (at_ + p.f2) (n - p.f2) ps
theorem pieces_go (d : Nat) : ∀ (k : Nat) (at_ n : Int) (acc : List S49), 0 ≤ at_ → 0 ≤ n → at_ + n ≤ 1000000000 → n ≤ d → d < k → acc.length + d ≤ 2000000000 →
    ∃ ps, block_pieces.l0 k at_ n acc = some (acc ++ ps) ∧ Chain at_ n ps ∧ ps.length ≤ d := by
  induction d with
  | zero =>
    intro k at_ n acc h0 h1 h2 h3 hk hl
    obtain ⟨k, rfl⟩ : ∃ m, k = m + 1 := ⟨k - 1, by omega⟩
    obtain rfl : n = 0 := by omega
    refine ⟨[], ?_, rfl, by simp⟩
    simp only [block_pieces.l0]
    rw [if_neg (by omega), List.append_nil]
  | succ d ih =>
    intro k at_ n acc h0 h1 h2 h3 hk hl
    obtain ⟨k, rfl⟩ : ∃ m, k = m + 1 := ⟨k - 1, by omega⟩
    by_cases hn : n > 0
    · have et : Int.tmod at_ 512 = at_ % 512 := Int.tmod_eq_emod_of_nonneg h0
      have ed : Int.tdiv at_ 512 = at_ / 512 := Int.tdiv_eq_ediv_of_nonneg h0
      have e1 : wrap64 (512 - at_ % 512) = 512 - at_ % 512 := by unfold wrap64; omega
      obtain ⟨m, hm⟩ : ∃ m, mn n (512 - at_ % 512) = m := ⟨_, rfl⟩
      have hm' : m = if 512 - at_ % 512 < n then 512 - at_ % 512 else n := hm.symm
      have hb : 0 < m ∧ m ≤ n ∧ at_ % 512 + m ≤ 512 ∧ (m < n → at_ % 512 + m = 512) := by split at hm' <;> omega
      have e2 : wrap64 (at_ + m) = at_ + m := by unfold wrap64; omega
      have e3 : wrap64 (n - m) = n - m := by unfold wrap64; omega
      have e4 : wrap64 (at_ / 512) = at_ / 512 := by unfold wrap64; omega
      obtain ⟨ps, hp1, hp2, hp3⟩ := ih k (at_ + m) (n - m) (acc ++ [⟨at_ / 512, at_ % 512, m⟩]) (by omega) (by omega) (by omega) (by omega) (by omega) (by simp; omega)
      refine ⟨⟨at_ / 512, at_ % 512, m⟩ :: ps, ?_, ?_, by simp; omega⟩
      · simp only [block_pieces.l0]
        rw [if_pos hn, if_pos (by omega), et, ed, e1, hm, e2, e3, e4, hp1, List.append_assoc]
        rfl
      · exact ⟨⟨by show at_ / 512 * 512 + at_ % 512 = at_; omega, by show 0 ≤ at_ / 512; omega, by show 0 ≤ at_ % 512; omega, hb.1, hb.2.1, hb.2.2.1⟩, hb.2.2.2, hp2⟩
    · obtain rfl : n = 0 := by omega
      refine ⟨[], ?_, rfl, by simp⟩
      simp only [block_pieces.l0]
      rw [if_neg (by omega), List.append_nil]
theorem pieces_chain (k : Nat) (at_ n : Int) (h0 : 0 ≤ at_) (h1 : 0 ≤ n) (h2 : at_ + n ≤ 1000000000) (hk : n < k) : ∃ ps, block_pieces.f k at_ n = some ps ∧ Chain at_ n ps ∧ ps.length ≤ n := by
  obtain ⟨ps, h3, h4, h5⟩ := pieces_go n.toNat k at_ n [] h0 h1 h2 (by omega) (by omega) (by simp; omega)
  exact ⟨ps, by unfold block_pieces.f; simpa using h3, h4, by omega⟩
theorem Chain.nil_inv {at_ n : Int} (h : Chain at_ n []) : n = 0 := h
theorem Chain.cons_inv {at_ n : Int} {p : S49} {ps : List S49} (h : Chain at_ n (p :: ps)) : (p.f0 * 512 + p.f1 = at_ ∧ 0 ≤ p.f0 ∧ 0 ≤ p.f1 ∧ 0 < p.f2 ∧ p.f2 ≤ n ∧ p.f1 + p.f2 ≤ 512) ∧ (p.f2 < n → p.f1 + p.f2 = 512) ∧ Chain (at_ + p.f2) (n - p.f2) ps := h
end Go.Proofs.Ytpjlhehmobhijaa.Q
