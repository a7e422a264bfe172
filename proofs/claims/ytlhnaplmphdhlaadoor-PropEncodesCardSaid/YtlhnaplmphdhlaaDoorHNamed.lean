/- Names: both plain functions are one. -/
import Derived.Test.YtlhnaplmphdhlaaDoorHDigitP
import Derived.Test.YtlhnaplmphdhlaaDoorQPropNamed
import Derived.Test.YtlhnaplmphdhlaaDoorQTinderref05Named
set_option linter.unusedSimpArgs false
set_option linter.unusedVariables false
namespace Go.Proofs.YtlhnaplmphdhlaaDoor.Q
open Go.RowKit Go.Proofs.YtlhnaplmphdhlaaDoorW.PrintWords Go.Proofs.YtlhnaplmphdhlaaDoorW.PrintLast
def badB (c : Int) : Bool := decide (c = 47) || decide (c = 92) || decide (c = 58) || decide (c = 91) || decide (c = 93) || decide (c = 64)
def okC (c : Int) : Bool := decide (33 ≤ c) && decide (c ≤ 126) && !(decide (65 ≤ c) && decide (c ≤ 90)) && !badB c
def namedF (s : ByteArray) : Bool := decide (1 ≤ s.size) && decide (s.size ≤ 31) && (bytesOf s).all okC
theorem bad_all : ((List.range 256).all fun (c : Nat) => decide (0 ≤ Lib.indexByte (⟨#[47, 92, 58, 91, 93, 64]⟩ : ByteArray).data.toList ((c : Int).toNat.toUInt8)) == badB (c : Int)) = true := by kernel_rfl
theorem bad_idx (c : Int) (h : 0 ≤ c ∧ c ≤ 255) : decide (0 ≤ Lib.indexByte (⟨#[47, 92, 58, 91, 93, 64]⟩ : ByteArray).data.toList c.toNat.toUInt8) = badB c := by
  have h1 := List.all_eq_true.1 bad_all c.toNat (List.mem_range.2 (by omega))
  rw [beq_iff_eq, show ((c.toNat : Nat) : Int) = c by omega] at h1
  exact h1
theorem named_go (s : ByteArray) (hs : s.size ≤ 31) : ∀ (d k : Nat) (i : Int), 0 ≤ i → i + d = s.size → 2 * d + 2 ≤ k → prop_Named.l0 k s s.size i = some (((bytesOf s).drop i.toNat).all okC)
  | 0, k, i, h0, h1, hk => by
    obtain ⟨k, rfl⟩ : ∃ m, k = m + 1 := ⟨k - 1, by omega⟩
    rw [prop_Named.l0, if_neg (by omega), List.drop_eq_nil_of_le (by rw [bytesOf_length]; omega)]
    rfl
  | d + 1, k, i, h0, h1, hk => by
    obtain ⟨k, rfl⟩ : ∃ m, k = m + 1 + 1 := ⟨k - 2, by omega⟩
    have hb := bt_range s i
    have ih := named_go s hs d k (i + 1) (by omega) (by omega) (by omega)
    have hw : wrap64 (i + 1) = i + 1 := by unfold wrap64; omega
    rw [prop_Named.l0, if_pos (by omega), if_pos h0, if_pos (by omega), bytes_at s i h0 (by omega), List.all_cons]
    have ht : prop_Named.j2 (k + 1) s (bt s i) s.size i true = some false := by rw [prop_Named.j2, if_pos rfl]
    have hf : prop_Named.j2 (k + 1) s (bt s i) s.size i false = some (!badB (bt s i) && ((bytesOf s).drop (i + 1).toNat).all okC) := by
      rw [prop_Named.j2, if_neg (by decide), strings_IndexByte.f, Option.bind_some, hw, ih, ← bad_idx (bt s i) hb]
      by_cases hx : 0 ≤ Lib.indexByte (⟨#[47, 92, 58, 91, 93, 64]⟩ : ByteArray).data.toList (bt s i).toNat.toUInt8
      · rw [if_pos hx]; simp [hx]
      · rw [if_neg hx]; simp [hx]
    rw [show okC (bt s i) = (decide (33 ≤ bt s i) && decide (bt s i ≤ 126) && !(decide (65 ≤ bt s i) && decide (bt s i ≤ 90)) && !badB (bt s i)) from rfl]
    by_cases h2 : bt s i ≤ 32
    · rw [if_pos h2, ht]
      simp [show ¬ 33 ≤ bt s i by omega]
    · rw [if_neg h2]
      by_cases h3 : bt s i > 126
      · rw [if_pos h3, ht]
        simp [show ¬ bt s i ≤ 126 by omega]
      · rw [if_neg h3]
        by_cases h4 : bt s i ≥ 65
        · rw [if_pos h4]
          by_cases h5 : bt s i ≤ 90
          · rw [decide_eq_true h5, ht]
            simp [h5, show 65 ≤ bt s i by omega]
          · rw [decide_eq_false h5, hf]
            simp [h5, show 33 ≤ bt s i by omega, show bt s i ≤ 126 by omega]
        · rw [if_neg h4, hf]
          simp [show ¬ 65 ≤ bt s i by omega, show 33 ≤ bt s i by omega, show bt s i ≤ 126 by omega]
theorem named_eq (k : Nat) (hk : 100 ≤ k) (s : ByteArray) : prop_Named.f k s = some (namedF s) := by
  obtain ⟨k, rfl⟩ : ∃ m, k = m + 1 := ⟨k - 1, by omega⟩
  unfold prop_Named.f namedF
  by_cases h0 : s.size = 0
  · rw [if_pos ((empty_iff s).2 h0), prop_Named.j0, if_pos rfl]
    simp [h0]
  · rw [if_neg (fun h => h0 ((empty_iff s).1 h)), prop_Named.j0]
    by_cases h1 : (s.size : Int) > 31
    · rw [decide_eq_true h1, if_pos rfl]
      simp [show ¬ s.size ≤ 31 by omega]
    · rw [decide_eq_false h1, if_neg (by decide), named_go s (by omega) s.size k 0 (Int.le_refl 0) (by omega) (by omega)]
      simp [show 1 ≤ s.size by omega, show s.size ≤ 31 by omega]
theorem bad_bt : (bt (⟨#[47, 92, 58, 91, 93, 64]⟩ : ByteArray) 0 = 47 ∧ bt (⟨#[47, 92, 58, 91, 93, 64]⟩ : ByteArray) 1 = 92 ∧ bt (⟨#[47, 92, 58, 91, 93, 64]⟩ : ByteArray) 2 = 58) ∧ (bt (⟨#[47, 92, 58, 91, 93, 64]⟩ : ByteArray) 3 = 91 ∧ bt (⟨#[47, 92, 58, 91, 93, 64]⟩ : ByteArray) 4 = 93 ∧ bt (⟨#[47, 92, 58, 91, 93, 64]⟩ : ByteArray) 5 = 64) := ⟨⟨by kernel_rfl, by kernel_rfl, by kernel_rfl⟩, by kernel_rfl, by kernel_rfl, by kernel_rfl⟩
theorem refbad_go (k : Nat) (s : ByteArray) (i c : Int) : tinderref05_Named.l1 (k + 7) s i c 0 = if badB c = true then some false else tinderref05_Named.l0 k s (wrap64 (i + 1)) := by
  obtain ⟨⟨b0, b1, b2⟩, b3, b4, b5⟩ := bad_bt
  have w1 : wrap64 ((0 : Int) + 1) = 1 := by unfold wrap64; omega
  have w2 : wrap64 ((1 : Int) + 1) = 2 := by unfold wrap64; omega
  have w3 : wrap64 ((2 : Int) + 1) = 3 := by unfold wrap64; omega
  have w4 : wrap64 ((3 : Int) + 1) = 4 := by unfold wrap64; omega
  have w5 : wrap64 ((4 : Int) + 1) = 5 := by unfold wrap64; omega
  have w6 : wrap64 ((5 : Int) + 1) = 6 := by unfold wrap64; omega
  unfold badB
  rw [tinderref05_Named.l1, if_pos (by decide), if_pos (by decide), b0]
  by_cases h0 : c = 47
  · rw [if_pos h0]; simp [h0]
  · rw [if_neg h0, w1, tinderref05_Named.l1, if_pos (by decide), if_pos (by decide), b1]
    by_cases h1 : c = 92
    · rw [if_pos h1]; simp [h1]
    · rw [if_neg h1, w2, tinderref05_Named.l1, if_pos (by decide), if_pos (by decide), b2]
      by_cases h2 : c = 58
      · rw [if_pos h2]; simp [h2]
      · rw [if_neg h2, w3, tinderref05_Named.l1, if_pos (by decide), if_pos (by decide), b3]
        by_cases h3 : c = 91
        · rw [if_pos h3]; simp [h3]
        · rw [if_neg h3, w4, tinderref05_Named.l1, if_pos (by decide), if_pos (by decide), b4]
          by_cases h4 : c = 93
          · rw [if_pos h4]; simp [h4]
          · rw [if_neg h4, w5, tinderref05_Named.l1, if_pos (by decide), if_pos (by decide), b5]
            by_cases h5 : c = 64
            · rw [if_pos h5]; simp [h5]
            · rw [if_neg h5, w6, tinderref05_Named.l1, if_neg (by decide)]
              simp [h0, h1, h2, h3, h4, h5]
theorem refnamed_go (s : ByteArray) (hs : s.size ≤ 31) : ∀ (d k : Nat) (i : Int), 0 ≤ i → i + d = s.size → 10 * d + 2 ≤ k → tinderref05_Named.l0 k s i = some (((bytesOf s).drop i.toNat).all okC)
  | 0, k, i, h0, h1, hk => by
    obtain ⟨k, rfl⟩ : ∃ m, k = m + 1 := ⟨k - 1, by omega⟩
    rw [tinderref05_Named.l0, if_neg (by omega), List.drop_eq_nil_of_le (by rw [bytesOf_length]; omega)]
    rfl
  | d + 1, k, i, h0, h1, hk => by
    obtain ⟨k, rfl⟩ : ∃ m, k = m + 7 + 1 + 1 := ⟨k - 9, by omega⟩
    have hb := bt_range s i
    have ih := refnamed_go s hs d k (i + 1) (by omega) (by omega) (by omega)
    have hw : wrap64 (i + 1) = i + 1 := by unfold wrap64; omega
    rw [tinderref05_Named.l0, if_pos (by omega), if_pos h0, bytes_at s i h0 (by omega), List.all_cons]
    have ht : tinderref05_Named.j2 (k + 7 + 1) s i (bt s i) true = some false := by rw [tinderref05_Named.j2, if_pos rfl]
    have hf : tinderref05_Named.j2 (k + 7 + 1) s i (bt s i) false = some (!badB (bt s i) && ((bytesOf s).drop (i + 1).toNat).all okC) := by
      rw [tinderref05_Named.j2, if_neg (by decide), refbad_go, hw, ih]
      cases badB (bt s i) <;> simp
    rw [show okC (bt s i) = (decide (33 ≤ bt s i) && decide (bt s i ≤ 126) && !(decide (65 ≤ bt s i) && decide (bt s i ≤ 90)) && !badB (bt s i)) from rfl]
    by_cases h2 : bt s i < 33
    · rw [if_pos h2, ht]
      simp [show ¬ 33 ≤ bt s i by omega]
    · rw [if_neg h2]
      by_cases h3 : bt s i > 126
      · rw [if_pos h3, ht]
        simp [show ¬ bt s i ≤ 126 by omega]
      · rw [if_neg h3]
        by_cases h4 : bt s i ≥ 65
        · rw [if_pos h4]
          by_cases h5 : bt s i ≤ 90
          · rw [decide_eq_true h5, ht]
            simp [h5, show 65 ≤ bt s i by omega]
          · rw [decide_eq_false h5, hf]
            simp [h5, show 33 ≤ bt s i by omega, show bt s i ≤ 126 by omega]
        · rw [if_neg h4, hf]
          simp [show ¬ 65 ≤ bt s i by omega, show 33 ≤ bt s i by omega, show bt s i ≤ 126 by omega]
theorem refnamed_eq (k : Nat) (hk : 400 ≤ k) (s : ByteArray) : tinderref05_Named.f k s = some (namedF s) := by
  obtain ⟨k, rfl⟩ : ∃ m, k = m + 1 := ⟨k - 1, by omega⟩
  unfold tinderref05_Named.f namedF
  by_cases h0 : s.size = 0
  · rw [if_pos (by omega), tinderref05_Named.j0, if_pos rfl]
    simp [h0]
  · rw [if_neg (by omega), tinderref05_Named.j0]
    by_cases h1 : (s.size : Int) > 31
    · rw [decide_eq_true h1, if_pos rfl]
      simp [show ¬ s.size ≤ 31 by omega]
    · rw [decide_eq_false h1, if_neg (by decide), refnamed_go s (by omega) s.size k 0 (Int.le_refl 0) (by omega) (by omega)]
      simp [show 1 ≤ s.size by omega, show s.size ≤ 31 by omega]
end Go.Proofs.YtlhnaplmphdhlaaDoor.Q
