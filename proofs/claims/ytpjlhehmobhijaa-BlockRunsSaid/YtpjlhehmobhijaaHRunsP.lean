/- Behind any row of puts the disk is like a list of bytes: the plain law, and the walk's call as the row wants it. -/
import Derived.Test.YtpjlhehmobhijaaQTinderlaw20BlockRuns
import Derived.Test.YtpjlhehmobhijaaHBlockGetP
import Derived.Test.YtpjlhehmobhijaaHBlockRefs
import Derived.Test.YtpjlhehmobhijaaHAlive
import Derived.OpenShut
namespace Go.Proofs.Ytpjlhehmobhijaa.Q
open Go.RowKit Go.Proofs.YtpjlhehmobhijaaW.PrintWords Go.Proofs.YtpjlhehmobhijaaW.PrintLast Go.Proofs.YtpjlhehmobhijaaW.PrintMore
theorem splice_set (D B : List Int) (a j : Nat) (hj : j < B.length) (h : a + B.length ≤ D.length) (x : Int) (hx : B[j]? = some x) : (splice D a (B.take j)).set (a + j) x = splice D a (B.take (j + 1)) := by
  have l1 : (B.take j).length = j := by rw [List.length_take]; omega
  have l2 : (B.take (j + 1)).length = j + 1 := by rw [List.length_take]; omega
  have l3 : (splice D a (B.take j)).length = D.length := length_splice _ _ _ (by omega)
  apply List.ext_getElem?
  intro i
  rw [List.getElem?_set, splice_get _ _ _ _ (by omega), splice_get _ _ _ _ (by omega), l1, l2, l3]
  by_cases c1 : a + j = i
  · subst c1
    rw [if_pos rfl, if_pos (by omega), if_neg (by omega), if_pos (by omega), show a + j - a = j by omega, List.getElem?_take, if_pos (by omega), hx]
  · rw [if_neg c1]
    by_cases c2 : i < a
    · rw [if_pos c2, if_pos c2]
    · rw [if_neg c2, if_neg c2]
      by_cases c3 : i < a + j
      · rw [if_pos c3, if_pos (by omega), List.getElem?_take, List.getElem?_take, if_pos (by omega), if_pos (by omega)]
      · rw [if_neg c3, if_neg (by omega)]
theorem runs_in (x1 : List S43) (D X : List Int) (i a b : Int) (hi0 : 0 ≤ i) (hi : i < x1.length) (hat : 0 ≤ (rd_T43 x1 i).f0) (hin : (rd_T43 x1 i).f0 + (rd_T43 x1 i).f1.length ≤ D.length) (hD : D.length ≤ 1000000) (d : Nat) :
    ∀ (k : Nat) (j : Int), 0 ≤ j → j + d = (rd_T43 x1 i).f1.length →
      tinderlaw20_BlockRuns.l1 (k + d + 1) x1 X (splice D (rd_T43 x1 i).f0.toNat ((rd_T43 x1 i).f1.take j.toNat)) i j a b = tinderlaw20_BlockRuns.l0 k x1 X (splice D (rd_T43 x1 i).f0.toNat (rd_T43 x1 i).f1) (wrap64 (i + 1)) a b := by
  obtain ⟨p, hp⟩ : ∃ p, rd_T43 x1 i = p := ⟨_, rfl⟩
  rw [hp] at hat hin ⊢
  induction d with
  | zero =>
    intro k j h0 h1
    simp only [tinderlaw20_BlockRuns.l1]
    rw [hp, if_pos hi0, if_pos hi, if_neg (by omega), List.take_of_length_le (by omega)]
  | succ d ih =>
    intro k j h0 h1
    have e1 : wrap64 (p.f0 + j) = p.f0 + j := by unfold wrap64; omega
    have e2 : wrap64 (j + 1) = j + 1 := by unfold wrap64; omega
    have hl : (splice D p.f0.toNat (p.f1.take j.toNat)).length = D.length := length_splice _ _ _ (by rw [List.length_take]; omega)
    rw [show k + (d + 1) + 1 = (k + d + 1) + 1 by omega, tinderlaw20_BlockRuns.l1, hp, if_pos hi0, if_pos hi, if_pos (by omega), if_pos h0, e1, e2, if_pos (by omega), if_pos (by rw [hl]; omega)]
    have hjl : j.toNat < p.f1.length := by omega
    have hx : p.f1[j.toNat]? = some (rd p.f1 j) := by simp [rd, List.getD_eq_getElem?_getD, List.getElem?_eq_getElem hjl]
    rw [show (p.f0 + j).toNat = p.f0.toNat + j.toNat by omega, splice_set D p.f1 p.f0.toNat j.toNat hjl (by omega) _ hx, show j.toNat + 1 = (j + 1).toNat by omega]
    exact ih k (j + 1) (by omega) (by omega)
theorem runs_go (x1 : List S43) (hx1 : x1.length ≤ 60) (hb : ∀ p ∈ x1, p.f1.length ≤ 140737488351232) (a b : Int) (C : Nat) (hC : 40000 ≤ C) (d : Nat) : ∀ (k : Nat) (D : List Int) (i : Int), 0 ≤ i → i + d = x1.length → d * C + C + 10 ≤ k → diskB D = true →
    tinderlaw20_BlockRuns.l0 k x1 D D i a b = some true := by
  induction d with
  | zero =>
    intro k D i h0 h1 hk hd
    rw [Nat.zero_mul, Nat.zero_add] at hk
    obtain ⟨k, rfl⟩ : ∃ m, k = m + 1 := ⟨k - 1, by omega⟩
    have hln : D.length % 512 = 0 ∧ D.length ≤ 32768 := by simpa [diskB] using hd
    simp only [tinderlaw20_BlockRuns.l0]
    rw [if_neg (by omega), block_Get_eq D a b k (by omega) (by omega), ref20_In_eq D a b (by omega), Option.bind_some, Option.bind_some, if_pos hd]
    by_cases hn : 0 ≤ a ∧ 0 ≤ b ∧ a ≤ D.length ∧ b ≤ D.length - a
    · have e : wrap64 (a + b) = a + b := by unfold wrap64; omega
      rw [if_pos hn, if_pos (decide_eq_true hn)]
      dsimp only
      rw [if_pos rfl, e, if_pos (by omega), if_pos (by omega), if_pos (by omega), List.drop_take, show (a + b).toNat - a.toNat = b.toNat by omega, ref04_Same_self, Option.bind_some, if_pos rfl, ref04_Same_self]
      rfl
    · rw [if_neg hn, if_neg (by simpa using hn)]
      rfl
  | succ d ih =>
    intro k D i h0 h1 hk hd
    rw [Nat.succ_mul] at hk
    generalize d * C = dC at hk ih
    obtain ⟨k, rfl⟩ : ∃ m, k = m + 1 := ⟨k - 1, by omega⟩
    have hln : D.length % 512 = 0 ∧ D.length ≤ 32768 := by simpa [diskB] using hd
    have hil : i.toNat < x1.length := by omega
    have hrd : rd_T43 x1 i = x1[i.toNat] := by simp [rd_T43, List.getD_eq_getElem?_getD, List.getElem?_eq_getElem hil]
    have hlen := hb _ (List.getElem_mem hil)
    rw [← hrd] at hlen
    have e1 : wrap64 (i + 1) = i + 1 := by unfold wrap64; omega
    obtain ⟨p, hp⟩ : ∃ p, rd_T43 x1 i = p := ⟨_, rfl⟩
    simp only [tinderlaw20_BlockRuns.l0]
    rw [hp] at hlen
    rw [if_pos (by omega), if_pos h0, hp, ref20_In_eq D _ _ (by omega), block_Put.f, if_pos (by omega), if_pos hd]
    by_cases hn : 0 ≤ p.f0 ∧ p.f0 ≤ D.length ∧ p.f1.length ≤ D.length - p.f0
    · rw [if_pos hn, Option.bind_some, Option.bind_some, if_pos (decide_eq_true ⟨hn.1, by omega, hn.2.1, hn.2.2⟩)]
      dsimp only
      rw [if_pos rfl]
      have h3 := runs_in x1 D (splice D p.f0.toNat p.f1) i a b h0 (by omega) (by rw [hp]; exact hn.1) (by rw [hp]; omega) (by omega) p.f1.length (k - p.f1.length - 1) 0 (by omega) (by rw [hp]; omega)
      rw [show k - p.f1.length - 1 + p.f1.length + 1 = k by omega, hp] at h3
      have e0 : splice D p.f0.toNat (p.f1.take (0 : Int).toNat) = D := by simp [splice]
      rw [e0] at h3
      rw [h3, e1]
      refine ih _ _ (i + 1) (by omega) (by omega) (by omega) ?_
      have hl : (splice D p.f0.toNat p.f1).length = D.length := length_splice _ _ _ (by omega)
      simp only [diskB, hl] at hd ⊢
      exact hd
    · rw [if_neg hn, Option.bind_some, Option.bind_some, if_neg (by simp; omega)]
      dsimp only
      rw [if_pos rfl, e1]
      exact ih k D (i + 1) (by omega) (by omega) (by omega) hd
theorem runs_true (s : Int) (hs : 0 ≤ s) (hs2 : s ≤ 255) (x1 : List S43) (hb : ∀ p ∈ x1, p.f1.length ≤ 140737488351232) (a b : Int) : tinderlaw20_BlockRuns.f 3000000 s x1 a b = some true := by
  have e1 : wrap64 s = s := by unfold wrap64; omega
  have e2 : Int.tmod s 8 = s % 8 := Int.tmod_eq_emod_of_nonneg hs
  have e3 : wrap64 (512 * (s % 8)) = 512 * (s % 8) := by unfold wrap64; omega
  unfold tinderlaw20_BlockRuns.f
  rw [alive20 _ (by omega), Option.bind_some, if_pos rfl, e1, e2, e3]
  by_cases h : (x1.length : Int) > 60
  · rw [if_pos h]
  · rw [if_neg h, if_pos (by omega), if_pos (by omega), Option.bind_some, ref04_Copy_eq _ (by simp; omega), Option.bind_some]
    refine runs_go x1 (by omega) hb a b 40000 (Nat.le_refl _) x1.length _ _ 0 (by omega) (by omega) ?_ (by simp [diskB]; omega)
    have : x1.length * 40000 ≤ 60 * 40000 := Nat.mul_le_mul_right _ (by omega)
    refine Nat.le_trans (Nat.add_le_add_right (Nat.add_le_add_right this _) _) (by decide)
theorem blockRuns_row (s : Int) (hs : (Lit.int .u8 s).wf = true) (A1 : Option Addr) (c1 : Nat) (l1 : List S43) {w : World} (hr1 : Kd.C k43 w A1 l1.length l1) (hc1 : l1.length ≤ c1) (hg : l1.length * 32 ≤ 140737488351232 ∧ ∀ p ∈ l1, (Lit.int .i64 p.f0).wf = true ∧ (p.f1.length * 1 ≤ 140737488351232 ∧ ∀ a ∈ p.f1, (Lit.int .u8 a).wf = true)) (x y : Int) (_g : ∀ a ∈ [x, y], (Lit.int .i64 a).wf = true) :
    Calls Try.prog 7 #[.int .u8 s, .slice A1 l1.length c1, .agg #[.int .i64 x, .int .i64 y]] w fun e w' => e = .returned (.bool true) ∧ Below w.heap.size w w' := by
  have h := bounds_u8 hs
  exact tinderlaw20_BlockRuns.calls 3000000 s A1 c1 l1 x y true w hr1 hc1 (runs_true s h.1 h.2 l1 (fun p hp => by have := (hg.2 p hp).2.1; omega) x y)
end Go.Proofs.Ytpjlhehmobhijaa.Q
