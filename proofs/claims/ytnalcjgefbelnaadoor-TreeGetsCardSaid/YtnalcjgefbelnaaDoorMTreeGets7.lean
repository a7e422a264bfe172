/- Contracts of Go functions and plain facts, of several texts, one behind the other; no condition. -/
import Derived.Test.YtnalcjgefbelnaaDoorMTreeGets5
import Derived.Test.YtnalcjgefbelnaaDoorMTreeGets6
section
set_option linter.unusedSimpArgs false
set_option linter.unusedVariables false
namespace Go.Proofs.YtnalcjgefbelnaaDoor.Q
open Go.RowKit Go.Proofs.YtnalcjgefbelnaaDoorW.PrintWords Go.Proofs.YtnalcjgefbelnaaDoorW.PrintLast
/-- What Get answers. -/
def getF (t : List S44) (n : Int) (s : ByteArray) : List Int × Int := if plcF t n s < 0 then ([], 2) else ((rd_T53 (rd_T44 t n).f3 (plcF t n s)).f1, 0)
/-- The name at a place, or none behind the last. -/
def nameF (l : List S53) (i : Int) : ByteArray := if i < l.length then (rd_T53 l i).f0 else ⟨#[]⟩
def nextF (t : List S44) (n : Int) (s : ByteArray) : ByteArray × Int := if plcF t n s < 0 ∧ s.toList ≠ [] then (⟨#[]⟩, 2) else (nameF (rd_T44 t n).f3 (plcF t n s + 1), 0)
theorem plc_range (t : List S44) (n : Int) (s : ByteArray) : -1 ≤ plcF t n s ∧ plcF t n s < (rd_T44 t n).f3.length := idxP_range _ _
theorem place_eq8 {t : List S44} {n : Int} (s : ByteArray) (he : tree_check.f t n = some 0) : tree_place.f t n s = some (if plcF t n s < 0 then (0, 2) else (plcF t n s, 0)) := by
  unfold tree_place.f
  rw [he, Option.bind_some, if_pos rfl]
  split <;> rfl
theorem place_bad {t : List S44} {n e : Int} (s : ByteArray) (he : tree_check.f t n = some e) (h0 : e ≠ 0) : tree_place.f t n s = some (0, e) := by
  unfold tree_place.f
  rw [he, Option.bind_some, if_neg h0]
theorem check_kinds {t : List S44} {n e : Int} (he : tree_check.f t n = some e) : e = 0 ∨ e = 1 ∨ e = 19 := by
  unfold tree_check.f tree_Formed.f at he
  rw [Option.bind_some] at he
  split at he
  · split at he
    · exact .inr (.inr (Option.some.inj he).symm)
    · split at he
      · exact .inr (.inr (Option.some.inj he).symm)
      · exact .inl (Option.some.inj he).symm
  · exact .inr (.inl (Option.some.inj he).symm)
theorem props_len {l : List S53} (h : propsF l = true) : l.length ≤ 16 := by
  unfold propsF at h
  simp only [Bool.and_eq_true, decide_eq_true_eq] at h
  exact h.1
theorem get_eq {t : List S44} (h : GoodT t) {n : Int} (s : ByteArray) (he : tree_check.f t n = some 0) : tree_Get.f t n s = some (getF t n s) := by
  obtain ⟨h0, h1⟩ := check_in he
  have hr := plc_range t n s
  unfold tree_Get.f getF
  rw [place_eq8 s he, Option.bind_some]
  by_cases hp : plcF t n s < 0
  · rw [if_pos hp, if_pos hp]
    rfl
  · rw [if_neg hp, if_neg hp, if_pos rfl, if_pos h0, if_pos h1, if_pos (by show (0 : Int) ≤ plcF t n s; omega), if_pos hr.2]
    have hg := (h.2 _ (rd44_mem t n h0 h1)).2.2.2 _ (rd53_mem (rd_T44 t n).f3 (plcF t n s) (by omega) hr.2)
    rw [show slices_Clone_byte_byte.f (rd_T53 (rd_T44 t n).f3 (plcF t n s)).f1 = some (rd_T53 (rd_T44 t n).f3 (plcF t n s)).f1 from by unfold slices_Clone_byte_byte.f; rw [if_pos hg]]
    rfl
theorem get_bad {t : List S44} {n e : Int} (s : ByteArray) (he : tree_check.f t n = some e) (h0 : e ≠ 0) : tree_Get.f t n s = some ([], e) := by
  unfold tree_Get.f
  rw [place_bad s he h0, Option.bind_some, if_neg h0]
theorem refget_eq {t : List S44} (h : GoodT t) {n : Int} (s : ByteArray) (he : tree_check.f t n = some 0) (k : Nat) (hk : 1000000000000000000000000000000 ≤ k) : tinderref08_Get.f k t n s = some (getF t n s) := by
  obtain ⟨h0, h1⟩ := check_in he
  have hr := plc_range t n s
  have hp3 := props_len (node_props (check_form he) n h0 h1)
  unfold tinderref08_Get.f getF
  rw [wrong_eq h n k hk, he, Option.bind_some, if_pos rfl, if_pos h0, if_pos h1, pfind_eq _ s (by omega) k (by omega), Option.bind_some]
  rw [show idxP (isP s) (rd_T44 t n).f3 = plcF t n s from rfl]
  by_cases hp : plcF t n s < 0
  · rw [if_pos hp, if_pos hp]
  · rw [if_neg hp, if_neg hp, if_pos (by omega), if_pos hr.2]
    have hg := (h.2 _ (rd44_mem t n h0 h1)).2.2.2 _ (rd53_mem (rd_T44 t n).f3 (plcF t n s) (by omega) hr.2)
    rw [copy4_eq _ hg]
    rfl
theorem refget_bad {t : List S44} (h : GoodT t) {n e : Int} (s : ByteArray) (he : tree_check.f t n = some e) (h0 : e ≠ 0) (k : Nat) (hk : 1000000000000000000000000000000 ≤ k) : tinderref08_Get.f k t n s = some ([], e) := by
  unfold tinderref08_Get.f
  rw [wrong_eq h n k hk, he, Option.bind_some, if_neg h0]
theorem next_bad {t : List S44} {n e : Int} (s : ByteArray) (he : tree_check.f t n = some e) (h0 : e ≠ 0) (k : Nat) (hk : 1 ≤ k) : tree_Next.f k t n s = some (⟨#[]⟩, e) := by
  obtain ⟨k, rfl⟩ : ∃ m, k = m + 1 := ⟨k - 1, by omega⟩
  have hk2 := check_kinds he
  unfold tree_Next.f
  rw [place_bad s he h0, Option.bind_some, if_neg (show ¬ e = 2 by omega), tree_Next.j0, if_neg Bool.false_ne_true, if_neg h0]
theorem next_eq {t : List S44} {n : Int} (s : ByteArray) (he : tree_check.f t n = some 0) (k : Nat) (hk : 1 ≤ k) : tree_Next.f k t n s = some (nextF t n s) := by
  obtain ⟨k, rfl⟩ : ∃ m, k = m + 1 := ⟨k - 1, by omega⟩
  obtain ⟨h0, h1⟩ := check_in he
  have hr := plc_range t n s
  have hp3 := props_len (node_props (check_form he) n h0 h1)
  unfold tree_Next.f nextF nameF
  rw [place_eq8 s he, Option.bind_some]
  by_cases hp : plcF t n s < 0
  · have e1 : plcF t n s = -1 := by omega
    rw [if_pos hp, if_pos rfl]
    by_cases hs : s.toList = []
    · rw [beq_iff_eq.2 hs, tree_Next.j0, if_pos rfl, if_pos h0, if_pos h1, if_neg (show ¬ (plcF t n s < 0 ∧ s.toList ≠ []) from fun h => h.2 hs), e1]
      by_cases hl : ((-1 : Int) + 1) = ((rd_T44 t n).f3.length : Int)
      · rw [if_pos hl, if_neg (by omega)]
      · rw [if_neg hl, if_pos (by decide), if_pos (by omega), if_pos (by omega)]
    · rw [beq_eq_false_iff_ne.2 hs, tree_Next.j0, if_neg Bool.false_ne_true, if_neg (by decide), if_pos ⟨hp, hs⟩]
  · rw [if_neg hp, if_neg (show ¬ ((0 : Int) = 2) by decide), tree_Next.j0, if_neg Bool.false_ne_true, if_pos rfl, if_pos h0, if_pos h1, if_neg (show ¬ (plcF t n s < 0 ∧ s.toList ≠ []) from fun h => hp h.1)]
    have hw : wrap64 (plcF t n s + 1) = plcF t n s + 1 := by unfold wrap64; omega
    show (if wrap64 (plcF t n s + 1) = ((rd_T44 t n).f3.length : Int) then _ else _) = _
    rw [hw]
    by_cases hl : plcF t n s + 1 = ((rd_T44 t n).f3.length : Int)
    · rw [if_pos hl, if_neg (by omega)]
    · rw [if_neg hl, if_pos (by omega), if_pos (by omega), if_pos (by omega)]
theorem refnext_bad {t : List S44} (h : GoodT t) {n e : Int} (s : ByteArray) (he : tree_check.f t n = some e) (h0 : e ≠ 0) (k : Nat) (hk : 1000000000000000000000000000000 ≤ k) : tinderref08_Next.f k t n s = some (⟨#[]⟩, e) := by
  unfold tinderref08_Next.f
  rw [wrong_eq h n k hk, he, Option.bind_some, if_neg h0]
theorem refnext_eq {t : List S44} (h : GoodT t) {n : Int} (s : ByteArray) (he : tree_check.f t n = some 0) (k : Nat) (hk : 1000000000000000000000000000000 ≤ k) : tinderref08_Next.f k t n s = some (nextF t n s) := by
  obtain ⟨h0, h1⟩ := check_in he
  have hr := plc_range t n s
  have hp3 := props_len (node_props (check_form he) n h0 h1)
  obtain ⟨j, hj⟩ : ∃ j, k = j + 1 := ⟨k - 1, by omega⟩
  have hj0 : ∀ i b, tinderref08_Next.j0 k t n i b = tinderref08_Next.j0 (j + 1) t n i b := fun i b => by rw [hj]
  have hw : wrap64 (plcF t n s + 1) = plcF t n s + 1 := by unfold wrap64; omega
  have tail : tinderref08_Next.j0 k t n (plcF t n s) false = some (nameF (rd_T44 t n).f3 (plcF t n s + 1), 0) := by
    rw [hj0, tinderref08_Next.j0, if_neg Bool.false_ne_true, if_pos h0, if_pos h1, hw]
    unfold nameF
    by_cases hl : plcF t n s + 1 < ((rd_T44 t n).f3.length : Int)
    · rw [if_pos hl, if_pos (by omega), if_pos hl]
    · rw [if_neg hl, if_neg hl]
  unfold tinderref08_Next.f nextF
  rw [wrong_eq h n k hk, he, Option.bind_some, if_pos rfl, if_pos h0, if_pos h1, pfind_eq _ s (by omega) k (by omega), Option.bind_some]
  rw [show idxP (isP s) (rd_T44 t n).f3 = plcF t n s from rfl]
  by_cases hp : plcF t n s < 0
  · rw [if_pos hp]
    by_cases hs : s.toList = []
    · rw [show (s.toList != ([] : List UInt8)) = false from by rw [hs]; rfl, tail, if_neg (show ¬ (plcF t n s < 0 ∧ s.toList ≠ []) from fun h => h.2 hs)]
    · rw [show (s.toList != ([] : List UInt8)) = true from bne_iff_ne.2 hs, hj0, tinderref08_Next.j0, if_pos rfl, if_pos ⟨hp, hs⟩]
  · rw [if_neg hp, tail, if_neg (show ¬ (plcF t n s < 0 ∧ s.toList ≠ []) from fun h => hp h.1)]
theorem childs_go (t : List S44) (n : Int) (ht : t.length < 1466015503701) : ∀ (d k : Nat) (i : Int) (acc : List Int), 0 ≤ i → i + d = t.length → acc.length ≤ i.toNat → d < k → ∃ L, tree_Children.l0 k n acc t (t.length : Int) i = some L ∧ tinderref08_Children.l0 k t n acc i = some L ∧ L.length ≤ t.length
  | 0, k, i, acc, h0, h1, ha, hk => by
    obtain ⟨k, rfl⟩ : ∃ m, k = m + 1 := ⟨k - 1, by omega⟩
    exact ⟨acc, by rw [tree_Children.l0, if_neg (by omega)], by rw [tinderref08_Children.l0, if_neg (by omega)], by omega⟩
  | d + 1, k, i, acc, h0, h1, ha, hk => by
    obtain ⟨k, rfl⟩ : ∃ m, k = m + 1 := ⟨k - 1, by omega⟩
    have hw : wrap64 (i + 1) = i + 1 := by unfold wrap64; omega
    obtain ⟨L1, a1, b1, c1⟩ := childs_go t n ht d k (i + 1) acc (by omega) (by omega) (by omega) (by omega)
    obtain ⟨L2, a2, b2, c2⟩ := childs_go t n ht d k (i + 1) (acc ++ [i]) (by omega) (by omega) (by rw [List.length_append, List.length_singleton]; omega) (by omega)
    rw [tree_Children.l0, if_pos (show i < (t.length : Int) by omega), if_pos h0, if_pos (show i < (t.length : Int) by omega), hw, tinderref08_Children.l0, if_pos (show i < (t.length : Int) by omega), hw]
    by_cases hn : n ≥ 0
    · rw [if_pos hn, if_pos hn, if_pos h0]
      by_cases hx : (rd_T44 t i).f2 = n
      · rw [if_pos hx, if_pos hx, if_pos (by omega), if_pos (by omega)]
        exact ⟨L2, a2, b2, c2⟩
      · rw [if_neg hx, if_neg hx]
        exact ⟨L1, a1, b1, c1⟩
    · rw [if_neg hn, if_neg hn]
      exact ⟨L1, a1, b1, c1⟩
theorem childs_eq (t : List S44) (n : Int) (ht : t.length < 1466015503701) (k : Nat) (hk : t.length < k) : ∃ L, tree_Children.f k t n = some L ∧ tinderref08_Children.f k t n = some L ∧ L.length ≤ t.length :=
  childs_go t n ht t.length k 0 [] (Int.le_refl _) (by omega) (Nat.le_refl _) hk
theorem ints_go (L : List Int) (hl : L.length ≤ 1000000000000000) : ∀ (d k : Nat) (i : Int), 0 ≤ i → i + d = L.length → d < k → tinderlaw08_ints.l0 k L L i = some true
  | 0, k, i, h0, h1, hk => by
    obtain ⟨k, rfl⟩ : ∃ m, k = m + 1 := ⟨k - 1, by omega⟩
    rw [tinderlaw08_ints.l0, if_neg (by omega)]
  | d + 1, k, i, h0, h1, hk => by
    obtain ⟨k, rfl⟩ : ∃ m, k = m + 1 := ⟨k - 1, by omega⟩
    have hw : wrap64 (i + 1) = i + 1 := by unfold wrap64; omega
    rw [tinderlaw08_ints.l0, if_pos (by omega), if_pos h0, if_pos (by omega), if_pos rfl, hw]
    exact ints_go L hl d k (i + 1) (by omega) (by omega) (by omega)
theorem ints_eq (L : List Int) (hl : L.length ≤ 1000000000000000) (k : Nat) (hk : L.length < k) : tinderlaw08_ints.f k L L = some true := by
  unfold tinderlaw08_ints.f
  rw [if_pos rfl]
  exact ints_go L hl L.length k 0 (Int.le_refl _) (by omega) hk
end Go.Proofs.YtnalcjgefbelnaaDoor.Q
end
