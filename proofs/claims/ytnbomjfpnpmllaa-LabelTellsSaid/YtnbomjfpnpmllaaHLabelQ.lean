/- The label's plain law: what is a label is what the reference makes again; a byte that is another one. -/
import Derived.Test.YtnbomjfpnpmllaaHAlive
import Derived.Test.YtnbomjfpnpmllaaQTinderref21Select
set_option linter.unusedSimpArgs false
set_option linter.unusedVariables false
namespace Go.Proofs.Ytnbomjfpnpmllaa.Q
open Go.RowKit Go.Proofs.YtnbomjfpnpmllaaW.PrintWords Go.Proofs.YtnbomjfpnpmllaaW.PrintLast Go.Proofs.YtnbomjfpnpmllaaW.PrintMore
theorem strOf_inj {a b : List Int} (ha : Bytes a) (hb : Bytes b) (h : strOfNums a = strOfNums b) : a = b := by
  have h2 : (strOfNums a).data.toList = (strOfNums b).data.toList := by rw [h]
  rw [strOfNums_data, strOfNums_data] at h2
  apply List.ext_getElem?
  intro i
  have h3 := congrArg (fun l => l[i]?) h2
  simp only [List.getElem?_map] at h3
  cases hx : a[i]? with
  | none => rw [hx] at h3; cases hy : b[i]? with
    | none => rfl
    | some y => rw [hy] at h3; simp at h3
  | some x => rw [hx] at h3; cases hy : b[i]? with
    | none => rw [hy] at h3; simp at h3
    | some y =>
      rw [hy] at h3
      simp only [Option.map_some, Option.some.injEq] at h3
      have h4 := congrArg UInt8.toNat h3
      have bx := ha x (List.mem_of_getElem? hx)
      have by' := hb y (List.mem_of_getElem? hy)
      rw [UInt8.toNat_ofNat', UInt8.toNat_ofNat'] at h4
      have : x = y := by omega
      rw [this]
theorem rd_take (l : List Int) (n : Nat) (i : Int) (hi : i.toNat < n) : rd (l.take n) i = rd l i := by
  unfold rd
  rw [List.getD_eq_getElem?_getD, List.getElem?_take, if_pos hi, ← List.getD_eq_getElem?_getD]
theorem rd_drop (l : List Int) (n : Nat) (i : Int) (h0 : 0 ≤ i) : rd (l.drop n) i = rd l (n + i) := by
  unfold rd
  rw [List.getD_eq_getElem?_getD, List.getElem?_drop, ← List.getD_eq_getElem?_getD, show ((n : Int) + i).toNat = n + i.toNat by omega]
theorem parts_eq (l : List Int) (h : l.length = 512) (hb : Bytes l) : partsN l = partsB l := by
  unfold partsN partsB
  refine List.map_congr_left fun i hi => ?_
  have hi8 := List.mem_range.1 hi
  rw [partsN_of l h i hi8]
  have hv : ∀ m, 4 * m + 4 ≤ 64 → numF (fourAt (l.take 64) m) = numB (l.drop (4 * m)) := fun m hm => by
    have hf : ∀ j : Int, 0 ≤ j → j < 4 → rd (fourAt (l.take 64) m) j = rd (l.drop (4 * m)) j := fun j h0 h4 => by
      unfold fourAt
      rw [rd_take _ _ _ (by omega), rd_drop _ _ _ h0, rd_take _ _ _ (by omega), rd_drop _ _ _ h0]
    rw [numF_eq (fourAt (l.take 64) m) (((hb.take 64).drop _).take _), numB_eq _ (hb.drop _), hf 0 (by omega) (by omega), hf 1 (by omega) (by omega), hf 2 (by omega) (by omega), hf 3 (by omega) (by omega)]
  unfold partB
  rw [hv (2 * i) (by omega), hv (2 * i + 1) (by omega), show 4 * (2 * i) = 8 * i by omega, show 4 * (2 * i + 1) = 8 * i + 4 by omega]
theorem head_of (l : List Int) (hb : Bytes l) : ∀ n, 8 * n ≤ l.length → headF ((List.range n).map (partB l)) = l.take (8 * n)
  | 0, _ => by simp [headF]
  | n + 1, h => by
    have ih := head_of l hb n (by omega)
    have e : headF ((List.range (n + 1)).map (partB l)) = headF ((List.range n).map (partB l)) ++ (fourF (numB (l.drop (8 * n))) ++ fourF (numB (l.drop (8 * n + 4)))) := by
      rw [List.range_succ, List.map_append]
      unfold headF
      rw [List.flatMap_append]
      simp [partB]
    rw [e, ih, four_numB _ (hb.drop _) (by rw [List.length_drop]; omega), four_numB _ (hb.drop _) (by rw [List.length_drop]; omega)]
    apply List.ext_getElem?
    intro i
    have l1 : (l.take (8 * n)).length = 8 * n := by rw [List.length_take]; omega
    have l2 : ((l.drop (8 * n)).take 4).length = 4 := by rw [List.length_take, List.length_drop]; omega
    rw [List.getElem?_append, l1]
    by_cases h1 : i < 8 * n
    · rw [if_pos h1, List.getElem?_take, if_pos h1, List.getElem?_take, if_pos (by omega)]
    · rw [if_neg h1, List.getElem?_append, l2]
      by_cases h2 : i - 8 * n < 4
      · rw [if_pos h2, List.getElem?_take, if_pos h2, List.getElem?_drop, List.getElem?_take, if_pos (by omega), show 8 * n + (i - 8 * n) = i by omega]
      · rw [if_neg h2]
        by_cases h3 : i < 8 * (n + 1)
        · rw [List.getElem?_take, if_pos (by omega), List.getElem?_drop, List.getElem?_take, if_pos h3, show 8 * n + 4 + (i - 8 * n - 4) = i by omega]
        · rw [List.getElem?_take, if_neg (by omega), List.getElem?_take, if_neg h3]
theorem zeros_of (l : List Int) (h : anyNZ l = false) : l = zerosL l.length := by
  unfold zerosL
  refine List.eq_replicate_iff.2 ⟨rfl, fun a ha => ?_⟩
  unfold anyNZ at h
  have := List.any_eq_false.1 h a ha
  simpa using this
theorem label_of_good (l : List Int) (hl : l.length = 512) (hb : Bytes l) (hg : goodF l = true) : labelF (partsB l) = l := by
  unfold goodF at hg
  simp only [Bool.and_eq_true, decide_eq_true_eq, Bool.not_eq_true'] at hg
  obtain ⟨⟨⟨h1, h2⟩, h3⟩, h4⟩ := hg
  have hz := zeros_of _ h4
  have e444 : ((l.drop 64).take 444).length = 444 := by rw [List.length_take, List.length_drop]; omega
  rw [e444] at hz
  have hd : l.drop 508 = [rd l 508, rd l 509, rd l 510, rd l 511] := by
    have hdl : (l.drop 508).length = 4 := by rw [List.length_drop]; omega
    have r0 := rd_drop l 508 0 (by omega)
    have r1 := rd_drop l 508 1 (by omega)
    have r2 := rd_drop l 508 2 (by omega)
    have r3 := rd_drop l 508 3 (by omega)
    rw [show ((508 : Nat) : Int) + 0 = 508 by rfl] at r0
    rw [show ((508 : Nat) : Int) + 1 = 509 by rfl] at r1
    rw [show ((508 : Nat) : Int) + 2 = 510 by rfl] at r2
    rw [show ((508 : Nat) : Int) + 3 = 511 by rfl] at r3
    rw [← r0, ← r1, ← r2, ← r3]
    match l.drop 508, hdl with
    | [a, b, c, d], _ => rfl
  have hY : bodyF (partsB l) = l.take 64 ++ zerosL 444 ++ [218, 190] := by
    rw [bodyF_eq _ (partsB_len l)]
    unfold partsB
    rw [head_of l hb 8 (by omega)]
  have hll : l = (l.take 64 ++ zerosL 444 ++ [218, 190]) ++ [rd l 510, rd l 511] := by
    conv => lhs; rw [← List.take_append_drop 64 l, ← List.take_append_drop 444 (l.drop 64), hz, List.drop_drop, show 64 + 444 = 508 from rfl, hd, h2, h3]
    simp only [List.append_assoc]
    rfl
  have hY510 : (bodyF (partsB l)).length = 510 := bodyF_len _ (partsB_len l)
  rw [← hY] at hll
  have hx : crossF l = (xorB (crossF (bodyF (partsB l))).1 (rd l 510), xorB (crossF (bodyF (partsB l))).2 (rd l 511)) := by
    conv => lhs; rw [hll]
    exact cross_snoc _ _ _ hY510
  rw [h1] at hx
  have hc := crossAt_isB (bodyF_bytes (partsB l)) (bodyF (partsB l)).length
  have e1 := xorB_eq hc.1 (rd_isB hb 510) (Prod.ext_iff.1 hx).1.symm
  have e2 := xorB_eq hc.2 (rd_isB hb 511) (Prod.ext_iff.1 hx).2.symm
  unfold labelF
  conv => rhs; rw [hll, e1, e2]
  rfl
theorem parse_ref (l : List Int) (hb : Bytes l) : refParseF l = parseF l := by
  unfold refParseF parseF
  by_cases hl : l.length = 512
  · rw [if_pos hl, if_pos hl]
    by_cases hg : goodF l = true
    · rw [if_pos hg, label_of_good l hl hb hg, if_pos rfl, parts_eq l hl hb]
    · rw [if_neg hg, if_neg]
      intro h
      refine hg ?_
      rw [← strOf_inj (labelF_bytes (partsB l)) hb h]
      exact labelF_good _ (partsB_len l)
  · rw [if_neg hl, if_neg hl]
/-! one byte -/
theorem set_getD (l : List Int) (k i : Nat) (v : Int) (hk : k < l.length) : (l.set k v).getD i 0 = if i = k then v else l.getD i 0 := by
  rw [List.getD_eq_getElem?_getD, List.getElem?_set]
  split
  · rename_i h
    subst h
    simp [hk]
  · rename_i h
    rw [if_neg (fun e => h e.symm), List.getD_eq_getElem?_getD]
theorem cross_set (l : List Int) (hb : Bytes l) (k : Nat) (hk : k < l.length) (t : Int) (ht : IsB t) : ∀ i, crossAt (l.set k (xorB (l.getD k 0) t)) i = if i ≤ k then crossAt l i else if k % 2 = 0 then (xorB (crossAt l i).1 t, (crossAt l i).2) else ((crossAt l i).1, xorB (crossAt l i).2 t)
  | 0 => rfl
  | i + 1 => by
    have ih := cross_set l hb k hk t ht i
    have hi := crossAt_isB hb i
    have hg := getD_isB hb i
    have hs := set_getD l k i (xorB (l.getD k 0) t) hk
    rcases Nat.lt_trichotomy i k with h | h | h
    · rw [if_pos (show i ≤ k by omega)] at ih
      rw [if_neg (show ¬ i = k by omega)] at hs
      rw [if_pos (show i + 1 ≤ k by omega)]
      by_cases h3 : i % 2 = 0
      · rw [cross_even _ i h3, cross_even _ i h3, ih, hs]
      · rw [cross_odd _ i h3, cross_odd _ i h3, ih, hs]
    · subst h
      rw [if_pos (Nat.le_refl _)] at ih
      rw [if_pos rfl] at hs
      rw [if_neg (show ¬ i + 1 ≤ i by omega)]
      by_cases h3 : i % 2 = 0
      · rw [cross_even _ i h3, cross_even _ i h3, ih, hs, if_pos h3, xorB_assoc3 hi.1 ht hg]
      · rw [cross_odd _ i h3, cross_odd _ i h3, ih, hs, if_neg h3, xorB_assoc3 hi.2 ht hg]
    · rw [if_neg (show ¬ i ≤ k by omega)] at ih
      rw [if_neg (show ¬ i = k by omega)] at hs
      rw [if_neg (show ¬ i + 1 ≤ k by omega)]
      by_cases h3 : i % 2 = 0
      · rw [cross_even _ i h3, cross_even _ i h3, ih, hs]
        by_cases h4 : k % 2 = 0
        · rw [if_pos h4, if_pos h4]
          exact Prod.ext (xorB_comm3 hi.1 ht hg) rfl
        · rw [if_neg h4, if_neg h4]
      · rw [cross_odd _ i h3, cross_odd _ i h3, ih, hs]
        by_cases h4 : k % 2 = 0
        · rw [if_pos h4, if_pos h4]
        · rw [if_neg h4, if_neg h4]
          exact Prod.ext rfl (xorB_comm3 hi.2 ht hg)
theorem tell_label (l : List Int) (hb : Bytes l) (hl : l.length = 512) (hg : goodF l = true) (k : Nat) (hk : k < 512) (t : Int) (ht : IsB t) (hne : t ≠ 0) : (parseF (l.set k (xorB (l.getD k 0) t))).2 = 24 := by
  have hc : crossF l = (0, 0) := by
    unfold goodF at hg
    simp only [Bool.and_eq_true, decide_eq_true_eq] at hg
    exact hg.1.1.1
  unfold parseF
  rw [if_pos (by rw [List.length_set, hl]), if_neg]
  intro h
  unfold goodF at h
  simp only [Bool.and_eq_true, decide_eq_true_eq] at h
  have h1 := h.1.1.1
  unfold crossF at h1 hc
  rw [List.length_set, hl, cross_set l hb k (by omega) t ht 512, if_neg (by omega)] at h1
  rw [hl] at hc
  rw [hc] at h1
  split at h1
  · have := (Prod.ext_iff.1 h1).1
    rw [show xorB (0, (0 : Int)).1 t = t from xorB_zero ht] at this
    exact hne this
  · have := (Prod.ext_iff.1 h1).2
    rw [show xorB ((0 : Int), (0 : Int)).2 t = t from xorB_zero ht] at this
    exact hne this
/-! Select -/
theorem str_len (s : ByteArray) : s.data.toList.length = s.size := Array.length_toList
theorem bt_list (s : ByteArray) (i : Nat) : bt s i = ((s.data.toList.getD i 0).toNat : Int) := by
  unfold bt
  rw [List.getD_eq_getElem?_getD]
  by_cases h : i < s.size
  · rw [dif_pos (by simpa using h), List.getElem?_eq_getElem (by rw [str_len]; exact h)]
    rfl
  · rw [dif_neg (by simpa using h), List.getElem?_eq_none (by rw [str_len]; omega)]
    rfl
theorem ext_list (s : ByteArray) (a b : Nat) : (s.extract a b).data.toList = (s.data.toList.drop a).take (b - a) := Go.Lib.extract_data s a b
theorem ext_size (s : ByteArray) (b : Nat) (h : b ≤ s.size) : (s.extract 0 b).size = b := by
  rw [← str_len, ext_list, List.drop_zero, List.length_take, str_len]; omega
theorem ext_bt (s : ByteArray) (b : Nat) (hb : 0 < b) : bt (s.extract 0 b) 0 = bt s 0 := by
  have e1 := bt_list (s.extract 0 b) 0
  have e2 := bt_list s 0
  rw [ext_list, List.drop_zero, List.getD_eq_getElem?_getD, List.getElem?_take, if_pos (by omega), ← List.getD_eq_getElem?_getD] at e1
  exact e1.trans e2.symm
theorem ext_nil (s : ByteArray) (a : Nat) (h : s.size ≤ a) : s.extract a s.size = ⟨#[]⟩ := by
  apply ByteArray.ext
  apply Array.ext'
  rw [ext_list, show s.size - a = 0 by omega, List.take_zero]
theorem comma_at (s : ByteArray) (i : Nat) (hi : i < s.size) : s.data.toList[i]? = some 44 ↔ bt s i = 44 := by
  rw [bt_list, List.getD_eq_getElem?_getD, List.getElem?_eq_getElem (by rw [str_len]; exact hi)]
  constructor
  · intro h
    rw [Option.some.inj h]
    rfl
  · intro h
    simp only [Option.getD_some] at h
    congr 1
    apply UInt8.toNat_inj.1
    have : (s.data.toList[i]).toNat = 44 := by omega
    rw [this]
    rfl
theorem j0_true (s : ByteArray) : tinderref21_Select.j0 5 s true = some (0, ⟨#[]⟩, 15) := rfl
theorem j0_false (s : ByteArray) : tinderref21_Select.j0 5 s false = (if (s.size : Int) > 2 then (if 0 < (s.size : Int) then (if 2 ≤ (s.size : Int) then (some (((bt s 0) - 97) % 256, s.extract 2 s.size, 0)) else (none)) else (none)) else (if 0 < (s.size : Int) then (some (((bt s 0) - 97) % 256, (⟨#[]⟩ : ByteArray), 0)) else (none))) := rfl
theorem refSel_eq (s : ByteArray) : tinderref21_Select.f 5 s = some (selF s) := by
  unfold tinderref21_Select.f selF
  by_cases h0 : s.size = 0
  · rw [if_pos ((empty_str s).2 h0), if_pos h0]
  · rw [if_neg (fun h => h0 ((empty_str s).1 h)), if_neg h0, if_pos (by omega)]
    have hb := bt_range s 0
    have hm : (97 ≤ bt s 0 ∧ bt s 0 ≤ 104) → (bt s 0 - 97) % 256 = bt s 0 - 97 := fun h => by omega
    have hge : -1 ≤ ixF s := Lib.indexByte_ge _ _
    by_cases hlo : bt s 0 < 97
    · rw [if_pos hlo]
      rw [j0_true, if_neg]
      rintro ⟨h1, h2, h3⟩
      by_cases hx : 0 ≤ ixF s
      · unfold letterF at h1 h2
        rw [if_pos hx] at h1 h2
        rw [ext_size _ _ (by have := ix_lt s hx; omega)] at h1
        rw [ext_bt _ _ (by omega)] at h2
        omega
      · unfold letterF at h2
        rw [if_neg hx] at h2
        omega
    · rw [if_neg hlo]
      by_cases hhi : bt s 0 > 104
      · rw [if_pos hhi]
        rw [j0_true, if_neg]
        rintro ⟨h1, h2, h3⟩
        by_cases hx : 0 ≤ ixF s
        · unfold letterF at h1 h3
          rw [if_pos hx] at h1 h3
          rw [ext_size _ _ (by have := ix_lt s hx; omega)] at h1
          rw [ext_bt _ _ (by omega)] at h3
          omega
        · unfold letterF at h3
          rw [if_neg hx] at h3
          omega
      · rw [if_neg hhi]
        have hm := hm (by omega)
        by_cases h1 : (s.size : Int) > 1
        · rw [if_pos h1, if_pos (by omega)]
          by_cases hc : bt s 1 = 44
          · have hx1 : ixF s = 1 := by
              have hc' := (comma_at s 1 (by omega)).2 hc
              by_cases hx : ixF s = -1
              · exact absurd hc' (Lib.indexByte_none hx 1)
              · obtain ⟨o, ho⟩ := Int.eq_ofNat_of_zero_le (show 0 ≤ ixF s by omega)
                have h2 := Lib.indexByte_some ho
                have ho1 : o ≤ 1 := by
                  rcases Nat.lt_or_ge 1 o with h3 | h3
                  · exact absurd hc' (h2.2 1 h3)
                  · exact h3
                have ho0 : o ≠ 0 := fun e => by
                  have h3 := (comma_at s 0 (by omega)).1 (e ▸ h2.1)
                  have : bt s ((0 : Nat) : Int) = bt s 0 := rfl
                  omega
                omega
            have hb1 : (bt s 1 != 44) = false := by rw [hc]; rfl
            rw [hb1, j0_false]
            have hL : letterF s = s.extract 0 1 := by unfold letterF; rw [hx1]; rfl
            have hRr : restF s = s.extract 2 s.size := by unfold restF; rw [hx1]; rfl
            by_cases h2 : (s.size : Int) > 2
            · rw [if_pos h2, if_pos (by omega), if_pos (by omega), hm, hL, hRr, ext_size _ _ (by omega), ext_bt _ _ (by decide), if_pos ⟨rfl, by omega, by omega⟩]
            · rw [if_neg h2, if_pos (by omega), hm, hL, hRr, ext_size _ _ (by omega), ext_bt _ _ (by decide), if_pos ⟨rfl, by omega, by omega⟩, ext_nil s 2 (by omega)]
          · have hb1 : (bt s 1 != 44) = true := bne_iff_ne.2 hc
            rw [hb1, j0_true, if_neg]
            rintro ⟨h2, _, _⟩
            unfold letterF at h2
            by_cases hx : 0 ≤ ixF s
            · rw [if_pos hx, ext_size _ _ (by have := ix_lt s hx; omega)] at h2
              have h3 := (Lib.indexByte_some (show Lib.indexByte s.data.toList 44 = ((1 : Nat) : Int) by show ixF s = _; omega)).1
              exact hc ((comma_at s 1 (by omega)).1 h3)
            · rw [if_neg hx] at h2
              omega
        · rw [if_neg h1]
          rw [j0_false, if_neg (by omega), if_pos (by omega), hm]
          have hx : ¬ 0 ≤ ixF s := fun hx => by
            have hlt := ix_lt s hx
            have h3 := (Lib.indexByte_some (show Lib.indexByte s.data.toList 44 = ((0 : Nat) : Int) by show ixF s = _; omega)).1
            have h4 := (comma_at s 0 (by omega)).1 h3
            have : bt s ((0 : Nat) : Int) = bt s 0 := rfl
            omega
          unfold letterF restF
          rw [if_neg hx, if_neg hx, if_pos ⟨by omega, by omega, by omega⟩]
end Go.Proofs.Ytnbomjfpnpmllaa.Q
