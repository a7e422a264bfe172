/- strings.Cut at a comma; label.Select. -/
import Derived.Test.YtnbomjfpnpmllaaHShelf
import Derived.Test.YtnbomjfpnpmllaaHWords
import Derived.Lib.IndexLaws
import Derived.Laws.Cover1
set_option linter.unusedSimpArgs false
set_option linter.unusedVariables false
namespace Go.Proofs.Ytnbomjfpnpmllaa.Q
open Go.RowKit Go.Proofs.YtnbomjfpnpmllaaW.PrintWords Go.Proofs.YtnbomjfpnpmllaaW.PrintLast Go.Proofs.YtnbomjfpnpmllaaW.PrintMore
def comma : ByteArray := ⟨#[44]⟩
def ixF (s : ByteArray) : Int := Lib.indexByte s.data.toList 44
def letterF (s : ByteArray) : ByteArray := if 0 ≤ ixF s then s.extract 0 (ixF s).toNat else s
def restF (s : ByteArray) : ByteArray := if 0 ≤ ixF s then s.extract (ixF s + 1).toNat s.size else ⟨#[]⟩
theorem ix_lt (s : ByteArray) (h : 0 ≤ ixF s) : ixF s < s.size := by
  obtain ⟨o, ho⟩ := Int.eq_ofNat_of_zero_le h
  have h1 := (Lib.indexByte_some ho).1
  have h2 := (List.getElem?_eq_some_iff.1 h1).1
  rw [ho]
  have e : s.data.toList.length = s.size := Array.length_toList
  have : o < s.size := e ▸ h2
  omega
set_option maxHeartbeats 4000000 in
set_option maxRecDepth 100000 in
theorem cut44_calls (s : ByteArray) (w : World) (hs : s.size ≤ 140737488351232) : Calls Try.prog 44 #[.string s, .string ⟨#[44]⟩] w fun e w' => e = .returned (.tuple #[.string (letterF s), .string (restF s), .bool (decide (0 ≤ ixF s))]) ∧ Below w.heap.size w w' := by
  obtain ⟨i, hi⟩ : ∃ i, i = ixF s := ⟨_, rfl⟩
  have HI := Aside0.mk (show ∀ W : World, Calls Try.prog 51 #[.string s, .string ⟨#[44]⟩] W (fun e w' => e = .returned (.int .i64 i) ∧ w' = W) from fun W => by rw [hi]; exact Try.stringslite_Index_one s 44 W)
  have hl : letterF s = if 0 ≤ i then s.extract 0 i.toNat else s := by rw [hi]; rfl
  have hr : restF s = if 0 ≤ i then s.extract (i + 1).toNat s.size else ⟨#[]⟩ := by rw [hi]; rfl
  rw [← hi, hl, hr]
  clear hl hr
  by_cases h0 : 0 ≤ i
  · have hlt := ix_lt s (hi ▸ h0)
    rw [← hi] at hlt
    rw [if_pos h0, if_pos h0]
    have d0 : decide (0 ≤ i) = true := decide_eq_true h0
    have q1 : (0 ≤ i) = True := eq_true h0
    have q2 : (i ≤ (s.size : Int)) = True := eq_true (by omega)
    have q3 : (0 ≤ i + 1) = True := eq_true (by omega)
    have q4 : (i + 1 ≤ (s.size : Int)) = True := eq_true (by omega)
    have q5 : IntKind.i64.wrap (i + 1) = i + 1 := (i64_w _).trans (by unfold wrap64; omega)
    rw [d0]
    clear hi h0 hlt hs
    go_enter Try.func44, Try.ntmps44
    go_wp2_with (go_at_call 51; (with_reducible refine (HI.out _).mono ?_); rintro e w7 ⟨rfl, rfl⟩)
    refine start_ (n := 12) (S := fun _ => True) (ds := []) #[false, false, false, false, false, false, false, false, false, false, false, false] (by kernel_rfl) rfl rfl trivial (fun hHeld => ?_)
    refine pure_ (i := 0) (N := some 13) (v := ?_) (a' := ?_) #[true, false, false, false, false, false, false, false, false, false, false, false] rfl rfl (by kernel_rfl) (fun _ _ _ h => h) (Or.inl ⟨by rfl, ?_⟩) ?_ ?_
    rotate_left
    · intro w'
      go_simp
      with_reducible rfl
    rotate_left
    · simp only [Act.put, List.setIfInBounds_toArray, List.set_cons_zero, List.set_cons_succ]
      rfl
    refine pure_ (i := 1) (N := some 14) (v := ?_) (a' := ?_) #[true, true, false, false, false, false, false, false, false, false, false, false] rfl rfl (by kernel_rfl) (fun _ _ _ h => h) (Or.inl ⟨by rfl, ?_⟩) ?_ ?_
    rotate_left
    · intro w'
      go_simp
      with_reducible rfl
    rotate_left
    · simp only [Act.put, List.setIfInBounds_toArray, List.set_cons_zero, List.set_cons_succ]
      rfl
    refine pure_ (i := 2) (N := some 15) (v := ?_) (a' := ?_) #[true, true, true, false, false, false, false, false, false, false, false, false] rfl rfl (by kernel_rfl) (fun _ _ _ h => h) (Or.inl ⟨by rfl, ?_⟩) ?_ ?_
    rotate_left
    · intro w'
      go_simp
      with_reducible rfl
    rotate_left
    · simp only [Act.put, List.setIfInBounds_toArray, List.set_cons_zero, List.set_cons_succ]
      rfl
    refine pure_ (i := 3) (N := some 16) (v := ?_) (a' := ?_) #[true, true, true, true, false, false, false, false, false, false, false, false] rfl rfl (by kernel_rfl) (fun _ _ _ h => h) (Or.inl ⟨by rfl, ?_⟩) ?_ ?_
    rotate_left
    · intro w'
      go_simp
      with_reducible rfl
    rotate_left
    · simp only [Act.put, List.setIfInBounds_toArray, List.set_cons_zero, List.set_cons_succ]
      rfl
    refine pure_ (i := 4) (N := some 17) (v := ?_) (a' := ?_) #[true, true, true, true, true, false, false, false, false, false, false, false] rfl rfl (by kernel_rfl) (fun _ _ _ h => h) (Or.inl ⟨by rfl, ?_⟩) ?_ ?_
    rotate_left
    · intro w'
      go_simp
      with_reducible rfl
    rotate_left
    · simp only [Act.put, List.setIfInBounds_toArray, List.set_cons_zero, List.set_cons_succ]
      rfl
    refine pure_ (i := 5) (N := some 18) (v := ?_) (a' := ?_) #[true, true, true, true, true, true, false, false, false, false, false, false] rfl rfl (by kernel_rfl) (fun _ _ _ h => h) (Or.inl ⟨by rfl, ?_⟩) ?_ ?_
    rotate_left
    · intro w'
      go_simp
      with_reducible rfl
    rotate_left
    · simp only [Act.put, List.setIfInBounds_toArray, List.set_cons_zero, List.set_cons_succ]
      rfl
    refine pure_ (i := 6) (N := some 19) (v := ?_) (a' := ?_) #[true, true, true, true, true, true, true, false, false, false, false, false] rfl rfl (by kernel_rfl) (fun _ _ _ h => h) (Or.inl ⟨by rfl, ?_⟩) ?_ ?_
    rotate_left
    · intro w'
      go_simp
      with_reducible rfl
    rotate_left
    · simp only [Act.put, List.setIfInBounds_toArray, List.set_cons_zero, List.set_cons_succ]
      rfl
    refine pure_ (i := 7) (N := some 20) (v := ?_) (a' := ?_) #[true, true, true, true, true, true, true, true, false, false, false, false] rfl rfl (by kernel_rfl) (fun _ _ _ h => h) (Or.inl ⟨by rfl, ?_⟩) ?_ ?_
    rotate_left
    · intro w'
      go_simp
      with_reducible rfl
    rotate_left
    · simp only [Act.put, List.setIfInBounds_toArray, List.set_cons_zero, List.set_cons_succ]
      rfl
    refine pure_ (i := 8) (N := some 21) (v := ?_) (a' := ?_) #[true, true, true, true, true, true, true, true, true, false, false, false] rfl rfl (by kernel_rfl) (fun _ _ _ h => h) (Or.inl ⟨by rfl, ?_⟩) ?_ ?_
    rotate_left
    · intro w'
      go_simp
      with_reducible rfl
    rotate_left
    · simp only [Act.put, List.setIfInBounds_toArray, List.set_cons_zero, List.set_cons_succ]
      rfl
    refine pure_ (i := 9) (N := some 4) (v := ?_) (a' := ?_) #[true, true, true, true, true, true, true, true, true, true, false, false] rfl rfl (by kernel_rfl) (fun _ _ _ h => h) (Or.inl ⟨by rfl, ?_⟩) ?_ ?_
    rotate_left
    · intro w'
      go_simp
      with_reducible rfl
    rotate_left
    · simp only [Act.put, List.setIfInBounds_toArray, List.set_cons_zero, List.set_cons_succ]
      rfl
    refine pure_ (i := 10) (N := some 5) (v := ?_) (a' := ?_) #[true, true, true, true, true, true, true, true, true, true, true, false] rfl rfl (by kernel_rfl) (fun _ _ _ h => h) (Or.inl ⟨by rfl, ?_⟩) ?_ ?_
    rotate_left
    · intro w'
      go_simp
      with_reducible rfl
    rotate_left
    · simp only [Act.put, List.setIfInBounds_toArray, List.set_cons_zero, List.set_cons_succ]
      rfl
    refine pure_ (i := 11) (N := some 6) (v := ?_) (a' := ?_) #[true, true, true, true, true, true, true, true, true, true, true, true] rfl rfl (by kernel_rfl) (fun _ _ _ h => h) (Or.inl ⟨by rfl, ?_⟩) ?_ ?_
    rotate_left
    · intro w'
      go_simp
      with_reducible rfl
    rotate_left
    · simp only [Act.put, List.setIfInBounds_toArray, List.set_cons_zero, List.set_cons_succ]
      rfl
    refine done_ (n := 0) (by kernel_rfl) ?_
    go_wp2
    exact bodyPost_ret (results_tmp3 rfl _ _ _) rfl ⟨rfl, below_drew (Below.refl _ _)⟩
  · rw [if_neg h0, if_neg h0]
    have d0 : decide (0 ≤ i) = false := decide_eq_false h0
    rw [d0]
    clear hi h0 hs
    go_enter Try.func44, Try.ntmps44
    go_wp2_with (go_at_call 51; (with_reducible refine (HI.out _).mono ?_); rintro e w7 ⟨rfl, rfl⟩)
    exact bodyPost_ret (results_tmp3 rfl _ _ _) rfl ⟨rfl, Below.refl _ _⟩
theorem cut_calls (s : ByteArray) (w : World) (hs : s.size ≤ 140737488351232) : Calls Try.prog 31 #[.string s, .string ⟨#[44]⟩] w fun e w' => e = .returned (.tuple #[.string (letterF s), .string (restF s), .bool (decide (0 ≤ ixF s))]) ∧ Below w.heap.size w w' := by
  have HC := Aside0.mk (cut44_calls s w hs)
  generalize letterF s = l1 at HC ⊢
  generalize restF s = l2 at HC ⊢
  generalize decide (0 ≤ ixF s) = b at HC ⊢
  clear hs
  go_enter Try.func31, Try.ntmps31
  go_wp2_with (go_at_call 44; (with_reducible refine HC.out.mono ?_); rintro e w7 ⟨rfl, hb⟩; have HB := Aside0.mk hb; clear hb)
  exact bodyPost_ret (results_tmp3 rfl _ _ _) rfl ⟨rfl, HB.out⟩
def selF (s : ByteArray) : Int × ByteArray × Int :=
  if s.size = 0 then (-1, ⟨#[]⟩, 0)
  else if (letterF s).size = 1 ∧ 97 ≤ bt (letterF s) 0 ∧ bt (letterF s) 0 ≤ 104 then (bt (letterF s) 0 - 97, restF s, 0) else (0, ⟨#[]⟩, 15)
theorem one_str (l : ByteArray) (h : l.size = 1) : ∃ c : UInt8, l.toList = [c] ∧ bt l 0 = c.toNat := by
  obtain ⟨⟨L⟩⟩ := l
  have hL : L.length = 1 := h
  match L, hL with
  | [c], _ => exact ⟨c, by rw [ByteArray.toList_eq], rfl⟩
theorem less_one (c d : UInt8) : Op.bytesLess [c] [d] = decide ((c.toNat : Int) < d.toNat) := by
  simp only [Op.bytesLess, Bool.and_false, Bool.or_false]
  refine decide_eq_decide.2 ?_
  rw [UInt8.lt_iff_toNat_lt]
  omega
theorem beq_one (c d : UInt8) : (([c] : List UInt8) == [d]) = decide ((c.toNat : Int) = d.toNat) := by
  by_cases h : c = d
  · subst h; simp
  · have : ¬ ((c.toNat : Int) = d.toNat) := fun e => h (UInt8.toNat_inj.1 (by omega))
    rw [decide_eq_false this]
    simpa using h
theorem empty_str (s : ByteArray) : s.toList = ([] : List UInt8) ↔ s.size = 0 := by
  rw [ByteArray.toList_eq]
  constructor
  · intro h
    have e : s.data.toList.length = s.size := Array.length_toList
    rw [← e, h]; rfl
  · intro h
    have e : s.data.toList.length = s.size := Array.length_toList
    exact List.eq_nil_of_length_eq_zero (e.trans h)
set_option maxHeartbeats 4000000 in
set_option maxRecDepth 100000 in
theorem select_calls (s : ByteArray) (w : World) (hs : s.size ≤ 140737488351232) : Calls Try.prog 15 #[.string s] w fun e w' => e = .returned (.tuple #[.int .i64 (selF s).1, .string (selF s).2.1, .int .i64 (selF s).2.2]) ∧ Below w.heap.size w w' := by
  have HC := Aside0.mk (fun W : World => cut_calls s W hs)
  obtain ⟨R, hR⟩ : ∃ R, R = selF s := ⟨_, rfl⟩
  rw [← hR]
  unfold selF at hR
  generalize letterF s = l1 at HC hR
  generalize restF s = l2 at HC hR
  generalize decide (0 ≤ ixF s) = b at HC
  by_cases h0 : s.size = 0
  · rw [if_pos h0] at hR
    have e0 : (s.toList == ([] : List UInt8)) = true := beq_iff_eq.2 ((empty_str s).2 h0)
    obtain rfl := hR
    clear h0 hs
    go_enter Try.func15, Try.ntmps15
    go_wp2
    exact bodyPost_ret (results_tmp3 rfl _ _ _) rfl ⟨rfl, Below.refl _ _⟩
  · rw [if_neg h0] at hR
    have e0 : (s.toList == ([] : List UInt8)) = false := beq_false_of_ne (fun h => h0 ((empty_str s).1 h))
    by_cases h1 : l1.size = 1
    · have d1 : ((l1.size : Int) != 1) = false := by rw [h1]; rfl
      obtain ⟨c, hc, hbt⟩ := one_str l1 h1
      have hc0 := c.toNat_lt
      have HBT := Aside0.mk hbt
      clear h0 hs
      by_cases hlo : (c.toNat : Int) < 97
      · have e1 : Op.bytesLess l1.toList [97] = true := by rw [hc, less_one]; exact decide_eq_true hlo
        rw [if_neg (by rw [hbt]; omega)] at hR
        obtain rfl := hR
        clear hc hbt hc0 hlo
        go_enter Try.func15, Try.ntmps15
        go_wp2_with (go_at_call 31; (with_reducible refine (HC.out _).mono ?_); rintro e w7 ⟨rfl, hb⟩; have HB := Aside0.mk hb; clear hb)
        exact bodyPost_ret (results_tmp3 rfl _ _ _) rfl ⟨rfl, HB.out⟩
      · have e1 : Op.bytesLess l1.toList [97] = false := by rw [hc, less_one]; exact decide_eq_false hlo
        by_cases hhi : (c.toNat : Int) ≤ 104
        · have e2 : (!(Op.bytesLess l1.toList [104] || l1.toList == [104])) = false := by
            rw [hc, less_one, beq_one]
            have : ((c.toNat : Int) < (104 : UInt8).toNat) ∨ ((c.toNat : Int) = (104 : UInt8).toNat) := by show ((c.toNat : Int) < 104) ∨ ((c.toNat : Int) = 104); omega
            rw [Bool.not_eq_false', Bool.or_eq_true, decide_eq_true_iff, decide_eq_true_iff]
            exact this
          rw [if_pos (by rw [hbt]; omega)] at hR
          obtain rfl := hR
          have HT := Aside0.mk (show ((c.toNat : Int) - 97) % 256 = (c.toNat : Int) - 97 by omega)
          rw [hbt]
          clear hc hbt hc0 hlo hhi
          go_enter Try.func15, Try.ntmps15
          go_wp2_with (go_at_call 31; (with_reducible refine (HC.out _).mono ?_); rintro e w7 ⟨rfl, hb⟩; have HB := Aside0.mk hb; clear hb)
          refine bodyPost_ret (results_tmp3 rfl _ _ _) rfl ⟨?_, HB.out⟩
          have hlt : (0 : Int).toNat < l1.size := by rw [h1]; decide
          show Ending.returned (Value.tuple #[Value.int .i64 ((((l1[(0 : Int).toNat]'hlt).toNat : Int) - 97) % 256), Value.string l2, .int .i64 0]) = _
          rw [bt_at l1 0 hlt, HBT.out, HT.out]
        · have e2 : (!(Op.bytesLess l1.toList [104] || l1.toList == [104])) = true := by
            rw [hc, less_one, beq_one]
            have : ¬ ((c.toNat : Int) < (104 : UInt8).toNat) ∧ ¬ ((c.toNat : Int) = (104 : UInt8).toNat) := by show ¬ ((c.toNat : Int) < 104) ∧ ¬ ((c.toNat : Int) = 104); omega
            simpa using this
          rw [if_neg (by rw [hbt]; omega)] at hR
          obtain rfl := hR
          clear hc hbt hc0 hlo hhi
          go_enter Try.func15, Try.ntmps15
          go_wp2_with (go_at_call 31; (with_reducible refine (HC.out _).mono ?_); rintro e w7 ⟨rfl, hb⟩; have HB := Aside0.mk hb; clear hb)
          exact bodyPost_ret (results_tmp3 rfl _ _ _) rfl ⟨rfl, HB.out⟩
    · have d1 : ((l1.size : Int) != 1) = true := bne_iff_ne.2 (by omega)
      rw [if_neg (by omega)] at hR
      obtain rfl := hR
      clear h0 hs
      go_enter Try.func15, Try.ntmps15
      go_wp2_with (go_at_call 31; (with_reducible refine (HC.out _).mono ?_); rintro e w7 ⟨rfl, hb⟩; have HB := Aside0.mk hb; clear hb)
      exact bodyPost_ret (results_tmp3 rfl _ _ _) rfl ⟨rfl, HB.out⟩
end Go.Proofs.Ytnbomjfpnpmllaa.Q
