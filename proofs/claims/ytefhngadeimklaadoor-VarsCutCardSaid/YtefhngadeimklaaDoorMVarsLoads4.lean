/- Contracts of Go functions and plain facts, of several texts, one behind the other; no condition. -/
import Derived.Test.YtefhngadeimklaaDoorMVarsLoads2
import Derived.Test.YtefhngadeimklaaDoorMVarsLoads3
import Derived.Lib.IndexLaws
import Derived.Laws.Cover1
import Derived.Deep.QuietTactic
import Derived.BigQuiet
section
namespace Go.Proofs.YtefhngadeimklaaDoor.Q
open Go.RowKit Go.Proofs.YtefhngadeimklaaDoorW.PrintWords Go.Proofs.YtefhngadeimklaaDoorW.PrintLast Go.Proofs.YtefhngadeimklaaDoorW.PrintMore
set_option linter.unusedVariables false
set_option linter.unusedSimpArgs false

attribute [local go_sem] max2_int min2_int max_two min_two max_three min_three max_four min_four
/-! ### tinderref19_Right: function 25 -/
def tinderref19_Right.l0 : Nat → List (S40) → Int → Int → Option (Bool)
  | 0, _, _, _ => none
  | k + 1, x0, x3, x4 => if x4 < (x0.length : Int) then (if 0 ≤ x4 then ((tinderref19_find.f k ((rd_T40 x0 x4).f0)).bind fun t26002 => (if t26002 ≤ x3 then (some false) else ((tinderref19_Form.f k ((rd_T40 x0 x4).f0) ((rd_T40 x0 x4).f1)).bind fun bt26005 => ((tinderref19_Default.f k ((rd_T40 x0 x4).f0)).bind fun bt26008 => (if bt26005.2 = 0 then (if bt26005.1.toList = ((rd_T40 x0 x4).f1).toList then (if bt26005.1.toList = bt26008.1.toList then (some false) else (tinderref19_Right.l0 k x0 t26002 (wrap64 (x4 + 1)))) else (some false)) else (some false)))))) else (none)) else (some true)
def tinderref19_Right.f (k : Nat) (l0 : List (S40)) : Option (Bool) := tinderref19_Right.l0 k l0 (-1) 0
theorem tinderref19_Right.mono_l : ∀ k, (∀ y0 y1 y2, LeO (tinderref19_Right.l0 k y0 y1 y2) (tinderref19_Right.l0 (k + 1) y0 y1 y2))
  | 0 => fun _ _ _ r h => by simp [tinderref19_Right.l0] at h
  | k + 1 => by
    have ih0 := tinderref19_Right.mono_l k
    · intro y0 y1 y2
      unfold tinderref19_Right.l0
      repeat' first
      | (with_reducible exact ih0 _ _ _)
      | (with_reducible exact tinderref19_Default.mono _ _)
      | (with_reducible exact tinderref19_Form.mono _ _ _)
      | (with_reducible exact tinderref19_find.mono _ _)
      | (with_reducible exact LeO.refl _)
      | (with_reducible exact LeO.none _)
      | (with_reducible refine LeO.ite ?_ ?_)
      | (with_reducible refine LeO.bind ?_ (fun _ => ?_))
      | exact ih0 _ _ _
      | exact tinderref19_Default.mono _ _
      | exact tinderref19_Form.mono _ _ _
      | exact tinderref19_find.mono _ _
      | exact LeO.none _
      | refine LeO.ite ?_ ?_
      | refine LeO.bind ?_ (fun _ => ?_)
theorem tinderref19_Right.mono : ∀ a0 k, LeO (tinderref19_Right.f k a0) (tinderref19_Right.f (k + 1) a0) := by
  intro a0 k
  have ih0 := tinderref19_Right.mono_l k
  unfold tinderref19_Right.f
  repeat' first
      | (with_reducible exact ih0 _ _ _)
      | (with_reducible exact tinderref19_Default.mono _ _)
      | (with_reducible exact tinderref19_Form.mono _ _ _)
      | (with_reducible exact tinderref19_find.mono _ _)
      | (with_reducible exact LeO.refl _)
      | (with_reducible exact LeO.none _)
      | (with_reducible refine LeO.ite ?_ ?_)
      | (with_reducible refine LeO.bind ?_ (fun _ => ?_))
      | exact ih0 _ _ _
      | exact tinderref19_Default.mono _ _
      | exact tinderref19_Form.mono _ _ _
      | exact tinderref19_find.mono _ _
      | exact LeO.none _
      | refine LeO.ite ?_ ?_
      | refine LeO.bind ?_ (fun _ => ?_)
def tinderref19_Right.T9 : Bool × List (List Nat × List Nat) := (true, [([], []), ([], []), ([0, 1], [0, 1]), ([2], [2]), ([3], [3]), ([], []), ([], []), ([5, 6], [5, 6]), ([7], [7]), ([8], [8]), ([4, 9], [4, 9]), ([10], [10]), ([11], [11]), ([11], [11]), ([12, 10, 0, 1, 2, 3, 4, 5, 6, 7, 8, 9, 10, 11, 12], [12]), ([13, 14, 0, 1, 2, 3, 4, 5, 6, 7, 8, 9, 10, 11, 12, 13, 14], [13])])
def tinderref19_Right.B9 : List Nat := [0, 0, 3, 7, 15, 0, 0, 96, 224, 480, 1023, 2047, 4095, 4095, 8191, 32767]
theorem tinderref19_Right.tab9 : rtab .any (opsOf Tryd.f25 9) = tinderref19_Right.T9 := by kernel_rfl
theorem tinderref19_Right.bits9 : waitsOk tinderref19_Right.T9.2 tinderref19_Right.B9 = true := by kernel_rfl
set_option maxHeartbeats 8000000 in
set_option maxRecDepth 100000 in
theorem tinderref19_Right.calls (k : Nat) (A0 : Option Addr) (c0 : Nat) (l0 : List (S40)) (r : Bool) (w : World) (hr0 : Kd.C k40 w A0 l0.length l0) (hc0 : l0.length ≤ c0) (h : tinderref19_Right.f k l0 = some r) :
    Calls Tryd.prog 25 #[.slice A0 l0.length c0] w fun e w' => e = .returned (.bool r) ∧ Below w.heap.size w w' := by
  have HR0 := Aside0.mk hr0
  have HC0 := Aside0.mk hc0
  clear hr0 hc0
  have HB := Aside0.mk (Below.refl w.heap.size w)
  have H : (tinderref19_Right.l0 k l0 (-1) 0) = some r := h
  clear h
  have H' := Aside0.mk H
  clear H
  go_enter Tryd.func25, Tryd.ntmps25
  go_wp2
  go_loopg [3, 4] k (fun kq v3 v4 w' => ∃ (x3_1 : Int) (x4_1 : Int), v3 = .int .i64 x3_1 ∧ v4 = .int .i64 x4_1 ∧ Aside0 (tinderref19_Right.l0 kq l0 x3_1 x4_1 = some r) ∧ Aside0 (kq ≤ k) ∧ Aside0 (Below w.heap.size w w'))
  case atStart => exact ⟨((-1)), (0), (by first | rfl | (simp; done) | (simp [*]; done)), (by first | rfl | (simp; done) | (simp [*]; done)), H', ⟨Nat.le_refl _⟩, ⟨by repeat (first | (with_reducible first | exact HB.out | apply below_alloc | apply pw_below_drewN | apply below_drew1) | exact HB.out)⟩⟩
  case round =>
    clear H'
    obtain ⟨x3_1, x4_1, rfl, rfl, HA, HK1, HB⟩ := hrel
    cases gk with
    | zero => exact absurd HA.out (by simp [tinderref19_Right.l0])
    | succ k1 =>
      have H := HA.out
      clear HA
      simp only [tinderref19_Right.l0] at H
      by_cases c2 : x4_1 < (l0.length : Int)
      · rw [if_pos c2] at H
        have c2b0 : decide (x4_1 < (l0.length : Int)) = true := decide_eq_true c2
        clear c2
        by_cases c3 : 0 ≤ x4_1
        · rw [if_pos c3] at H
          have c3b0 : decide (0 ≤ x4_1) = true := decide_eq_true c3
          clear c3
          replace H := Option.bind_eq_some_iff.mp H
          obtain ⟨t26002, A40, H⟩ := H
          replace H : (if t26002 ≤ x3_1 then (some false) else ((tinderref19_Form.f k1 ((rd_T40 l0 x4_1).f0) ((rd_T40 l0 x4_1).f1)).bind fun bt26005 => ((tinderref19_Default.f k1 ((rd_T40 l0 x4_1).f0)).bind fun bt26008 => (if bt26005.2 = 0 then (if bt26005.1.toList = ((rd_T40 l0 x4_1).f1).toList then (if bt26005.1.toList = bt26008.1.toList then (some false) else (tinderref19_Right.l0 k1 l0 t26002 (wrap64 (x4_1 + 1)))) else (some false)) else (some false))))) = some r := H
          have A4 := Aside0.mk A40
          clear A40
          by_cases c5 : t26002 ≤ x3_1
          · rw [if_pos c5] at H
            have c5b0 : decide (t26002 ≤ x3_1) = true := decide_eq_true c5
            clear c5
            obtain rfl := Option.some.inj H
            have p26001 : 0 ≤ (x4_1 : Int) := of_decide_eq_true (by first | (with_reducible assumption) | assumption)
            have q26001 : x4_1 < (l0.length : Int) := of_decide_eq_true (by first | (with_reducible assumption) | assumption)
            obtain ⟨ad26001, e26001, hx26001_0, hx26001_1⟩ := at_T40 HR0.out x4_1 p26001 q26001
            cases e26001
            replace hx26001_0 := (HB.out.cell (World.block_lt_of_cell? w _ hx26001_0)).trans hx26001_0
            replace hx26001_1 := (HB.out.cell (World.block_lt_of_cell? w _ hx26001_1)).trans hx26001_1
            replace p26001 := eq_true p26001
            replace q26001 := eq_true q26001
            go_wp2_with (first | ((with_reducible refine gate_callee (f := 46) rfl ?_); refine goesL_ (some 21) rfl rfl Tryd.func46 (by kernel_rfl) rfl #[.string ((rd_T40 l0 x4_1).f0)] rfl (by (try simp only [List.map_toArray, List.map_cons, List.map_nil]); first | done | rfl | (simp only [List.length_drop, List.length_take]; rfl)) ?_; (with_reducible refine (tinderref19_find.calls k1 ((rd_T40 l0 x4_1).f0) t26002 _ A4.out).mono ?_); rintro e w' ⟨rfl, ⟨nd, rfl⟩⟩; refine ⟨_, rfl, ?_⟩))
            go_ret
            exact ⟨by first | rfl | (simp [errW_none, errW_some] <;> rfl) | (simp [*, errW_none, errW_some] <;> rfl), by repeat (first | (with_reducible first | exact HB.out | apply below_alloc | apply pw_below_drewN | apply below_drew1) | exact HB.out)⟩
          · rw [if_neg c5] at H
            have c5b0 : decide (t26002 ≤ x3_1) = false := decide_eq_false c5
            clear c5
            replace H := Option.bind_eq_some_iff.mp H
            obtain ⟨⟨t26005, t26006⟩, A60, H⟩ := H
            replace H : ((tinderref19_Default.f k1 ((rd_T40 l0 x4_1).f0)).bind fun bt26008 => (if t26006 = 0 then (if t26005.toList = ((rd_T40 l0 x4_1).f1).toList then (if t26005.toList = bt26008.1.toList then (some false) else (tinderref19_Right.l0 k1 l0 t26002 (wrap64 (x4_1 + 1)))) else (some false)) else (some false))) = some r := H
            have A6 := Aside0.mk A60
            clear A60
            replace H := Option.bind_eq_some_iff.mp H
            obtain ⟨⟨t26008, t26009⟩, A70, H⟩ := H
            replace H : (if t26006 = 0 then (if t26005.toList = ((rd_T40 l0 x4_1).f1).toList then (if t26005.toList = t26008.toList then (some false) else (tinderref19_Right.l0 k1 l0 t26002 (wrap64 (x4_1 + 1)))) else (some false)) else (some false)) = some r := H
            have A7 := Aside0.mk A70
            clear A70
            by_cases c8 : t26006 = 0
            · rw [if_pos c8] at H
              have c8b0 : (t26006 == 0) = true := beq_iff_eq.mpr c8
              have c8b1 : (t26006 != 0) = false := bne_eq_false_iff_eq.mpr c8
              clear c8
              by_cases c9 : t26005.toList = ((rd_T40 l0 x4_1).f1).toList
              · rw [if_pos c9] at H
                have c9b0 : (t26005.toList == ((rd_T40 l0 x4_1).f1).toList) = true := beq_iff_eq.mpr c9
                have c9b1 : (t26005.toList != ((rd_T40 l0 x4_1).f1).toList) = false := bne_eq_false_iff_eq.mpr c9
                clear c9
                by_cases c10 : t26005.toList = t26008.toList
                · rw [if_pos c10] at H
                  have c10b0 : (t26005.toList == t26008.toList) = true := beq_iff_eq.mpr c10
                  have c10b1 : (t26005.toList != t26008.toList) = false := bne_eq_false_iff_eq.mpr c10
                  clear c10
                  obtain rfl := Option.some.inj H
                  have p26001 : 0 ≤ (x4_1 : Int) := of_decide_eq_true (by first | (with_reducible assumption) | assumption)
                  have q26001 : x4_1 < (l0.length : Int) := of_decide_eq_true (by first | (with_reducible assumption) | assumption)
                  obtain ⟨ad26001, e26001, hx26001_0, hx26001_1⟩ := at_T40 HR0.out x4_1 p26001 q26001
                  cases e26001
                  replace hx26001_0 := (HB.out.cell (World.block_lt_of_cell? w _ hx26001_0)).trans hx26001_0
                  replace hx26001_1 := (HB.out.cell (World.block_lt_of_cell? w _ hx26001_1)).trans hx26001_1
                  replace p26001 := eq_true p26001
                  replace q26001 := eq_true q26001
                  try go_wp2_with (first | ((with_reducible refine gate_callee (f := 46) rfl ?_); refine goesL_ (some 21) rfl rfl Tryd.func46 (by kernel_rfl) rfl #[.string ((rd_T40 l0 x4_1).f0)] rfl (by (try simp only [List.map_toArray, List.map_cons, List.map_nil]); first | done | rfl | (simp only [List.length_drop, List.length_take]; rfl)) ?_; (with_reducible refine (tinderref19_find.calls k1 ((rd_T40 l0 x4_1).f0) t26002 _ A4.out).mono ?_); rintro e w' ⟨rfl, ⟨nd, rfl⟩⟩; refine ⟨_, rfl, ?_⟩))
                  (try (rw [drewN_self wr]; generalize hq_ : World.drewN wr _ = wr; have n0_ : Aside0 (Below w.heap.size w wr) := ⟨by rw [← hq_]; exact (by repeat (first | (with_reducible first | exact HB.out | apply below_alloc | apply pw_below_drewN | apply below_drew1) | exact HB.out))⟩; clear HB hq_; have HB := n0_; clear n0_))
                  have n0_ := Aside0.mk (below_drew1 HB.out)
                  clear HB
                  have HB := n0_
                  clear n0_
                  have p26003 : 0 ≤ (x4_1 : Int) := of_decide_eq_true (by first | (with_reducible assumption) | assumption)
                  have q26003 : x4_1 < (l0.length : Int) := of_decide_eq_true (by first | (with_reducible assumption) | assumption)
                  obtain ⟨ad26003, e26003, hx26003_0, hx26003_1⟩ := at_T40 HR0.out x4_1 p26003 q26003
                  have hw26003_1 := hx26003_1
                  have hw26003_0 := hx26003_0
                  obtain rfl : ad26001 = ad26003 := (by injection e26003)
                  replace hx26003_0 := (HB.out.cell (World.block_lt_of_cell? w _ hx26003_0)).trans hx26003_0
                  replace hx26003_1 := (HB.out.cell (World.block_lt_of_cell? w _ hx26003_1)).trans hx26003_1
                  replace p26003 := eq_true p26003
                  replace q26003 := eq_true q26003
                  have p26004 : 0 ≤ (x4_1 : Int) := of_decide_eq_true (by first | (with_reducible assumption) | assumption)
                  have q26004 : x4_1 < (l0.length : Int) := of_decide_eq_true (by first | (with_reducible assumption) | assumption)
                  obtain ⟨ad26004, e26004, hx26004_0, hx26004_1⟩ := at_T40 HR0.out x4_1 p26004 q26004
                  have hw26004_1 := hx26004_1
                  have hw26004_0 := hx26004_0
                  obtain rfl : ad26001 = ad26004 := (by injection e26004)
                  replace hx26004_0 := (HB.out.cell (World.block_lt_of_cell? w _ hx26004_0)).trans hx26004_0
                  replace hx26004_1 := (HB.out.cell (World.block_lt_of_cell? w _ hx26004_1)).trans hx26004_1
                  replace p26004 := eq_true p26004
                  replace q26004 := eq_true q26004
                  refine start_ (n := 16) (S := fun w' => w'.cell? (ad26001.add ((x4_1).toNat * 2)) = some (.string ((rd_T40 l0 x4_1).f0)) ∧ w'.cell? ⟨(ad26001.add ((x4_1).toNat * 2)).block, (ad26001.add ((x4_1).toNat * 2)).off + 1, none⟩ = some (.string ((rd_T40 l0 x4_1).f1)) ∧ w'.cell? (ad26001.add ((x4_1).toNat * 2)) = some (.string ((rd_T40 l0 x4_1).f0)) ∧ w'.cell? ⟨(ad26001.add ((x4_1).toNat * 2)).block, (ad26001.add ((x4_1).toNat * 2)).off + 1, none⟩ = some (.string ((rd_T40 l0 x4_1).f1))) (ds := []) #[false, false, false, false, false, false, false, false, false, false, false, false, false, false, false, false] (by kernel_rfl) rfl rfl ⟨((HB.out.cell (World.block_lt_of_cell? w _ hw26003_0)).trans hw26003_0), ((HB.out.cell (World.block_lt_of_cell? w _ hw26003_1)).trans hw26003_1), ((HB.out.cell (World.block_lt_of_cell? w _ hw26004_0)).trans hw26004_0), ((HB.out.cell (World.block_lt_of_cell? w _ hw26004_1)).trans hw26004_1)⟩ (fun hHeld => ?_); refine with_tabW tinderref19_Right.tab9 tinderref19_Right.bits9 (fun HT_ HW_ => ?_)
                  generalize wr.drew = w11 at HB hx26003_0 hx26003_1 hx26004_0 hx26004_1 hHeld ⊢
                  refine pure_ (i := 0) (N := some 27) (v := ?_) (a' := ?_) #[true, false, false, false, false, false, false, false, false, false, false, false, false, false, false, false] rfl rfl (any_of HT_.out (by kernel_rfl)) (fun _ _ _ h => h) (Or.inl ⟨by rfl, ?_⟩) ?_ ?_
                  rotate_left
                  · intro w'
                    go_simp
                    with_reducible rfl
                  rotate_left
                  · simp only [Act.put, List.setIfInBounds_toArray, List.set_cons_zero, List.set_cons_succ, i64_w, i32_w]
                    rfl
                  refine pure_ (i := 1) (N := some 28) (v := ?_) (a' := ?_) #[true, true, false, false, false, false, false, false, false, false, false, false, false, false, false, false] rfl rfl (any_of HT_.out (by kernel_rfl)) (fun _ _ _ h => h) (Or.inl ⟨by rfl, ?_⟩) ?_ ?_
                  rotate_left
                  · intro w'
                    go_simp
                    with_reducible rfl
                  rotate_left
                  · simp only [Act.put, List.setIfInBounds_toArray, List.set_cons_zero, List.set_cons_succ, i64_w, i32_w]
                    rfl
                  refine pure_ (i := 2) (N := some 29) (v := ?_) (a' := ?_) #[true, true, true, false, false, false, false, false, false, false, false, false, false, false, false, false] rfl rfl (any_of HT_.out (by kernel_rfl)) (fun _ _ _ h => h) (Or.inl ⟨by rfl, ?_⟩) ?_ ?_
                  rotate_left
                  · intro w'
                    go_simp
                    with_reducible rfl
                  rotate_left
                  · simp only [Act.put, List.setIfInBounds_toArray, List.set_cons_zero, List.set_cons_succ, i64_w, i32_w]
                    rfl
                  refine pure_ (i := 3) (N := some 30) (v := ?_) (a' := ?_) #[true, true, true, true, false, false, false, false, false, false, false, false, false, false, false, false] rfl rfl (any_of HT_.out (by kernel_rfl)) (fun _ _ _ h => h) (Or.inl ⟨by rfl, ?_⟩) ?_ ?_
                  rotate_left
                  · intro w'
                    go_simp
                    with_reducible rfl
                  rotate_left
                  · simp only [Act.put, List.setIfInBounds_toArray, List.set_cons_zero, List.set_cons_succ, i64_w, i32_w]
                    rfl
                  refine pure_ (i := 5) (N := some 32) (v := ?_) (a' := ?_) #[true, true, true, true, false, true, false, false, false, false, false, false, false, false, false, false] rfl rfl (any_of HT_.out (by kernel_rfl)) (fun _ _ _ h => h) (Or.inl ⟨by rfl, ?_⟩) ?_ ?_
                  rotate_left
                  · intro w'
                    go_simp
                    with_reducible rfl
                  rotate_left
                  · simp only [Act.put, List.setIfInBounds_toArray, List.set_cons_zero, List.set_cons_succ, i64_w, i32_w]
                    rfl
                  refine pure_ (i := 6) (N := some 33) (v := ?_) (a' := ?_) #[true, true, true, true, false, true, true, false, false, false, false, false, false, false, false, false] rfl rfl (any_of HT_.out (by kernel_rfl)) (fun _ _ _ h => h) (Or.inl ⟨by rfl, ?_⟩) ?_ ?_
                  rotate_left
                  · intro w'
                    go_simp
                    with_reducible rfl
                  rotate_left
                  · simp only [Act.put, List.setIfInBounds_toArray, List.set_cons_zero, List.set_cons_succ, i64_w, i32_w]
                    rfl
                  refine pure_ (i := 7) (N := some 34) (v := ?_) (a' := ?_) #[true, true, true, true, false, true, true, true, false, false, false, false, false, false, false, false] rfl rfl (any_of HT_.out (by kernel_rfl)) (fun _ _ _ h => h) (Or.inl ⟨by rfl, ?_⟩) ?_ ?_
                  rotate_left
                  · intro w'
                    go_simp
                    with_reducible rfl
                  rotate_left
                  · simp only [Act.put, List.setIfInBounds_toArray, List.set_cons_zero, List.set_cons_succ, i64_w, i32_w]
                    rfl
                  refine pure_ (i := 8) (N := some 35) (v := ?_) (a' := ?_) #[true, true, true, true, false, true, true, true, true, false, false, false, false, false, false, false] rfl rfl (any_of HT_.out (by kernel_rfl)) (fun _ _ _ h => h) (Or.inl ⟨by rfl, ?_⟩) ?_ ?_
                  rotate_left
                  · intro w'
                    go_simp
                    with_reducible rfl
                  rotate_left
                  · simp only [Act.put, List.setIfInBounds_toArray, List.set_cons_zero, List.set_cons_succ, i64_w, i32_w]
                    rfl
                  refine take_ (i := 4) (N := some 31) (v := ?_) (a' := ?_) #[true, true, true, true, true, true, true, true, true, false, false, false, false, false, false, false] rfl rfl (take_ofW HT_.out HW_.out (by kernel_rfl)) (fun _ _ _ h => h) (Or.inl ⟨by rfl, ?_⟩) hHeld ?_ ?_
                  rotate_left
                  · rintro w' ⟨s0, s1, s2, s3⟩
                    go_simp
                    with_reducible rfl
                  rotate_left
                  · simp only [Act.put, List.setIfInBounds_toArray, List.set_cons_zero, List.set_cons_succ, i64_w, i32_w]
                    rfl
                  refine take_ (i := 9) (N := some 36) (v := ?_) (a' := ?_) #[true, true, true, true, true, true, true, true, true, true, false, false, false, false, false, false] rfl rfl (take_ofW HT_.out HW_.out (by kernel_rfl)) (fun _ _ _ h => h) (Or.inl ⟨by rfl, ?_⟩) hHeld ?_ ?_
                  rotate_left
                  · rintro w' ⟨s0, s1, s2, s3⟩
                    go_simp
                    with_reducible rfl
                  rotate_left
                  · simp only [Act.put, List.setIfInBounds_toArray, List.set_cons_zero, List.set_cons_succ, i64_w, i32_w]
                    rfl
                  refine one_ (i := 10) (N := some 37) #[true, true, true, true, true, true, true, true, true, true, true, false, false, false, false, false] rfl rfl (one_of HT_.out (by kernel_rfl)) (by decide) (fun K hK => ?_)
                  refine goes_ Tryd.func18 (by kernel_rfl) rfl #[.string ((rd_T40 l0 x4_1).f0), .string ((rd_T40 l0 x4_1).f1)] (by rfl) rfl rfl (by (try simp only [List.map_toArray, List.map_cons, List.map_nil]); first | done | rfl | (simp only [List.length_drop, List.length_take]; rfl)) ?_
                  with_reducible refine (tinderref19_Form.calls k1 ((rd_T40 l0 x4_1).f0) ((rd_T40 l0 x4_1).f1) t26005 t26006 _ A6.out).mono ?_
                  rintro e w12 ⟨rfl, hb⟩
                  refine ⟨_, rfl, ?_⟩
                  have n0_ := Aside0.mk (below_step (by repeat (first | (with_reducible first | exact HB.out | apply below_alloc | apply pw_below_drewN | apply below_drew1) | exact HB.out)) hb)
                  clear HB
                  have HB := n0_
                  clear n0_
                  (try clear hb)
                  (try clear hb2)
                  (try clear hk)
                  (try clear hi)
                  refine hK.out _ _ ⟨((HB.out.cell (World.block_lt_of_cell? w _ hw26003_0)).trans hw26003_0), ((HB.out.cell (World.block_lt_of_cell? w _ hw26003_1)).trans hw26003_1), ((HB.out.cell (World.block_lt_of_cell? w _ hw26004_0)).trans hw26004_0), ((HB.out.cell (World.block_lt_of_cell? w _ hw26004_1)).trans hw26004_1)⟩ (fun hHeld => ?_)
                  clear hK K
                  refine norm_ (a' := ?_) ?_ ?_
                  rotate_left
                  · show Act.put _ (some 37) _ = _
                    simp only [Act.put, List.setIfInBounds_toArray, List.set_cons_zero, List.set_cons_succ, i64_w, i32_w]
                    rfl
                  refine pure_ (i := 11) (N := some 26) (v := ?_) (a' := ?_) #[true, true, true, true, true, true, true, true, true, true, true, true, false, false, false, false] rfl rfl (any_of HT_.out (by kernel_rfl)) (fun _ _ _ h => h) (Or.inl ⟨by rfl, ?_⟩) ?_ ?_
                  rotate_left
                  · intro w'
                    go_simp
                    with_reducible rfl
                  rotate_left
                  · simp only [Act.put, List.setIfInBounds_toArray, List.set_cons_zero, List.set_cons_succ, i64_w, i32_w]
                    rfl
                  refine pure_ (i := 12) (N := some 38) (v := ?_) (a' := ?_) #[true, true, true, true, true, true, true, true, true, true, true, true, true, false, false, false] rfl rfl (any_of HT_.out (by kernel_rfl)) (fun _ _ _ h => h) (Or.inl ⟨by rfl, ?_⟩) ?_ ?_
                  rotate_left
                  · intro w'
                    go_simp
                    with_reducible rfl
                  rotate_left
                  · simp only [Act.put, List.setIfInBounds_toArray, List.set_cons_zero, List.set_cons_succ, i64_w, i32_w]
                    rfl
                  refine pure_ (i := 13) (N := some 39) (v := ?_) (a' := ?_) #[true, true, true, true, true, true, true, true, true, true, true, true, true, true, false, false] rfl rfl (any_of HT_.out (by kernel_rfl)) (fun _ _ _ h => h) (Or.inl ⟨by rfl, ?_⟩) ?_ ?_
                  rotate_left
                  · intro w'
                    go_simp
                    with_reducible rfl
                  rotate_left
                  · simp only [Act.put, List.setIfInBounds_toArray, List.set_cons_zero, List.set_cons_succ, i64_w, i32_w]
                    rfl
                  refine pure_ (i := 14) (N := some 6) (v := ?_) (a' := ?_) #[true, true, true, true, true, true, true, true, true, true, true, true, true, true, true, false] rfl rfl (any_of HT_.out (by kernel_rfl)) (fun _ _ _ h => h) (Or.inl ⟨by rfl, ?_⟩) ?_ ?_
                  rotate_left
                  · intro w'
                    go_simp
                    with_reducible rfl
                  rotate_left
                  · simp only [Act.put, List.setIfInBounds_toArray, List.set_cons_zero, List.set_cons_succ, i64_w, i32_w]
                    rfl
                  refine pure_ (i := 15) (N := some 7) (v := ?_) (a' := ?_) #[true, true, true, true, true, true, true, true, true, true, true, true, true, true, true, true] rfl rfl (any_of HT_.out (by kernel_rfl)) (fun _ _ _ h => h) (Or.inl ⟨by rfl, ?_⟩) ?_ ?_
                  rotate_left
                  · intro w'
                    go_simp
                    with_reducible rfl
                  rotate_left
                  · simp only [Act.put, List.setIfInBounds_toArray, List.set_cons_zero, List.set_cons_succ, i64_w, i32_w]
                    rfl
                  refine done_ (done_of HT_.out (by kernel_rfl)) ?_
                  have p26007 : 0 ≤ (x4_1 : Int) := of_decide_eq_true (by first | (with_reducible assumption) | assumption)
                  have q26007 : x4_1 < (l0.length : Int) := of_decide_eq_true (by first | (with_reducible assumption) | assumption)
                  obtain ⟨ad26007, e26007, hx26007_0, hx26007_1⟩ := at_T40 HR0.out x4_1 p26007 q26007
                  obtain rfl : ad26001 = ad26007 := (by injection e26007)
                  replace hx26007_0 := (HB.out.cell (World.block_lt_of_cell? w _ hx26007_0)).trans hx26007_0
                  replace hx26007_1 := (HB.out.cell (World.block_lt_of_cell? w _ hx26007_1)).trans hx26007_1
                  replace p26007 := eq_true p26007
                  replace q26007 := eq_true q26007
                  try go_wp2_with (first | ((with_reducible refine gate_callee (f := 20) rfl ?_); refine goesL_ (some 46) rfl rfl Tryd.func20 (by kernel_rfl) rfl #[.string ((rd_T40 l0 x4_1).f0)] rfl (by (try simp only [List.map_toArray, List.map_cons, List.map_nil]); first | done | rfl | (simp only [List.length_drop, List.length_take]; rfl)) ?_; (with_reducible refine (tinderref19_Default.calls k1 ((rd_T40 l0 x4_1).f0) t26008 t26009 _ A7.out).mono ?_); rintro e w' ⟨rfl, ⟨nd, rfl⟩⟩; refine ⟨_, rfl, ?_⟩; have p26010 : 0 ≤ (x4_1 : Int) := of_decide_eq_true (by first | (with_reducible assumption) | assumption); have q26010 : x4_1 < (l0.length : Int) := of_decide_eq_true (by first | (with_reducible assumption) | assumption); obtain ⟨ad26010, e26010, hx26010_0, hx26010_1⟩ := at_T40 HR0.out x4_1 p26010 q26010; obtain rfl : ad26001 = ad26010 := (by injection e26010); replace hx26010_0 := (HB.out.cell (World.block_lt_of_cell? w _ hx26010_0)).trans hx26010_0; replace hx26010_1 := (HB.out.cell (World.block_lt_of_cell? w _ hx26010_1)).trans hx26010_1; replace p26010 := eq_true p26010; replace q26010 := eq_true q26010))
                  go_ret
                  exact ⟨by first | rfl | (simp [errW_none, errW_some] <;> rfl) | (simp [*, errW_none, errW_some] <;> rfl), by repeat (first | (with_reducible first | exact HB.out | apply below_alloc | apply pw_below_drewN | apply below_drew1) | exact HB.out)⟩
                · rw [if_neg c10] at H
                  have c10b0 : (t26005.toList == t26008.toList) = false := beq_eq_false_iff_ne.mpr c10
                  have c10b1 : (t26005.toList != t26008.toList) = true := bne_iff_ne.mpr c10
                  have H' := Aside0.mk H
                  clear H
                  have p26001 : 0 ≤ (x4_1 : Int) := of_decide_eq_true (by first | (with_reducible assumption) | assumption)
                  have q26001 : x4_1 < (l0.length : Int) := of_decide_eq_true (by first | (with_reducible assumption) | assumption)
                  obtain ⟨ad26001, e26001, hx26001_0, hx26001_1⟩ := at_T40 HR0.out x4_1 p26001 q26001
                  cases e26001
                  replace hx26001_0 := (HB.out.cell (World.block_lt_of_cell? w _ hx26001_0)).trans hx26001_0
                  replace hx26001_1 := (HB.out.cell (World.block_lt_of_cell? w _ hx26001_1)).trans hx26001_1
                  replace p26001 := eq_true p26001
                  replace q26001 := eq_true q26001
                  try go_wp2_with (first | ((with_reducible refine gate_callee (f := 46) rfl ?_); refine goesL_ (some 21) rfl rfl Tryd.func46 (by kernel_rfl) rfl #[.string ((rd_T40 l0 x4_1).f0)] rfl (by (try simp only [List.map_toArray, List.map_cons, List.map_nil]); first | done | rfl | (simp only [List.length_drop, List.length_take]; rfl)) ?_; (with_reducible refine (tinderref19_find.calls k1 ((rd_T40 l0 x4_1).f0) t26002 _ A4.out).mono ?_); rintro e w' ⟨rfl, ⟨nd, rfl⟩⟩; refine ⟨_, rfl, ?_⟩))
                  (try (rw [drewN_self wr]; generalize hq_ : World.drewN wr _ = wr; have n0_ : Aside0 (Below w.heap.size w wr) := ⟨by rw [← hq_]; exact (by repeat (first | (with_reducible first | exact HB.out | apply below_alloc | apply pw_below_drewN | apply below_drew1) | exact HB.out))⟩; clear HB hq_; have HB := n0_; clear n0_))
                  have n0_ := Aside0.mk (below_drew1 HB.out)
                  clear HB
                  have HB := n0_
                  clear n0_
                  have p26003 : 0 ≤ (x4_1 : Int) := of_decide_eq_true (by first | (with_reducible assumption) | assumption)
                  have q26003 : x4_1 < (l0.length : Int) := of_decide_eq_true (by first | (with_reducible assumption) | assumption)
                  obtain ⟨ad26003, e26003, hx26003_0, hx26003_1⟩ := at_T40 HR0.out x4_1 p26003 q26003
                  have hw26003_1 := hx26003_1
                  have hw26003_0 := hx26003_0
                  obtain rfl : ad26001 = ad26003 := (by injection e26003)
                  replace hx26003_0 := (HB.out.cell (World.block_lt_of_cell? w _ hx26003_0)).trans hx26003_0
                  replace hx26003_1 := (HB.out.cell (World.block_lt_of_cell? w _ hx26003_1)).trans hx26003_1
                  replace p26003 := eq_true p26003
                  replace q26003 := eq_true q26003
                  have p26004 : 0 ≤ (x4_1 : Int) := of_decide_eq_true (by first | (with_reducible assumption) | assumption)
                  have q26004 : x4_1 < (l0.length : Int) := of_decide_eq_true (by first | (with_reducible assumption) | assumption)
                  obtain ⟨ad26004, e26004, hx26004_0, hx26004_1⟩ := at_T40 HR0.out x4_1 p26004 q26004
                  have hw26004_1 := hx26004_1
                  have hw26004_0 := hx26004_0
                  obtain rfl : ad26001 = ad26004 := (by injection e26004)
                  replace hx26004_0 := (HB.out.cell (World.block_lt_of_cell? w _ hx26004_0)).trans hx26004_0
                  replace hx26004_1 := (HB.out.cell (World.block_lt_of_cell? w _ hx26004_1)).trans hx26004_1
                  replace p26004 := eq_true p26004
                  replace q26004 := eq_true q26004
                  refine start_ (n := 16) (S := fun w' => w'.cell? (ad26001.add ((x4_1).toNat * 2)) = some (.string ((rd_T40 l0 x4_1).f0)) ∧ w'.cell? ⟨(ad26001.add ((x4_1).toNat * 2)).block, (ad26001.add ((x4_1).toNat * 2)).off + 1, none⟩ = some (.string ((rd_T40 l0 x4_1).f1)) ∧ w'.cell? (ad26001.add ((x4_1).toNat * 2)) = some (.string ((rd_T40 l0 x4_1).f0)) ∧ w'.cell? ⟨(ad26001.add ((x4_1).toNat * 2)).block, (ad26001.add ((x4_1).toNat * 2)).off + 1, none⟩ = some (.string ((rd_T40 l0 x4_1).f1))) (ds := []) #[false, false, false, false, false, false, false, false, false, false, false, false, false, false, false, false] (by kernel_rfl) rfl rfl ⟨((HB.out.cell (World.block_lt_of_cell? w _ hw26003_0)).trans hw26003_0), ((HB.out.cell (World.block_lt_of_cell? w _ hw26003_1)).trans hw26003_1), ((HB.out.cell (World.block_lt_of_cell? w _ hw26004_0)).trans hw26004_0), ((HB.out.cell (World.block_lt_of_cell? w _ hw26004_1)).trans hw26004_1)⟩ (fun hHeld => ?_); refine with_tabW tinderref19_Right.tab9 tinderref19_Right.bits9 (fun HT_ HW_ => ?_)
                  generalize wr.drew = w13 at HB hx26003_0 hx26003_1 hx26004_0 hx26004_1 hHeld ⊢
                  refine pure_ (i := 0) (N := some 27) (v := ?_) (a' := ?_) #[true, false, false, false, false, false, false, false, false, false, false, false, false, false, false, false] rfl rfl (any_of HT_.out (by kernel_rfl)) (fun _ _ _ h => h) (Or.inl ⟨by rfl, ?_⟩) ?_ ?_
                  rotate_left
                  · intro w'
                    go_simp
                    with_reducible rfl
                  rotate_left
                  · simp only [Act.put, List.setIfInBounds_toArray, List.set_cons_zero, List.set_cons_succ, i64_w, i32_w]
                    rfl
                  refine pure_ (i := 1) (N := some 28) (v := ?_) (a' := ?_) #[true, true, false, false, false, false, false, false, false, false, false, false, false, false, false, false] rfl rfl (any_of HT_.out (by kernel_rfl)) (fun _ _ _ h => h) (Or.inl ⟨by rfl, ?_⟩) ?_ ?_
                  rotate_left
                  · intro w'
                    go_simp
                    with_reducible rfl
                  rotate_left
                  · simp only [Act.put, List.setIfInBounds_toArray, List.set_cons_zero, List.set_cons_succ, i64_w, i32_w]
                    rfl
                  refine pure_ (i := 2) (N := some 29) (v := ?_) (a' := ?_) #[true, true, true, false, false, false, false, false, false, false, false, false, false, false, false, false] rfl rfl (any_of HT_.out (by kernel_rfl)) (fun _ _ _ h => h) (Or.inl ⟨by rfl, ?_⟩) ?_ ?_
                  rotate_left
                  · intro w'
                    go_simp
                    with_reducible rfl
                  rotate_left
                  · simp only [Act.put, List.setIfInBounds_toArray, List.set_cons_zero, List.set_cons_succ, i64_w, i32_w]
                    rfl
                  refine pure_ (i := 3) (N := some 30) (v := ?_) (a' := ?_) #[true, true, true, true, false, false, false, false, false, false, false, false, false, false, false, false] rfl rfl (any_of HT_.out (by kernel_rfl)) (fun _ _ _ h => h) (Or.inl ⟨by rfl, ?_⟩) ?_ ?_
                  rotate_left
                  · intro w'
                    go_simp
                    with_reducible rfl
                  rotate_left
                  · simp only [Act.put, List.setIfInBounds_toArray, List.set_cons_zero, List.set_cons_succ, i64_w, i32_w]
                    rfl
                  refine pure_ (i := 5) (N := some 32) (v := ?_) (a' := ?_) #[true, true, true, true, false, true, false, false, false, false, false, false, false, false, false, false] rfl rfl (any_of HT_.out (by kernel_rfl)) (fun _ _ _ h => h) (Or.inl ⟨by rfl, ?_⟩) ?_ ?_
                  rotate_left
                  · intro w'
                    go_simp
                    with_reducible rfl
                  rotate_left
                  · simp only [Act.put, List.setIfInBounds_toArray, List.set_cons_zero, List.set_cons_succ, i64_w, i32_w]
                    rfl
                  refine pure_ (i := 6) (N := some 33) (v := ?_) (a' := ?_) #[true, true, true, true, false, true, true, false, false, false, false, false, false, false, false, false] rfl rfl (any_of HT_.out (by kernel_rfl)) (fun _ _ _ h => h) (Or.inl ⟨by rfl, ?_⟩) ?_ ?_
                  rotate_left
                  · intro w'
                    go_simp
                    with_reducible rfl
                  rotate_left
                  · simp only [Act.put, List.setIfInBounds_toArray, List.set_cons_zero, List.set_cons_succ, i64_w, i32_w]
                    rfl
                  refine pure_ (i := 7) (N := some 34) (v := ?_) (a' := ?_) #[true, true, true, true, false, true, true, true, false, false, false, false, false, false, false, false] rfl rfl (any_of HT_.out (by kernel_rfl)) (fun _ _ _ h => h) (Or.inl ⟨by rfl, ?_⟩) ?_ ?_
                  rotate_left
                  · intro w'
                    go_simp
                    with_reducible rfl
                  rotate_left
                  · simp only [Act.put, List.setIfInBounds_toArray, List.set_cons_zero, List.set_cons_succ, i64_w, i32_w]
                    rfl
                  refine pure_ (i := 8) (N := some 35) (v := ?_) (a' := ?_) #[true, true, true, true, false, true, true, true, true, false, false, false, false, false, false, false] rfl rfl (any_of HT_.out (by kernel_rfl)) (fun _ _ _ h => h) (Or.inl ⟨by rfl, ?_⟩) ?_ ?_
                  rotate_left
                  · intro w'
                    go_simp
                    with_reducible rfl
                  rotate_left
                  · simp only [Act.put, List.setIfInBounds_toArray, List.set_cons_zero, List.set_cons_succ, i64_w, i32_w]
                    rfl
                  refine take_ (i := 4) (N := some 31) (v := ?_) (a' := ?_) #[true, true, true, true, true, true, true, true, true, false, false, false, false, false, false, false] rfl rfl (take_ofW HT_.out HW_.out (by kernel_rfl)) (fun _ _ _ h => h) (Or.inl ⟨by rfl, ?_⟩) hHeld ?_ ?_
                  rotate_left
                  · rintro w' ⟨s0, s1, s2, s3⟩
                    go_simp
                    with_reducible rfl
                  rotate_left
                  · simp only [Act.put, List.setIfInBounds_toArray, List.set_cons_zero, List.set_cons_succ, i64_w, i32_w]
                    rfl
                  refine take_ (i := 9) (N := some 36) (v := ?_) (a' := ?_) #[true, true, true, true, true, true, true, true, true, true, false, false, false, false, false, false] rfl rfl (take_ofW HT_.out HW_.out (by kernel_rfl)) (fun _ _ _ h => h) (Or.inl ⟨by rfl, ?_⟩) hHeld ?_ ?_
                  rotate_left
                  · rintro w' ⟨s0, s1, s2, s3⟩
                    go_simp
                    with_reducible rfl
                  rotate_left
                  · simp only [Act.put, List.setIfInBounds_toArray, List.set_cons_zero, List.set_cons_succ, i64_w, i32_w]
                    rfl
                  refine one_ (i := 10) (N := some 37) #[true, true, true, true, true, true, true, true, true, true, true, false, false, false, false, false] rfl rfl (one_of HT_.out (by kernel_rfl)) (by decide) (fun K hK => ?_)
                  refine goes_ Tryd.func18 (by kernel_rfl) rfl #[.string ((rd_T40 l0 x4_1).f0), .string ((rd_T40 l0 x4_1).f1)] (by rfl) rfl rfl (by (try simp only [List.map_toArray, List.map_cons, List.map_nil]); first | done | rfl | (simp only [List.length_drop, List.length_take]; rfl)) ?_
                  with_reducible refine (tinderref19_Form.calls k1 ((rd_T40 l0 x4_1).f0) ((rd_T40 l0 x4_1).f1) t26005 t26006 _ A6.out).mono ?_
                  rintro e w14 ⟨rfl, hb⟩
                  refine ⟨_, rfl, ?_⟩
                  have n0_ := Aside0.mk (below_step (by repeat (first | (with_reducible first | exact HB.out | apply below_alloc | apply pw_below_drewN | apply below_drew1) | exact HB.out)) hb)
                  clear HB
                  have HB := n0_
                  clear n0_
                  (try clear hb)
                  (try clear hb2)
                  (try clear hk)
                  (try clear hi)
                  refine hK.out _ _ ⟨((HB.out.cell (World.block_lt_of_cell? w _ hw26003_0)).trans hw26003_0), ((HB.out.cell (World.block_lt_of_cell? w _ hw26003_1)).trans hw26003_1), ((HB.out.cell (World.block_lt_of_cell? w _ hw26004_0)).trans hw26004_0), ((HB.out.cell (World.block_lt_of_cell? w _ hw26004_1)).trans hw26004_1)⟩ (fun hHeld => ?_)
                  clear hK K
                  refine norm_ (a' := ?_) ?_ ?_
                  rotate_left
                  · show Act.put _ (some 37) _ = _
                    simp only [Act.put, List.setIfInBounds_toArray, List.set_cons_zero, List.set_cons_succ, i64_w, i32_w]
                    rfl
                  refine pure_ (i := 11) (N := some 26) (v := ?_) (a' := ?_) #[true, true, true, true, true, true, true, true, true, true, true, true, false, false, false, false] rfl rfl (any_of HT_.out (by kernel_rfl)) (fun _ _ _ h => h) (Or.inl ⟨by rfl, ?_⟩) ?_ ?_
                  rotate_left
                  · intro w'
                    go_simp
                    with_reducible rfl
                  rotate_left
                  · simp only [Act.put, List.setIfInBounds_toArray, List.set_cons_zero, List.set_cons_succ, i64_w, i32_w]
                    rfl
                  refine pure_ (i := 12) (N := some 38) (v := ?_) (a' := ?_) #[true, true, true, true, true, true, true, true, true, true, true, true, true, false, false, false] rfl rfl (any_of HT_.out (by kernel_rfl)) (fun _ _ _ h => h) (Or.inl ⟨by rfl, ?_⟩) ?_ ?_
                  rotate_left
                  · intro w'
                    go_simp
                    with_reducible rfl
                  rotate_left
                  · simp only [Act.put, List.setIfInBounds_toArray, List.set_cons_zero, List.set_cons_succ, i64_w, i32_w]
                    rfl
                  refine pure_ (i := 13) (N := some 39) (v := ?_) (a' := ?_) #[true, true, true, true, true, true, true, true, true, true, true, true, true, true, false, false] rfl rfl (any_of HT_.out (by kernel_rfl)) (fun _ _ _ h => h) (Or.inl ⟨by rfl, ?_⟩) ?_ ?_
                  rotate_left
                  · intro w'
                    go_simp
                    with_reducible rfl
                  rotate_left
                  · simp only [Act.put, List.setIfInBounds_toArray, List.set_cons_zero, List.set_cons_succ, i64_w, i32_w]
                    rfl
                  refine pure_ (i := 14) (N := some 6) (v := ?_) (a' := ?_) #[true, true, true, true, true, true, true, true, true, true, true, true, true, true, true, false] rfl rfl (any_of HT_.out (by kernel_rfl)) (fun _ _ _ h => h) (Or.inl ⟨by rfl, ?_⟩) ?_ ?_
                  rotate_left
                  · intro w'
                    go_simp
                    with_reducible rfl
                  rotate_left
                  · simp only [Act.put, List.setIfInBounds_toArray, List.set_cons_zero, List.set_cons_succ, i64_w, i32_w]
                    rfl
                  refine pure_ (i := 15) (N := some 7) (v := ?_) (a' := ?_) #[true, true, true, true, true, true, true, true, true, true, true, true, true, true, true, true] rfl rfl (any_of HT_.out (by kernel_rfl)) (fun _ _ _ h => h) (Or.inl ⟨by rfl, ?_⟩) ?_ ?_
                  rotate_left
                  · intro w'
                    go_simp
                    with_reducible rfl
                  rotate_left
                  · simp only [Act.put, List.setIfInBounds_toArray, List.set_cons_zero, List.set_cons_succ, i64_w, i32_w]
                    rfl
                  refine done_ (done_of HT_.out (by kernel_rfl)) ?_
                  have p26007 : 0 ≤ (x4_1 : Int) := of_decide_eq_true (by first | (with_reducible assumption) | assumption)
                  have q26007 : x4_1 < (l0.length : Int) := of_decide_eq_true (by first | (with_reducible assumption) | assumption)
                  obtain ⟨ad26007, e26007, hx26007_0, hx26007_1⟩ := at_T40 HR0.out x4_1 p26007 q26007
                  obtain rfl : ad26001 = ad26007 := (by injection e26007)
                  replace hx26007_0 := (HB.out.cell (World.block_lt_of_cell? w _ hx26007_0)).trans hx26007_0
                  replace hx26007_1 := (HB.out.cell (World.block_lt_of_cell? w _ hx26007_1)).trans hx26007_1
                  replace p26007 := eq_true p26007
                  replace q26007 := eq_true q26007
                  try go_wp2_with (first | ((with_reducible refine gate_callee (f := 20) rfl ?_); refine goesL_ (some 46) rfl rfl Tryd.func20 (by kernel_rfl) rfl #[.string ((rd_T40 l0 x4_1).f0)] rfl (by (try simp only [List.map_toArray, List.map_cons, List.map_nil]); first | done | rfl | (simp only [List.length_drop, List.length_take]; rfl)) ?_; (with_reducible refine (tinderref19_Default.calls k1 ((rd_T40 l0 x4_1).f0) t26008 t26009 _ A7.out).mono ?_); rintro e w' ⟨rfl, ⟨nd, rfl⟩⟩; refine ⟨_, rfl, ?_⟩; have p26010 : 0 ≤ (x4_1 : Int) := of_decide_eq_true (by first | (with_reducible assumption) | assumption); have q26010 : x4_1 < (l0.length : Int) := of_decide_eq_true (by first | (with_reducible assumption) | assumption); obtain ⟨ad26010, e26010, hx26010_0, hx26010_1⟩ := at_T40 HR0.out x4_1 p26010 q26010; obtain rfl : ad26001 = ad26010 := (by injection e26010); replace hx26010_0 := (HB.out.cell (World.block_lt_of_cell? w _ hx26010_0)).trans hx26010_0; replace hx26010_1 := (HB.out.cell (World.block_lt_of_cell? w _ hx26010_1)).trans hx26010_1; replace p26010 := eq_true p26010; replace q26010 := eq_true q26010))
                  go_roundg k1
                  case measure => have := HK1.out; omega
                  case rel => exact ⟨(t26002), (wrap64 (x4_1 + 1)), (by first | rfl | (simp; done) | (simp [*]; done)), (by first | rfl | (simp; done) | (simp [*]; done)), H', ⟨by have := HK1.out; omega⟩, ⟨by repeat (first | (with_reducible first | exact HB.out | apply below_alloc | apply pw_below_drewN | apply below_drew1) | exact HB.out)⟩⟩
              · rw [if_neg c9] at H
                have c9b0 : (t26005.toList == ((rd_T40 l0 x4_1).f1).toList) = false := beq_eq_false_iff_ne.mpr c9
                have c9b1 : (t26005.toList != ((rd_T40 l0 x4_1).f1).toList) = true := bne_iff_ne.mpr c9
                obtain rfl := Option.some.inj H
                have p26001 : 0 ≤ (x4_1 : Int) := of_decide_eq_true (by first | (with_reducible assumption) | assumption)
                have q26001 : x4_1 < (l0.length : Int) := of_decide_eq_true (by first | (with_reducible assumption) | assumption)
                obtain ⟨ad26001, e26001, hx26001_0, hx26001_1⟩ := at_T40 HR0.out x4_1 p26001 q26001
                cases e26001
                replace hx26001_0 := (HB.out.cell (World.block_lt_of_cell? w _ hx26001_0)).trans hx26001_0
                replace hx26001_1 := (HB.out.cell (World.block_lt_of_cell? w _ hx26001_1)).trans hx26001_1
                replace p26001 := eq_true p26001
                replace q26001 := eq_true q26001
                try go_wp2_with (first | ((with_reducible refine gate_callee (f := 46) rfl ?_); refine goesL_ (some 21) rfl rfl Tryd.func46 (by kernel_rfl) rfl #[.string ((rd_T40 l0 x4_1).f0)] rfl (by (try simp only [List.map_toArray, List.map_cons, List.map_nil]); first | done | rfl | (simp only [List.length_drop, List.length_take]; rfl)) ?_; (with_reducible refine (tinderref19_find.calls k1 ((rd_T40 l0 x4_1).f0) t26002 _ A4.out).mono ?_); rintro e w' ⟨rfl, ⟨nd, rfl⟩⟩; refine ⟨_, rfl, ?_⟩))
                (try (rw [drewN_self wr]; generalize hq_ : World.drewN wr _ = wr; have n0_ : Aside0 (Below w.heap.size w wr) := ⟨by rw [← hq_]; exact (by repeat (first | (with_reducible first | exact HB.out | apply below_alloc | apply pw_below_drewN | apply below_drew1) | exact HB.out))⟩; clear HB hq_; have HB := n0_; clear n0_))
                have n0_ := Aside0.mk (below_drew1 HB.out)
                clear HB
                have HB := n0_
                clear n0_
                have p26003 : 0 ≤ (x4_1 : Int) := of_decide_eq_true (by first | (with_reducible assumption) | assumption)
                have q26003 : x4_1 < (l0.length : Int) := of_decide_eq_true (by first | (with_reducible assumption) | assumption)
                obtain ⟨ad26003, e26003, hx26003_0, hx26003_1⟩ := at_T40 HR0.out x4_1 p26003 q26003
                have hw26003_1 := hx26003_1
                have hw26003_0 := hx26003_0
                obtain rfl : ad26001 = ad26003 := (by injection e26003)
                replace hx26003_0 := (HB.out.cell (World.block_lt_of_cell? w _ hx26003_0)).trans hx26003_0
                replace hx26003_1 := (HB.out.cell (World.block_lt_of_cell? w _ hx26003_1)).trans hx26003_1
                replace p26003 := eq_true p26003
                replace q26003 := eq_true q26003
                have p26004 : 0 ≤ (x4_1 : Int) := of_decide_eq_true (by first | (with_reducible assumption) | assumption)
                have q26004 : x4_1 < (l0.length : Int) := of_decide_eq_true (by first | (with_reducible assumption) | assumption)
                obtain ⟨ad26004, e26004, hx26004_0, hx26004_1⟩ := at_T40 HR0.out x4_1 p26004 q26004
                have hw26004_1 := hx26004_1
                have hw26004_0 := hx26004_0
                obtain rfl : ad26001 = ad26004 := (by injection e26004)
                replace hx26004_0 := (HB.out.cell (World.block_lt_of_cell? w _ hx26004_0)).trans hx26004_0
                replace hx26004_1 := (HB.out.cell (World.block_lt_of_cell? w _ hx26004_1)).trans hx26004_1
                replace p26004 := eq_true p26004
                replace q26004 := eq_true q26004
                refine start_ (n := 16) (S := fun w' => w'.cell? (ad26001.add ((x4_1).toNat * 2)) = some (.string ((rd_T40 l0 x4_1).f0)) ∧ w'.cell? ⟨(ad26001.add ((x4_1).toNat * 2)).block, (ad26001.add ((x4_1).toNat * 2)).off + 1, none⟩ = some (.string ((rd_T40 l0 x4_1).f1)) ∧ w'.cell? (ad26001.add ((x4_1).toNat * 2)) = some (.string ((rd_T40 l0 x4_1).f0)) ∧ w'.cell? ⟨(ad26001.add ((x4_1).toNat * 2)).block, (ad26001.add ((x4_1).toNat * 2)).off + 1, none⟩ = some (.string ((rd_T40 l0 x4_1).f1))) (ds := []) #[false, false, false, false, false, false, false, false, false, false, false, false, false, false, false, false] (by kernel_rfl) rfl rfl ⟨((HB.out.cell (World.block_lt_of_cell? w _ hw26003_0)).trans hw26003_0), ((HB.out.cell (World.block_lt_of_cell? w _ hw26003_1)).trans hw26003_1), ((HB.out.cell (World.block_lt_of_cell? w _ hw26004_0)).trans hw26004_0), ((HB.out.cell (World.block_lt_of_cell? w _ hw26004_1)).trans hw26004_1)⟩ (fun hHeld => ?_); refine with_tabW tinderref19_Right.tab9 tinderref19_Right.bits9 (fun HT_ HW_ => ?_)
                generalize wr.drew = w15 at HB hx26003_0 hx26003_1 hx26004_0 hx26004_1 hHeld ⊢
                refine pure_ (i := 0) (N := some 27) (v := ?_) (a' := ?_) #[true, false, false, false, false, false, false, false, false, false, false, false, false, false, false, false] rfl rfl (any_of HT_.out (by kernel_rfl)) (fun _ _ _ h => h) (Or.inl ⟨by rfl, ?_⟩) ?_ ?_
                rotate_left
                · intro w'
                  go_simp
                  with_reducible rfl
                rotate_left
                · simp only [Act.put, List.setIfInBounds_toArray, List.set_cons_zero, List.set_cons_succ, i64_w, i32_w]
                  rfl
                refine pure_ (i := 1) (N := some 28) (v := ?_) (a' := ?_) #[true, true, false, false, false, false, false, false, false, false, false, false, false, false, false, false] rfl rfl (any_of HT_.out (by kernel_rfl)) (fun _ _ _ h => h) (Or.inl ⟨by rfl, ?_⟩) ?_ ?_
                rotate_left
                · intro w'
                  go_simp
                  with_reducible rfl
                rotate_left
                · simp only [Act.put, List.setIfInBounds_toArray, List.set_cons_zero, List.set_cons_succ, i64_w, i32_w]
                  rfl
                refine pure_ (i := 2) (N := some 29) (v := ?_) (a' := ?_) #[true, true, true, false, false, false, false, false, false, false, false, false, false, false, false, false] rfl rfl (any_of HT_.out (by kernel_rfl)) (fun _ _ _ h => h) (Or.inl ⟨by rfl, ?_⟩) ?_ ?_
                rotate_left
                · intro w'
                  go_simp
                  with_reducible rfl
                rotate_left
                · simp only [Act.put, List.setIfInBounds_toArray, List.set_cons_zero, List.set_cons_succ, i64_w, i32_w]
                  rfl
                refine pure_ (i := 3) (N := some 30) (v := ?_) (a' := ?_) #[true, true, true, true, false, false, false, false, false, false, false, false, false, false, false, false] rfl rfl (any_of HT_.out (by kernel_rfl)) (fun _ _ _ h => h) (Or.inl ⟨by rfl, ?_⟩) ?_ ?_
                rotate_left
                · intro w'
                  go_simp
                  with_reducible rfl
                rotate_left
                · simp only [Act.put, List.setIfInBounds_toArray, List.set_cons_zero, List.set_cons_succ, i64_w, i32_w]
                  rfl
                refine pure_ (i := 5) (N := some 32) (v := ?_) (a' := ?_) #[true, true, true, true, false, true, false, false, false, false, false, false, false, false, false, false] rfl rfl (any_of HT_.out (by kernel_rfl)) (fun _ _ _ h => h) (Or.inl ⟨by rfl, ?_⟩) ?_ ?_
                rotate_left
                · intro w'
                  go_simp
                  with_reducible rfl
                rotate_left
                · simp only [Act.put, List.setIfInBounds_toArray, List.set_cons_zero, List.set_cons_succ, i64_w, i32_w]
                  rfl
                refine pure_ (i := 6) (N := some 33) (v := ?_) (a' := ?_) #[true, true, true, true, false, true, true, false, false, false, false, false, false, false, false, false] rfl rfl (any_of HT_.out (by kernel_rfl)) (fun _ _ _ h => h) (Or.inl ⟨by rfl, ?_⟩) ?_ ?_
                rotate_left
                · intro w'
                  go_simp
                  with_reducible rfl
                rotate_left
                · simp only [Act.put, List.setIfInBounds_toArray, List.set_cons_zero, List.set_cons_succ, i64_w, i32_w]
                  rfl
                refine pure_ (i := 7) (N := some 34) (v := ?_) (a' := ?_) #[true, true, true, true, false, true, true, true, false, false, false, false, false, false, false, false] rfl rfl (any_of HT_.out (by kernel_rfl)) (fun _ _ _ h => h) (Or.inl ⟨by rfl, ?_⟩) ?_ ?_
                rotate_left
                · intro w'
                  go_simp
                  with_reducible rfl
                rotate_left
                · simp only [Act.put, List.setIfInBounds_toArray, List.set_cons_zero, List.set_cons_succ, i64_w, i32_w]
                  rfl
                refine pure_ (i := 8) (N := some 35) (v := ?_) (a' := ?_) #[true, true, true, true, false, true, true, true, true, false, false, false, false, false, false, false] rfl rfl (any_of HT_.out (by kernel_rfl)) (fun _ _ _ h => h) (Or.inl ⟨by rfl, ?_⟩) ?_ ?_
                rotate_left
                · intro w'
                  go_simp
                  with_reducible rfl
                rotate_left
                · simp only [Act.put, List.setIfInBounds_toArray, List.set_cons_zero, List.set_cons_succ, i64_w, i32_w]
                  rfl
                refine take_ (i := 4) (N := some 31) (v := ?_) (a' := ?_) #[true, true, true, true, true, true, true, true, true, false, false, false, false, false, false, false] rfl rfl (take_ofW HT_.out HW_.out (by kernel_rfl)) (fun _ _ _ h => h) (Or.inl ⟨by rfl, ?_⟩) hHeld ?_ ?_
                rotate_left
                · rintro w' ⟨s0, s1, s2, s3⟩
                  go_simp
                  with_reducible rfl
                rotate_left
                · simp only [Act.put, List.setIfInBounds_toArray, List.set_cons_zero, List.set_cons_succ, i64_w, i32_w]
                  rfl
                refine take_ (i := 9) (N := some 36) (v := ?_) (a' := ?_) #[true, true, true, true, true, true, true, true, true, true, false, false, false, false, false, false] rfl rfl (take_ofW HT_.out HW_.out (by kernel_rfl)) (fun _ _ _ h => h) (Or.inl ⟨by rfl, ?_⟩) hHeld ?_ ?_
                rotate_left
                · rintro w' ⟨s0, s1, s2, s3⟩
                  go_simp
                  with_reducible rfl
                rotate_left
                · simp only [Act.put, List.setIfInBounds_toArray, List.set_cons_zero, List.set_cons_succ, i64_w, i32_w]
                  rfl
                refine one_ (i := 10) (N := some 37) #[true, true, true, true, true, true, true, true, true, true, true, false, false, false, false, false] rfl rfl (one_of HT_.out (by kernel_rfl)) (by decide) (fun K hK => ?_)
                refine goes_ Tryd.func18 (by kernel_rfl) rfl #[.string ((rd_T40 l0 x4_1).f0), .string ((rd_T40 l0 x4_1).f1)] (by rfl) rfl rfl (by (try simp only [List.map_toArray, List.map_cons, List.map_nil]); first | done | rfl | (simp only [List.length_drop, List.length_take]; rfl)) ?_
                with_reducible refine (tinderref19_Form.calls k1 ((rd_T40 l0 x4_1).f0) ((rd_T40 l0 x4_1).f1) t26005 t26006 _ A6.out).mono ?_
                rintro e w16 ⟨rfl, hb⟩
                refine ⟨_, rfl, ?_⟩
                have n0_ := Aside0.mk (below_step (by repeat (first | (with_reducible first | exact HB.out | apply below_alloc | apply pw_below_drewN | apply below_drew1) | exact HB.out)) hb)
                clear HB
                have HB := n0_
                clear n0_
                (try clear hb)
                (try clear hb2)
                (try clear hk)
                (try clear hi)
                refine hK.out _ _ ⟨((HB.out.cell (World.block_lt_of_cell? w _ hw26003_0)).trans hw26003_0), ((HB.out.cell (World.block_lt_of_cell? w _ hw26003_1)).trans hw26003_1), ((HB.out.cell (World.block_lt_of_cell? w _ hw26004_0)).trans hw26004_0), ((HB.out.cell (World.block_lt_of_cell? w _ hw26004_1)).trans hw26004_1)⟩ (fun hHeld => ?_)
                clear hK K
                refine norm_ (a' := ?_) ?_ ?_
                rotate_left
                · show Act.put _ (some 37) _ = _
                  simp only [Act.put, List.setIfInBounds_toArray, List.set_cons_zero, List.set_cons_succ, i64_w, i32_w]
                  rfl
                refine pure_ (i := 11) (N := some 26) (v := ?_) (a' := ?_) #[true, true, true, true, true, true, true, true, true, true, true, true, false, false, false, false] rfl rfl (any_of HT_.out (by kernel_rfl)) (fun _ _ _ h => h) (Or.inl ⟨by rfl, ?_⟩) ?_ ?_
                rotate_left
                · intro w'
                  go_simp
                  with_reducible rfl
                rotate_left
                · simp only [Act.put, List.setIfInBounds_toArray, List.set_cons_zero, List.set_cons_succ, i64_w, i32_w]
                  rfl
                refine pure_ (i := 12) (N := some 38) (v := ?_) (a' := ?_) #[true, true, true, true, true, true, true, true, true, true, true, true, true, false, false, false] rfl rfl (any_of HT_.out (by kernel_rfl)) (fun _ _ _ h => h) (Or.inl ⟨by rfl, ?_⟩) ?_ ?_
                rotate_left
                · intro w'
                  go_simp
                  with_reducible rfl
                rotate_left
                · simp only [Act.put, List.setIfInBounds_toArray, List.set_cons_zero, List.set_cons_succ, i64_w, i32_w]
                  rfl
                refine pure_ (i := 13) (N := some 39) (v := ?_) (a' := ?_) #[true, true, true, true, true, true, true, true, true, true, true, true, true, true, false, false] rfl rfl (any_of HT_.out (by kernel_rfl)) (fun _ _ _ h => h) (Or.inl ⟨by rfl, ?_⟩) ?_ ?_
                rotate_left
                · intro w'
                  go_simp
                  with_reducible rfl
                rotate_left
                · simp only [Act.put, List.setIfInBounds_toArray, List.set_cons_zero, List.set_cons_succ, i64_w, i32_w]
                  rfl
                refine pure_ (i := 14) (N := some 6) (v := ?_) (a' := ?_) #[true, true, true, true, true, true, true, true, true, true, true, true, true, true, true, false] rfl rfl (any_of HT_.out (by kernel_rfl)) (fun _ _ _ h => h) (Or.inl ⟨by rfl, ?_⟩) ?_ ?_
                rotate_left
                · intro w'
                  go_simp
                  with_reducible rfl
                rotate_left
                · simp only [Act.put, List.setIfInBounds_toArray, List.set_cons_zero, List.set_cons_succ, i64_w, i32_w]
                  rfl
                refine pure_ (i := 15) (N := some 7) (v := ?_) (a' := ?_) #[true, true, true, true, true, true, true, true, true, true, true, true, true, true, true, true] rfl rfl (any_of HT_.out (by kernel_rfl)) (fun _ _ _ h => h) (Or.inl ⟨by rfl, ?_⟩) ?_ ?_
                rotate_left
                · intro w'
                  go_simp
                  with_reducible rfl
                rotate_left
                · simp only [Act.put, List.setIfInBounds_toArray, List.set_cons_zero, List.set_cons_succ, i64_w, i32_w]
                  rfl
                refine done_ (done_of HT_.out (by kernel_rfl)) ?_
                have p26007 : 0 ≤ (x4_1 : Int) := of_decide_eq_true (by first | (with_reducible assumption) | assumption)
                have q26007 : x4_1 < (l0.length : Int) := of_decide_eq_true (by first | (with_reducible assumption) | assumption)
                obtain ⟨ad26007, e26007, hx26007_0, hx26007_1⟩ := at_T40 HR0.out x4_1 p26007 q26007
                obtain rfl : ad26001 = ad26007 := (by injection e26007)
                replace hx26007_0 := (HB.out.cell (World.block_lt_of_cell? w _ hx26007_0)).trans hx26007_0
                replace hx26007_1 := (HB.out.cell (World.block_lt_of_cell? w _ hx26007_1)).trans hx26007_1
                replace p26007 := eq_true p26007
                replace q26007 := eq_true q26007
                try go_wp2_with (first | ((with_reducible refine gate_callee (f := 20) rfl ?_); refine goesL_ (some 46) rfl rfl Tryd.func20 (by kernel_rfl) rfl #[.string ((rd_T40 l0 x4_1).f0)] rfl (by (try simp only [List.map_toArray, List.map_cons, List.map_nil]); first | done | rfl | (simp only [List.length_drop, List.length_take]; rfl)) ?_; (with_reducible refine (tinderref19_Default.calls k1 ((rd_T40 l0 x4_1).f0) t26008 t26009 _ A7.out).mono ?_); rintro e w' ⟨rfl, ⟨nd, rfl⟩⟩; refine ⟨_, rfl, ?_⟩; have p26010 : 0 ≤ (x4_1 : Int) := of_decide_eq_true (by first | (with_reducible assumption) | assumption); have q26010 : x4_1 < (l0.length : Int) := of_decide_eq_true (by first | (with_reducible assumption) | assumption); obtain ⟨ad26010, e26010, hx26010_0, hx26010_1⟩ := at_T40 HR0.out x4_1 p26010 q26010; obtain rfl : ad26001 = ad26010 := (by injection e26010); replace hx26010_0 := (HB.out.cell (World.block_lt_of_cell? w _ hx26010_0)).trans hx26010_0; replace hx26010_1 := (HB.out.cell (World.block_lt_of_cell? w _ hx26010_1)).trans hx26010_1; replace p26010 := eq_true p26010; replace q26010 := eq_true q26010))
                go_ret
                exact ⟨by first | rfl | (simp [errW_none, errW_some] <;> rfl) | (simp [*, errW_none, errW_some] <;> rfl), by repeat (first | (with_reducible first | exact HB.out | apply below_alloc | apply pw_below_drewN | apply below_drew1) | exact HB.out)⟩
            · rw [if_neg c8] at H
              have c8b0 : (t26006 == 0) = false := beq_eq_false_iff_ne.mpr c8
              have c8b1 : (t26006 != 0) = true := bne_iff_ne.mpr c8
              obtain rfl := Option.some.inj H
              have p26001 : 0 ≤ (x4_1 : Int) := of_decide_eq_true (by first | (with_reducible assumption) | assumption)
              have q26001 : x4_1 < (l0.length : Int) := of_decide_eq_true (by first | (with_reducible assumption) | assumption)
              obtain ⟨ad26001, e26001, hx26001_0, hx26001_1⟩ := at_T40 HR0.out x4_1 p26001 q26001
              cases e26001
              replace hx26001_0 := (HB.out.cell (World.block_lt_of_cell? w _ hx26001_0)).trans hx26001_0
              replace hx26001_1 := (HB.out.cell (World.block_lt_of_cell? w _ hx26001_1)).trans hx26001_1
              replace p26001 := eq_true p26001
              replace q26001 := eq_true q26001
              try go_wp2_with (first | ((with_reducible refine gate_callee (f := 46) rfl ?_); refine goesL_ (some 21) rfl rfl Tryd.func46 (by kernel_rfl) rfl #[.string ((rd_T40 l0 x4_1).f0)] rfl (by (try simp only [List.map_toArray, List.map_cons, List.map_nil]); first | done | rfl | (simp only [List.length_drop, List.length_take]; rfl)) ?_; (with_reducible refine (tinderref19_find.calls k1 ((rd_T40 l0 x4_1).f0) t26002 _ A4.out).mono ?_); rintro e w' ⟨rfl, ⟨nd, rfl⟩⟩; refine ⟨_, rfl, ?_⟩))
              (try (rw [drewN_self wr]; generalize hq_ : World.drewN wr _ = wr; have n0_ : Aside0 (Below w.heap.size w wr) := ⟨by rw [← hq_]; exact (by repeat (first | (with_reducible first | exact HB.out | apply below_alloc | apply pw_below_drewN | apply below_drew1) | exact HB.out))⟩; clear HB hq_; have HB := n0_; clear n0_))
              have n0_ := Aside0.mk (below_drew1 HB.out)
              clear HB
              have HB := n0_
              clear n0_
              have p26003 : 0 ≤ (x4_1 : Int) := of_decide_eq_true (by first | (with_reducible assumption) | assumption)
              have q26003 : x4_1 < (l0.length : Int) := of_decide_eq_true (by first | (with_reducible assumption) | assumption)
              obtain ⟨ad26003, e26003, hx26003_0, hx26003_1⟩ := at_T40 HR0.out x4_1 p26003 q26003
              have hw26003_1 := hx26003_1
              have hw26003_0 := hx26003_0
              obtain rfl : ad26001 = ad26003 := (by injection e26003)
              replace hx26003_0 := (HB.out.cell (World.block_lt_of_cell? w _ hx26003_0)).trans hx26003_0
              replace hx26003_1 := (HB.out.cell (World.block_lt_of_cell? w _ hx26003_1)).trans hx26003_1
              replace p26003 := eq_true p26003
              replace q26003 := eq_true q26003
              have p26004 : 0 ≤ (x4_1 : Int) := of_decide_eq_true (by first | (with_reducible assumption) | assumption)
              have q26004 : x4_1 < (l0.length : Int) := of_decide_eq_true (by first | (with_reducible assumption) | assumption)
              obtain ⟨ad26004, e26004, hx26004_0, hx26004_1⟩ := at_T40 HR0.out x4_1 p26004 q26004
              have hw26004_1 := hx26004_1
              have hw26004_0 := hx26004_0
              obtain rfl : ad26001 = ad26004 := (by injection e26004)
              replace hx26004_0 := (HB.out.cell (World.block_lt_of_cell? w _ hx26004_0)).trans hx26004_0
              replace hx26004_1 := (HB.out.cell (World.block_lt_of_cell? w _ hx26004_1)).trans hx26004_1
              replace p26004 := eq_true p26004
              replace q26004 := eq_true q26004
              refine start_ (n := 16) (S := fun w' => w'.cell? (ad26001.add ((x4_1).toNat * 2)) = some (.string ((rd_T40 l0 x4_1).f0)) ∧ w'.cell? ⟨(ad26001.add ((x4_1).toNat * 2)).block, (ad26001.add ((x4_1).toNat * 2)).off + 1, none⟩ = some (.string ((rd_T40 l0 x4_1).f1)) ∧ w'.cell? (ad26001.add ((x4_1).toNat * 2)) = some (.string ((rd_T40 l0 x4_1).f0)) ∧ w'.cell? ⟨(ad26001.add ((x4_1).toNat * 2)).block, (ad26001.add ((x4_1).toNat * 2)).off + 1, none⟩ = some (.string ((rd_T40 l0 x4_1).f1))) (ds := []) #[false, false, false, false, false, false, false, false, false, false, false, false, false, false, false, false] (by kernel_rfl) rfl rfl ⟨((HB.out.cell (World.block_lt_of_cell? w _ hw26003_0)).trans hw26003_0), ((HB.out.cell (World.block_lt_of_cell? w _ hw26003_1)).trans hw26003_1), ((HB.out.cell (World.block_lt_of_cell? w _ hw26004_0)).trans hw26004_0), ((HB.out.cell (World.block_lt_of_cell? w _ hw26004_1)).trans hw26004_1)⟩ (fun hHeld => ?_); refine with_tabW tinderref19_Right.tab9 tinderref19_Right.bits9 (fun HT_ HW_ => ?_)
              generalize wr.drew = w17 at HB hx26003_0 hx26003_1 hx26004_0 hx26004_1 hHeld ⊢
              refine pure_ (i := 0) (N := some 27) (v := ?_) (a' := ?_) #[true, false, false, false, false, false, false, false, false, false, false, false, false, false, false, false] rfl rfl (any_of HT_.out (by kernel_rfl)) (fun _ _ _ h => h) (Or.inl ⟨by rfl, ?_⟩) ?_ ?_
              rotate_left
              · intro w'
                go_simp
                with_reducible rfl
              rotate_left
              · simp only [Act.put, List.setIfInBounds_toArray, List.set_cons_zero, List.set_cons_succ, i64_w, i32_w]
                rfl
              refine pure_ (i := 1) (N := some 28) (v := ?_) (a' := ?_) #[true, true, false, false, false, false, false, false, false, false, false, false, false, false, false, false] rfl rfl (any_of HT_.out (by kernel_rfl)) (fun _ _ _ h => h) (Or.inl ⟨by rfl, ?_⟩) ?_ ?_
              rotate_left
              · intro w'
                go_simp
                with_reducible rfl
              rotate_left
              · simp only [Act.put, List.setIfInBounds_toArray, List.set_cons_zero, List.set_cons_succ, i64_w, i32_w]
                rfl
              refine pure_ (i := 2) (N := some 29) (v := ?_) (a' := ?_) #[true, true, true, false, false, false, false, false, false, false, false, false, false, false, false, false] rfl rfl (any_of HT_.out (by kernel_rfl)) (fun _ _ _ h => h) (Or.inl ⟨by rfl, ?_⟩) ?_ ?_
              rotate_left
              · intro w'
                go_simp
                with_reducible rfl
              rotate_left
              · simp only [Act.put, List.setIfInBounds_toArray, List.set_cons_zero, List.set_cons_succ, i64_w, i32_w]
                rfl
              refine pure_ (i := 3) (N := some 30) (v := ?_) (a' := ?_) #[true, true, true, true, false, false, false, false, false, false, false, false, false, false, false, false] rfl rfl (any_of HT_.out (by kernel_rfl)) (fun _ _ _ h => h) (Or.inl ⟨by rfl, ?_⟩) ?_ ?_
              rotate_left
              · intro w'
                go_simp
                with_reducible rfl
              rotate_left
              · simp only [Act.put, List.setIfInBounds_toArray, List.set_cons_zero, List.set_cons_succ, i64_w, i32_w]
                rfl
              refine pure_ (i := 5) (N := some 32) (v := ?_) (a' := ?_) #[true, true, true, true, false, true, false, false, false, false, false, false, false, false, false, false] rfl rfl (any_of HT_.out (by kernel_rfl)) (fun _ _ _ h => h) (Or.inl ⟨by rfl, ?_⟩) ?_ ?_
              rotate_left
              · intro w'
                go_simp
                with_reducible rfl
              rotate_left
              · simp only [Act.put, List.setIfInBounds_toArray, List.set_cons_zero, List.set_cons_succ, i64_w, i32_w]
                rfl
              refine pure_ (i := 6) (N := some 33) (v := ?_) (a' := ?_) #[true, true, true, true, false, true, true, false, false, false, false, false, false, false, false, false] rfl rfl (any_of HT_.out (by kernel_rfl)) (fun _ _ _ h => h) (Or.inl ⟨by rfl, ?_⟩) ?_ ?_
              rotate_left
              · intro w'
                go_simp
                with_reducible rfl
              rotate_left
              · simp only [Act.put, List.setIfInBounds_toArray, List.set_cons_zero, List.set_cons_succ, i64_w, i32_w]
                rfl
              refine pure_ (i := 7) (N := some 34) (v := ?_) (a' := ?_) #[true, true, true, true, false, true, true, true, false, false, false, false, false, false, false, false] rfl rfl (any_of HT_.out (by kernel_rfl)) (fun _ _ _ h => h) (Or.inl ⟨by rfl, ?_⟩) ?_ ?_
              rotate_left
              · intro w'
                go_simp
                with_reducible rfl
              rotate_left
              · simp only [Act.put, List.setIfInBounds_toArray, List.set_cons_zero, List.set_cons_succ, i64_w, i32_w]
                rfl
              refine pure_ (i := 8) (N := some 35) (v := ?_) (a' := ?_) #[true, true, true, true, false, true, true, true, true, false, false, false, false, false, false, false] rfl rfl (any_of HT_.out (by kernel_rfl)) (fun _ _ _ h => h) (Or.inl ⟨by rfl, ?_⟩) ?_ ?_
              rotate_left
              · intro w'
                go_simp
                with_reducible rfl
              rotate_left
              · simp only [Act.put, List.setIfInBounds_toArray, List.set_cons_zero, List.set_cons_succ, i64_w, i32_w]
                rfl
              refine take_ (i := 4) (N := some 31) (v := ?_) (a' := ?_) #[true, true, true, true, true, true, true, true, true, false, false, false, false, false, false, false] rfl rfl (take_ofW HT_.out HW_.out (by kernel_rfl)) (fun _ _ _ h => h) (Or.inl ⟨by rfl, ?_⟩) hHeld ?_ ?_
              rotate_left
              · rintro w' ⟨s0, s1, s2, s3⟩
                go_simp
                with_reducible rfl
              rotate_left
              · simp only [Act.put, List.setIfInBounds_toArray, List.set_cons_zero, List.set_cons_succ, i64_w, i32_w]
                rfl
              refine take_ (i := 9) (N := some 36) (v := ?_) (a' := ?_) #[true, true, true, true, true, true, true, true, true, true, false, false, false, false, false, false] rfl rfl (take_ofW HT_.out HW_.out (by kernel_rfl)) (fun _ _ _ h => h) (Or.inl ⟨by rfl, ?_⟩) hHeld ?_ ?_
              rotate_left
              · rintro w' ⟨s0, s1, s2, s3⟩
                go_simp
                with_reducible rfl
              rotate_left
              · simp only [Act.put, List.setIfInBounds_toArray, List.set_cons_zero, List.set_cons_succ, i64_w, i32_w]
                rfl
              refine one_ (i := 10) (N := some 37) #[true, true, true, true, true, true, true, true, true, true, true, false, false, false, false, false] rfl rfl (one_of HT_.out (by kernel_rfl)) (by decide) (fun K hK => ?_)
              refine goes_ Tryd.func18 (by kernel_rfl) rfl #[.string ((rd_T40 l0 x4_1).f0), .string ((rd_T40 l0 x4_1).f1)] (by rfl) rfl rfl (by (try simp only [List.map_toArray, List.map_cons, List.map_nil]); first | done | rfl | (simp only [List.length_drop, List.length_take]; rfl)) ?_
              with_reducible refine (tinderref19_Form.calls k1 ((rd_T40 l0 x4_1).f0) ((rd_T40 l0 x4_1).f1) t26005 t26006 _ A6.out).mono ?_
              rintro e w18 ⟨rfl, hb⟩
              refine ⟨_, rfl, ?_⟩
              have n0_ := Aside0.mk (below_step (by repeat (first | (with_reducible first | exact HB.out | apply below_alloc | apply pw_below_drewN | apply below_drew1) | exact HB.out)) hb)
              clear HB
              have HB := n0_
              clear n0_
              (try clear hb)
              (try clear hb2)
              (try clear hk)
              (try clear hi)
              refine hK.out _ _ ⟨((HB.out.cell (World.block_lt_of_cell? w _ hw26003_0)).trans hw26003_0), ((HB.out.cell (World.block_lt_of_cell? w _ hw26003_1)).trans hw26003_1), ((HB.out.cell (World.block_lt_of_cell? w _ hw26004_0)).trans hw26004_0), ((HB.out.cell (World.block_lt_of_cell? w _ hw26004_1)).trans hw26004_1)⟩ (fun hHeld => ?_)
              clear hK K
              refine norm_ (a' := ?_) ?_ ?_
              rotate_left
              · show Act.put _ (some 37) _ = _
                simp only [Act.put, List.setIfInBounds_toArray, List.set_cons_zero, List.set_cons_succ, i64_w, i32_w]
                rfl
              refine pure_ (i := 11) (N := some 26) (v := ?_) (a' := ?_) #[true, true, true, true, true, true, true, true, true, true, true, true, false, false, false, false] rfl rfl (any_of HT_.out (by kernel_rfl)) (fun _ _ _ h => h) (Or.inl ⟨by rfl, ?_⟩) ?_ ?_
              rotate_left
              · intro w'
                go_simp
                with_reducible rfl
              rotate_left
              · simp only [Act.put, List.setIfInBounds_toArray, List.set_cons_zero, List.set_cons_succ, i64_w, i32_w]
                rfl
              refine pure_ (i := 12) (N := some 38) (v := ?_) (a' := ?_) #[true, true, true, true, true, true, true, true, true, true, true, true, true, false, false, false] rfl rfl (any_of HT_.out (by kernel_rfl)) (fun _ _ _ h => h) (Or.inl ⟨by rfl, ?_⟩) ?_ ?_
              rotate_left
              · intro w'
                go_simp
                with_reducible rfl
              rotate_left
              · simp only [Act.put, List.setIfInBounds_toArray, List.set_cons_zero, List.set_cons_succ, i64_w, i32_w]
                rfl
              refine pure_ (i := 13) (N := some 39) (v := ?_) (a' := ?_) #[true, true, true, true, true, true, true, true, true, true, true, true, true, true, false, false] rfl rfl (any_of HT_.out (by kernel_rfl)) (fun _ _ _ h => h) (Or.inl ⟨by rfl, ?_⟩) ?_ ?_
              rotate_left
              · intro w'
                go_simp
                with_reducible rfl
              rotate_left
              · simp only [Act.put, List.setIfInBounds_toArray, List.set_cons_zero, List.set_cons_succ, i64_w, i32_w]
                rfl
              refine pure_ (i := 14) (N := some 6) (v := ?_) (a' := ?_) #[true, true, true, true, true, true, true, true, true, true, true, true, true, true, true, false] rfl rfl (any_of HT_.out (by kernel_rfl)) (fun _ _ _ h => h) (Or.inl ⟨by rfl, ?_⟩) ?_ ?_
              rotate_left
              · intro w'
                go_simp
                with_reducible rfl
              rotate_left
              · simp only [Act.put, List.setIfInBounds_toArray, List.set_cons_zero, List.set_cons_succ, i64_w, i32_w]
                rfl
              refine pure_ (i := 15) (N := some 7) (v := ?_) (a' := ?_) #[true, true, true, true, true, true, true, true, true, true, true, true, true, true, true, true] rfl rfl (any_of HT_.out (by kernel_rfl)) (fun _ _ _ h => h) (Or.inl ⟨by rfl, ?_⟩) ?_ ?_
              rotate_left
              · intro w'
                go_simp
                with_reducible rfl
              rotate_left
              · simp only [Act.put, List.setIfInBounds_toArray, List.set_cons_zero, List.set_cons_succ, i64_w, i32_w]
                rfl
              refine done_ (done_of HT_.out (by kernel_rfl)) ?_
              have p26007 : 0 ≤ (x4_1 : Int) := of_decide_eq_true (by first | (with_reducible assumption) | assumption)
              have q26007 : x4_1 < (l0.length : Int) := of_decide_eq_true (by first | (with_reducible assumption) | assumption)
              obtain ⟨ad26007, e26007, hx26007_0, hx26007_1⟩ := at_T40 HR0.out x4_1 p26007 q26007
              obtain rfl : ad26001 = ad26007 := (by injection e26007)
              replace hx26007_0 := (HB.out.cell (World.block_lt_of_cell? w _ hx26007_0)).trans hx26007_0
              replace hx26007_1 := (HB.out.cell (World.block_lt_of_cell? w _ hx26007_1)).trans hx26007_1
              replace p26007 := eq_true p26007
              replace q26007 := eq_true q26007
              try go_wp2_with (first | ((with_reducible refine gate_callee (f := 20) rfl ?_); refine goesL_ (some 46) rfl rfl Tryd.func20 (by kernel_rfl) rfl #[.string ((rd_T40 l0 x4_1).f0)] rfl (by (try simp only [List.map_toArray, List.map_cons, List.map_nil]); first | done | rfl | (simp only [List.length_drop, List.length_take]; rfl)) ?_; (with_reducible refine (tinderref19_Default.calls k1 ((rd_T40 l0 x4_1).f0) t26008 t26009 _ A7.out).mono ?_); rintro e w' ⟨rfl, ⟨nd, rfl⟩⟩; refine ⟨_, rfl, ?_⟩))
              go_ret
              exact ⟨by first | rfl | (simp [errW_none, errW_some] <;> rfl) | (simp [*, errW_none, errW_some] <;> rfl), by repeat (first | (with_reducible first | exact HB.out | apply below_alloc | apply pw_below_drewN | apply below_drew1) | exact HB.out)⟩
        · rw [if_neg c3] at H
          exact absurd H (by simp)
      · rw [if_neg c2] at H
        have c2b0 : decide (x4_1 < (l0.length : Int)) = false := decide_eq_false c2
        clear c2
        obtain rfl := Option.some.inj H
        go_wp2
        go_ret
        exact ⟨by first | rfl | (simp [errW_none, errW_some] <;> rfl) | (simp [*, errW_none, errW_some] <;> rfl), by repeat (first | (with_reducible first | exact HB.out | apply below_alloc | apply pw_below_drewN | apply below_drew1) | exact HB.out)⟩

end Go.Proofs.YtefhngadeimklaaDoor.Q
end
section
set_option linter.unusedSimpArgs false
set_option linter.unusedVariables false
namespace Go.Proofs.YtefhngadeimklaaDoor.Q
open Go.RowKit Go.Proofs.YtefhngadeimklaaDoorW.PrintWords Go.Proofs.YtefhngadeimklaaDoorW.PrintLast
def vars9 : List S57 := (vars_all.f).getD []
theorem vars9_eq : vars_all.f = some vars9 := rfl
theorem vars9_len : vars9.length = 9 := rfl
def nmV (i : Int) : ByteArray := (rd_T57 vars9 i).f0
def kdV (i : Int) : Int := (rd_T57 vars9 i).f1
def stV (i : Int) : ByteArray := (rd_T57 vars9 i).f2
def rkV (i : Int) : Int := if kdV i = 0 then 98 else if kdV i = 1 then 110 else 116
theorem variable_eq (i : Int) (h : 0 ≤ i ∧ i < 9) : tinderref19_Variable.f i = some (nmV i, rkV i, stV i) := by
  obtain h | h | h | h | h | h | h | h | h : i = 0 ∨ i = 1 ∨ i = 2 ∨ i = 3 ∨ i = 4 ∨ i = 5 ∨ i = 6 ∨ i = 7 ∨ i = 8 := by omega
  all_goals (subst h; rfl)
theorem kd_range (i : Int) (h : 0 ≤ i ∧ i < 9) : kdV i = 0 ∨ kdV i = 1 ∨ kdV i = 2 := by
  obtain h | h | h | h | h | h | h | h | h : i = 0 ∨ i = 1 ∨ i = 2 ∨ i = 3 ∨ i = 4 ∨ i = 5 ∨ i = 6 ∨ i = 7 ∨ i = 8 := by omega
  all_goals (subst h; decide)
def fndG (s : ByteArray) : Nat → Int → Int
  | 0, _ => -1
  | d + 1, i => if (nmV i).toList = s.toList then i else fndG s d (i + 1)
def fndF (s : ByteArray) : Int := fndG s 9 0
theorem fndG_range (s : ByteArray) : ∀ (d : Nat) (i : Int), fndG s d i = -1 ∨ (i ≤ fndG s d i ∧ fndG s d i < i + d)
  | 0, _ => .inl rfl
  | d + 1, i => by
    unfold fndG
    split
    · exact .inr ⟨Int.le_refl _, by omega⟩
    · rcases fndG_range s d (i + 1) with h | h
      · exact .inl h
      · exact .inr ⟨by omega, by omega⟩
theorem fndG_name (s : ByteArray) : ∀ (d : Nat) (i : Int), 0 ≤ i → 0 ≤ fndG s d i → (nmV (fndG s d i)).toList = s.toList
  | 0, _, _, h => absurd h (by unfold fndG; decide)
  | d + 1, i, h0, h => by
    unfold fndG at h ⊢
    split
    · assumption
    · rename_i hn
      rw [if_neg hn] at h
      exact fndG_name s d (i + 1) (by omega) h
theorem fndF_range (s : ByteArray) : -1 ≤ fndF s ∧ fndF s < 9 := by
  rcases fndG_range s 9 0 with h | h <;> unfold fndF <;> omega
def fndR (n : Int) : ByteArray × Int × ByteArray × Int × Bool := if 0 ≤ n then (nmV n, kdV n, stV n, n, true) else ((⟨#[]⟩ : ByteArray), 0, (⟨#[]⟩ : ByteArray), (-1), false)
theorem find_go (s : ByteArray) : ∀ (d k : Nat) (i : Int), 0 ≤ i → i + d = 9 → d < k → vars_find.l0 k s vars9 9 i = some (fndR (fndG s d i))
  | 0, k, i, h0, h1, hk => by
    obtain ⟨k, rfl⟩ : ∃ m, k = m + 1 := ⟨k - 1, by omega⟩
    rw [vars_find.l0, if_neg (by omega)]
    rfl
  | d + 1, k, i, h0, h1, hk => by
    obtain ⟨k, rfl⟩ : ∃ m, k = m + 1 := ⟨k - 1, by omega⟩
    have hw : wrap64 (i + 1) = i + 1 := by unfold wrap64; omega
    rw [vars_find.l0, if_pos (by omega), if_pos h0, if_pos (by rw [vars9_len]; omega), hw, find_go s d k (i + 1) (by omega) (by omega) (by omega), fndG]
    by_cases he : (nmV i).toList = s.toList
    · rw [if_pos he, show fndR i = (nmV i, kdV i, stV i, i, true) from if_pos h0]
      exact if_pos he
    · rw [if_neg he]
      exact if_neg he
theorem find_eq (k : Nat) (hk : 10 ≤ k) (s : ByteArray) : vars_find.f k s = some (fndR (fndF s)) := by
  unfold vars_find.f
  rw [vars9_eq, Option.bind_some, vars9_len]
  exact find_go s 9 k 0 (Int.le_refl _) rfl (by omega)
theorem reffind_go (s : ByteArray) : ∀ (d k : Nat) (i : Int), 0 ≤ i → i + d = 9 → d < k → tinderref19_find.l0 k s i = some (fndG s d i)
  | 0, k, i, h0, h1, hk => by
    obtain ⟨k, rfl⟩ : ∃ m, k = m + 1 := ⟨k - 1, by omega⟩
    rw [tinderref19_find.l0, if_neg (by omega)]
    rfl
  | d + 1, k, i, h0, h1, hk => by
    obtain ⟨k, rfl⟩ : ∃ m, k = m + 1 := ⟨k - 1, by omega⟩
    have hw : wrap64 (i + 1) = i + 1 := by unfold wrap64; omega
    rw [tinderref19_find.l0, if_pos (by omega), variable_eq i ⟨h0, by omega⟩, Option.bind_some, hw, reffind_go s d k (i + 1) (by omega) (by omega) (by omega), fndG]
    by_cases he : (nmV i).toList = s.toList
    · rw [if_pos he, if_pos he]
    · rw [if_neg he, if_neg he]
theorem reffind_eq (k : Nat) (hk : 10 ≤ k) (s : ByteArray) : tinderref19_find.f k s = some (fndF s) := reffind_go s 9 k 0 (Int.le_refl _) rfl (by omega)
def defF (s : ByteArray) : ByteArray × Int := if 0 ≤ fndF s then (stV (fndF s), 0) else ((⟨#[]⟩ : ByteArray), 2)
theorem refdefault_eq (k : Nat) (hk : 10 ≤ k) (s : ByteArray) : tinderref19_Default.f k s = some (defF s) := by
  have hr := fndF_range s
  unfold tinderref19_Default.f defF
  rw [reffind_eq k hk, Option.bind_some]
  by_cases h : 0 ≤ fndF s
  · rw [if_pos h, if_neg (by omega), variable_eq _ ⟨h, hr.2⟩]; rfl
  · rw [if_neg h, if_pos (by omega)]
def okB (c : Int) : Bool := decide (32 ≤ c) && decide (c ≤ 126)
def trueL : List UInt8 := [116, 114, 117, 101]
def falseL : List UInt8 := [102, 97, 108, 115, 101]
def formV (kd : Int) (v : ByteArray) : ByteArray × Bool :=
  if kd = 0 then (v, decide (v.toList = trueL) || decide (v.toList = falseL))
  else if kd = 1 then (if (parF v 10).2 = 0 then (showB 10 (parF v 10).1, true) else ((⟨#[]⟩ : ByteArray), false))
  else if (bytesOf v).all okB = true then (v, decide (v.size ≤ 128)) else ((⟨#[]⟩ : ByteArray), false)
theorem par_range (s : ByteArray) (b : Int) (hb : 2 ≤ b ∧ b ≤ 36) (hs : s.size ≤ 9223372036854775806) : 0 ≤ (parF s b).1 ∧ (parF s b).1 < 4294967296 := by
  have hp : ∀ (l : List Int) (n : Int) (g : Bool), (g = false → 0 ≤ n ∧ n < 4294967296) → ∀ m, parL b l n g = some (m, false) → 0 ≤ m ∧ m < 4294967296 := by
    intro l
    induction l with
    | nil =>
      intro n g hg m hm
      simp only [parL_nil, Option.some.injEq, Prod.mk.injEq] at hm
      obtain ⟨rfl, rfl⟩ := hm
      exact hg rfl
    | cons c l ih =>
      intro n g hg m hm
      rw [parL_cons] at hm
      split at hm
      · split at hm
        · exact ih n true (fun h => by cases h) m hm
        · rename_i hgf
          have hn := hg (by simpa using hgf)
          have hv := val_range c b
          refine ih _ _ (fun h => ?_) m hm
          have h := of_decide_eq_false h
          have h2 : 0 ≤ n * b := Int.mul_nonneg hn.1 (by omega)
          omega
      · cases hm
  have hq : ∀ (neg : Bool) (l : List Int), 0 ≤ (resF neg (parL b l 0 false)).1 ∧ (resF neg (parL b l 0 false)).1 < 4294967296 := by
    intro neg l
    cases he : parL b l 0 false with
    | none => exact ⟨(by decide : (0 : Int) ≤ 0), (by decide : (0 : Int) < 4294967296)⟩
    | some y =>
      obtain ⟨m, g⟩ := y
      cases g with
      | true => exact ⟨(by decide : (0 : Int) ≤ 0), (by decide : (0 : Int) < 4294967296)⟩
      | false =>
        have := hp l 0 false (fun _ => ⟨by decide, by decide⟩) m he
        cases neg with
        | true => rw [resF_neg]; dsimp only; omega
        | false => rw [resF_pos]; exact this
  unfold parF
  rw [if_pos hb]
  split
  · split
    · exact ⟨by decide, by decide⟩
    · exact hq _ _
  · split
    · exact ⟨by decide, by decide⟩
    · exact hq _ _
theorem text_go (v : ByteArray) (hv : v.size ≤ 140737488351232) : ∀ (d k : Nat) (i : Int), 0 ≤ i → i + d = v.size → d < k → vars_variable_form.l0 k v v.size i = some (if ((bytesOf v).drop i.toNat).all okB = true then (v, decide (v.size ≤ 128)) else ((⟨#[]⟩ : ByteArray), false))
  | 0, k, i, h0, h1, hk => by
    obtain ⟨k, rfl⟩ : ∃ m, k = m + 1 := ⟨k - 1, by omega⟩
    rw [vars_variable_form.l0, if_neg (by omega), List.drop_eq_nil_of_le (by rw [bytesOf_length]; omega), List.all_nil, if_pos rfl]
    congr 2
    exact decide_eq_decide.2 (by omega)
  | d + 1, k, i, h0, h1, hk => by
    obtain ⟨k, rfl⟩ : ∃ m, k = m + 1 := ⟨k - 1, by omega⟩
    have hw : wrap64 (i + 1) = i + 1 := by unfold wrap64; omega
    rw [vars_variable_form.l0, if_pos (by omega), if_pos h0, if_pos (by omega), hw, text_go v hv d k (i + 1) (by omega) (by omega) (by omega), bytes_at v i h0 (by omega), List.all_cons, okB]
    by_cases h2 : bt v i < 32
    · rw [if_pos h2]; simp [show ¬ 32 ≤ bt v i by omega]
    · rw [if_neg h2]
      by_cases h3 : bt v i > 126
      · rw [if_pos h3]; simp [show ¬ bt v i ≤ 126 by omega]
      · rw [if_neg h3]; simp [show 32 ≤ bt v i by omega, show bt v i ≤ 126 by omega]
theorem form_var_eq (k : Nat) (nm st v : ByteArray) (kd : Int) (hv : v.size ≤ 140737488351232) (hk : v.size + 100 < k) : vars_variable_form.f k nm kd st v = some (formV kd v) := by
  unfold vars_variable_form.f formV
  by_cases h0 : kd = 0
  · rw [if_pos h0, if_pos h0, show ([116, 114, 117, 101] : List UInt8) = trueL from rfl, show ([102, 97, 108, 115, 101] : List UInt8) = falseL from rfl]
    by_cases h1 : v.toList = trueL
    · rw [if_pos h1]; simp [h1]
    · rw [if_neg h1, decide_eq_false h1, Bool.false_or]
      congr 2
      by_cases h2 : v.toList = falseL
      · rw [decide_eq_true h2]; exact beq_iff_eq.2 h2
      · rw [decide_eq_false h2]; exact beq_eq_false_iff_ne.2 h2
  · rw [if_neg h0, if_neg h0]
    by_cases h1 : kd = 1
    · rw [if_pos h1, if_pos h1, parse_eq k v 10 (by omega) (by omega), Option.bind_some]
      by_cases h2 : (parF v 10).2 = 0
      · have hr := par_range v 10 (by decide) (by omega)
        rw [if_pos h2, if_pos h2, digit_Show.f, if_pos hr, if_pos rfl]
        rfl
      · rw [if_neg h2, if_neg h2]
    · rw [if_neg h1, if_neg h1, text_go v hv v.size k 0 (Int.le_refl _) (by omega) (by omega)]
      rfl
def formF (s v : ByteArray) : ByteArray × Int := if 0 ≤ fndF s then (if (formV (kdV (fndF s)) v).2 = true then ((formV (kdV (fndF s)) v).1, 0) else ((⟨#[]⟩ : ByteArray), 27)) else ((⟨#[]⟩ : ByteArray), 2)
theorem reftext_go (v : ByteArray) (hv : v.size ≤ 140737488351232) : ∀ (d k : Nat) (i : Int), 0 ≤ i → i + d = v.size → d < k → tinderref19_Form.l0 k v i = some (if ((bytesOf v).drop i.toNat).all okB = true then (if v.size ≤ 128 then (v, 0) else ((⟨#[]⟩ : ByteArray), 27)) else ((⟨#[]⟩ : ByteArray), 27))
  | 0, k, i, h0, h1, hk => by
    obtain ⟨k, rfl⟩ : ∃ m, k = m + 1 := ⟨k - 1, by omega⟩
    rw [tinderref19_Form.l0, if_neg (by omega), List.drop_eq_nil_of_le (by rw [bytesOf_length]; omega), List.all_nil, if_pos rfl]
    by_cases h : v.size ≤ 128
    · rw [if_pos (by omega), if_pos h]
    · rw [if_neg (by omega), if_neg h]
  | d + 1, k, i, h0, h1, hk => by
    obtain ⟨k, rfl⟩ : ∃ m, k = m + 1 := ⟨k - 1, by omega⟩
    have hw : wrap64 (i + 1) = i + 1 := by unfold wrap64; omega
    rw [tinderref19_Form.l0, if_pos (by omega), if_pos h0, hw, reftext_go v hv d k (i + 1) (by omega) (by omega) (by omega), bytes_at v i h0 (by omega), List.all_cons, okB]
    by_cases h2 : bt v i < 32
    · rw [if_pos h2]; simp [show ¬ 32 ≤ bt v i by omega]
    · rw [if_neg h2]
      by_cases h3 : bt v i > 126
      · rw [if_pos h3]; simp [show ¬ bt v i ≤ 126 by omega]
      · rw [if_neg h3]; simp [show 32 ≤ bt v i by omega, show bt v i ≤ 126 by omega]
theorem refform_eq (k : Nat) (s v : ByteArray) (hv : v.size ≤ 140737488351232) (hk : v.size + 100 < k) : tinderref19_Form.f k s v = some (formF s v) := by
  have hr := fndF_range s
  unfold tinderref19_Form.f formF
  rw [reffind_eq k (by omega), Option.bind_some]
  by_cases h : 0 ≤ fndF s
  · rw [if_pos h, if_neg (by omega), variable_eq _ ⟨h, hr.2⟩, Option.bind_some, rkV, formV]
    rcases kd_range _ ⟨h, hr.2⟩ with e | e | e
    · rw [e]
      simp only [if_pos, if_true]
      rw [show ([116, 114, 117, 101] : List UInt8) = trueL from rfl, show ([102, 97, 108, 115, 101] : List UInt8) = falseL from rfl]
      by_cases h1 : v.toList = trueL
      · simp [h1]
      · by_cases h2 : v.toList = falseL
        · simp [h2]
        · simp [h1, h2]
    · rw [e]
      dsimp only
      rw [if_neg (show ¬ (if (1 : Int) = 0 then (98 : Int) else if (1 : Int) = 1 then 110 else 116) = 98 by decide), if_pos (show (if (1 : Int) = 0 then (98 : Int) else if (1 : Int) = 1 then 110 else 116) = 110 by decide), if_neg (show ¬ (1 : Int) = 0 by decide), if_pos rfl, refparse_eq k v 10 (by omega) (by omega), Option.bind_some]
      by_cases h2 : (parF v 10).2 = 0
      · have hp := par_range v 10 (by decide) (by omega)
        rw [if_pos h2, if_pos h2, tinderref02_Show.f, if_pos hp, if_pos (by decide), if_pos rfl]
        rfl
      · rw [if_neg h2, if_neg h2, if_neg (by decide)]
    · rw [e]
      dsimp only
      rw [if_neg (show ¬ (if (2 : Int) = 0 then (98 : Int) else if (2 : Int) = 1 then 110 else 116) = 98 by decide), if_neg (show ¬ (if (2 : Int) = 0 then (98 : Int) else if (2 : Int) = 1 then 110 else 116) = 110 by decide), if_neg (show ¬ (2 : Int) = 0 by decide), if_neg (show ¬ (2 : Int) = 1 by decide), reftext_go v hv v.size k 0 (Int.le_refl _) (by omega) (by omega)]
      rw [show ((0 : Int).toNat) = 0 from rfl, List.drop_zero]
      by_cases h2 : (bytesOf v).all okB = true
      · rw [if_pos h2, if_pos h2]
        by_cases h3 : v.size ≤ 128
        · simp [h3]
        · simp [h3]
      · rw [if_neg h2, if_neg h2, if_neg (by decide)]
  · rw [if_neg h, if_pos (by omega)]
/-- May a setting stand behind the variable of number 'last'? -/
def okV (last : Int) (x : S40) : Bool := decide (0 ≤ fndF x.f0) && (formV (kdV (fndF x.f0)) x.f1).2 && decide (last < fndF x.f0) && decide ((formV (kdV (fndF x.f0)) x.f1).1.toList = x.f1.toList) && !decide ((formV (kdV (fndF x.f0)) x.f1).1.toList = (stV (fndF x.f0)).toList)
def rightL : List S40 → Int → Bool
  | [], _ => true
  | x :: r, last => okV last x && rightL r (fndF x.f0)
def rightF (l : List S40) : Bool := rightL l (-1)
def Fits (l : List S40) : Prop := ∀ x ∈ l, x.f0.size ≤ 140737488351232 ∧ x.f1.size ≤ 140737488351232
theorem at_drop (l : List S40) (i : Int) (h0 : 0 ≤ i) (h1 : i < l.length) : l.drop i.toNat = rd_T40 l i :: l.drop (i + 1).toNat := by
  rw [List.drop_eq_getElem_cons (show i.toNat < l.length by omega), show (i + 1).toNat = i.toNat + 1 by omega]
  simp [rd_T40, List.getD_eq_getElem?_getD, List.getElem?_eq_getElem (show i.toNat < l.length by omega)]
theorem rd_mem (l : List S40) (i : Int) (h0 : 0 ≤ i) (h1 : i < l.length) : rd_T40 l i ∈ l := by
  have h := at_drop l i h0 h1
  exact List.mem_of_mem_drop (h ▸ List.mem_cons_self ..)
theorem right_go (l : List S40) (hf : Fits l) : ∀ (d k : Nat) (i last : Int), 0 ≤ i → i + d = l.length → l.length < 1125899906842624 → d + 140737488351400 < k → vars_Right.l0 k last l l.length i = some (rightL (l.drop i.toNat) last)
  | 0, k, i, last, h0, h1, hl, hk => by
    obtain ⟨k, rfl⟩ : ∃ m, k = m + 1 := ⟨k - 1, by omega⟩
    rw [vars_Right.l0, if_neg (by omega), List.drop_eq_nil_of_le (by omega)]
    rfl
  | d + 1, k, i, last, h0, h1, hl, hk => by
    obtain ⟨k, rfl⟩ : ∃ m, k = m + 1 := ⟨k - 1, by omega⟩
    have hw : wrap64 (i + 1) = i + 1 := by unfold wrap64; omega
    have hx := hf _ (rd_mem l i h0 (by omega))
    rw [vars_Right.l0, if_pos (by omega), if_pos h0, if_pos (by omega), find_eq k (by omega), Option.bind_some, hw, right_go l hf d k (i + 1) _ (by omega) (by omega) hl (by omega), at_drop l i h0 (by omega), rightL, okV, form_var_eq k _ _ _ _ hx.2 (by omega), Option.bind_some]
    generalize rd_T40 l i = x
    unfold fndR
    by_cases h : 0 ≤ fndF x.f0
    · rw [if_pos h, if_pos rfl, decide_eq_true h]
      by_cases h2 : (formV (kdV (fndF x.f0)) x.f1).2 = true
      · rw [if_pos h2, h2]
        by_cases h3 : fndF x.f0 ≤ last
        · rw [if_pos h3]; simp [show ¬ last < fndF x.f0 by omega]
        · rw [if_neg h3]
          by_cases h4 : (formV (kdV (fndF x.f0)) x.f1).1.toList = x.f1.toList
          · rw [if_pos h4]
            by_cases h5 : (formV (kdV (fndF x.f0)) x.f1).1.toList = (stV (fndF x.f0)).toList
            · rw [if_pos h5]; simp [h5]
            · rw [if_neg h5]; simp [h4, show last < fndF x.f0 by omega, h4 ▸ h5]
          · rw [if_neg h4]; simp [h4]
      · rw [if_neg h2]; simp [h2]
    · rw [if_neg h, if_neg (by decide)]; simp [h]
theorem right_eq (l : List S40) (hf : Fits l) (hl : l.length < 1125899906842624) (k : Nat) (hk : l.length + 140737488351400 < k) : vars_Right.f k l = some (rightF l) := right_go l hf l.length k 0 (-1) (Int.le_refl _) (by omega) hl hk
theorem refright_go (l : List S40) (hf : Fits l) : ∀ (d k : Nat) (i last : Int), 0 ≤ i → i + d = l.length → l.length < 1125899906842624 → d + 140737488351400 < k → -1 ≤ last → tinderref19_Right.l0 k l last i = some (rightL (l.drop i.toNat) last)
  | 0, k, i, last, h0, h1, hl, hk, hla => by
    obtain ⟨k, rfl⟩ : ∃ m, k = m + 1 := ⟨k - 1, by omega⟩
    rw [tinderref19_Right.l0, if_neg (by omega), List.drop_eq_nil_of_le (by omega)]
    rfl
  | d + 1, k, i, last, h0, h1, hl, hk, hla => by
    obtain ⟨k, rfl⟩ : ∃ m, k = m + 1 := ⟨k - 1, by omega⟩
    have hw : wrap64 (i + 1) = i + 1 := by unfold wrap64; omega
    have hx := hf _ (rd_mem l i h0 (by omega))
    have hr := fndF_range (rd_T40 l i).f0
    rw [tinderref19_Right.l0, if_pos (by omega), if_pos h0, reffind_eq k (by omega), Option.bind_some, hw, refright_go l hf d k (i + 1) _ (by omega) (by omega) hl (by omega) hr.1, at_drop l i h0 (by omega), rightL, okV, refform_eq k _ _ hx.2 (by omega), Option.bind_some, refdefault_eq k (by omega), Option.bind_some]
    generalize rd_T40 l i = x at *
    by_cases h3 : fndF x.f0 ≤ last
    · rw [if_pos h3]; simp [show ¬ last < fndF x.f0 by omega]
    · rw [if_neg h3]
      have h : 0 ≤ fndF x.f0 := by omega
      rw [formF, if_pos h, defF, if_pos h, decide_eq_true h]
      by_cases h2 : (formV (kdV (fndF x.f0)) x.f1).2 = true
      · rw [if_pos h2, h2, if_pos rfl]
        by_cases h4 : (formV (kdV (fndF x.f0)) x.f1).1.toList = x.f1.toList
        · rw [if_pos h4]
          by_cases h5 : (formV (kdV (fndF x.f0)) x.f1).1.toList = (stV (fndF x.f0)).toList
          · rw [if_pos h5]; simp [h5]
          · rw [if_neg h5]; simp [h4, show last < fndF x.f0 by omega, h4 ▸ h5]
        · rw [if_neg h4]; simp [h4]
      · rw [if_neg h2, if_neg (by decide)]; simp [h2]
theorem refright_eq (l : List S40) (hf : Fits l) (hl : l.length < 1125899906842624) (k : Nat) (hk : l.length + 140737488351400 < k) : tinderref19_Right.f k l = some (rightF l) := refright_go l hf l.length k 0 (-1) (Int.le_refl _) (by omega) hl hk (by decide)
end Go.Proofs.YtefhngadeimklaaDoor.Q
end
section
set_option linter.unusedSimpArgs false
set_option linter.unusedVariables false
namespace Go.Proofs.YtefhngadeimklaaDoor.Q
open Go.RowKit Go.Proofs.YtefhngadeimklaaDoorW.PrintWords Go.Proofs.YtefhngadeimklaaDoorW.PrintLast
def ixC (c : UInt8) (s : ByteArray) : Int := Lib.indexByte s.data.toList c
def headC (c : UInt8) (s : ByteArray) : ByteArray := if 0 ≤ ixC c s then s.extract 0 (ixC c s).toNat else s
def tailC (c : UInt8) (s : ByteArray) : ByteArray := if 0 ≤ ixC c s then s.extract (ixC c s + 1).toNat s.size else ⟨#[]⟩
theorem ixC_lt (c : UInt8) (s : ByteArray) (h : 0 ≤ ixC c s) : ixC c s < s.size := by
  obtain ⟨o, ho⟩ := Int.eq_ofNat_of_zero_le h
  have h1 := (Lib.indexByte_some ho).1
  have h2 := (List.getElem?_eq_some_iff.1 h1).1
  rw [ho]
  have e : s.data.toList.length = s.size := Array.length_toList
  have : o < s.size := e ▸ h2
  omega
set_option maxHeartbeats 4000000 in
set_option maxRecDepth 100000 in
theorem cutIn_calls (c : UInt8) (s : ByteArray) (w : World) (hs : s.size ≤ 140737488351232) : Calls Tryd.prog 64 #[.string s, .string ⟨#[c]⟩] w fun e w' => e = .returned (.tuple #[.string (headC c s), .string (tailC c s), .bool (decide (0 ≤ ixC c s))]) ∧ Below w.heap.size w w' := by
  obtain ⟨i, hi⟩ : ∃ i, i = ixC c s := ⟨_, rfl⟩
  have HI := Aside0.mk (show ∀ W : World, Calls Tryd.prog 82 #[.string s, .string ⟨#[c]⟩] W (fun e w' => e = .returned (.int .i64 i) ∧ w' = W) from fun W => by rw [hi]; exact Tryd.stringslite_Index_one s c W)
  have hl : headC c s = if 0 ≤ i then s.extract 0 i.toNat else s := by rw [hi]; rfl
  have hr : tailC c s = if 0 ≤ i then s.extract (i + 1).toNat s.size else ⟨#[]⟩ := by rw [hi]; rfl
  rw [← hi, hl, hr]
  clear hl hr
  by_cases h0 : 0 ≤ i
  · have hlt := ixC_lt c s (hi ▸ h0)
    rw [← hi] at hlt
    rw [if_pos h0, if_pos h0]
    have d0 : decide (0 ≤ i) = true := decide_eq_true h0
    have q1 : (0 ≤ i) = True := eq_true h0
    have q2 : (i ≤ (s.size : Int)) = True := eq_true (by omega)
    have q3 : (0 ≤ i + 1) = True := eq_true (by omega)
    have q4 : (i + 1 ≤ (s.size : Int)) = True := eq_true (by omega)
    have q5 : IntKind.i64.wrap (i + 1) = i + 1 := (i64_w _).trans (by unfold wrap64; omega)
    rw [d0]
    clear hi h0 hlt hs
    go_enter Tryd.func64, Tryd.ntmps64
    go_wp2_with (go_at_call 82; (with_reducible refine (HI.out _).mono ?_); rintro e w7 ⟨rfl, rfl⟩)
    go_quiet (fail)
    go_wp2
    exact bodyPost_ret (results_tmp3 rfl _ _ _) rfl ⟨rfl, pw_below_drewN (Below.refl _ _) _⟩
  · rw [if_neg h0, if_neg h0]
    have d0 : decide (0 ≤ i) = false := decide_eq_false h0
    rw [d0]
    clear hi h0 hs
    go_enter Tryd.func64, Tryd.ntmps64
    go_wp2_with (go_at_call 82; (with_reducible refine (HI.out _).mono ?_); rintro e w7 ⟨rfl, rfl⟩)
    exact bodyPost_ret (results_tmp3 rfl _ _ _) rfl ⟨rfl, Below.refl _ _⟩
set_option maxHeartbeats 4000000 in
theorem cut_calls (c : UInt8) (s : ByteArray) (w : World) (hs : s.size ≤ 140737488351232) : Calls Tryd.prog 52 #[.string s, .string ⟨#[c]⟩] w fun e w' => e = .returned (.tuple #[.string (headC c s), .string (tailC c s), .bool (decide (0 ≤ ixC c s))]) ∧ Below w.heap.size w w' := by
  have HC := Aside0.mk (fun W : World => cutIn_calls c s W hs)
  generalize headC c s = l1 at HC ⊢
  generalize tailC c s = l2 at HC ⊢
  generalize decide (0 ≤ ixC c s) = b at HC ⊢
  go_enter Tryd.func52, Tryd.ntmps52
  go_wp2_with (go_at_call 64; (with_reducible refine (HC.out _).mono ?_); rintro e w7 ⟨rfl, hb⟩; have HB := Aside0.mk hb; clear hb)
  exact bodyPost_ret (results_tmp3 rfl _ _ _) rfl ⟨rfl, HB.out⟩
/-- strings.Cut in the printed form, at a separator of one byte. -/
def strings_Cut.f (s p : ByteArray) : Option (ByteArray × ByteArray × Bool) := if s.size ≤ 140737488351232 then (match p.data.toList with | [c] => some (headC c s, tailC c s, decide (0 ≤ ixC c s)) | _ => none) else none
theorem strings_Cut.calls (a0 a1 : ByteArray) (r1 r2 : ByteArray) (r3 : Bool) (w : World) (h : strings_Cut.f a0 a1 = some (r1, r2, r3)) : Calls Tryd.prog 52 #[.string a0, .string a1] w fun e w' => e = .returned (.tuple #[.string r1, .string r2, .bool r3]) ∧ Below w.heap.size w w' := by
  unfold strings_Cut.f at h
  split at h
  · rename_i hs
    split at h
    · rename_i c hc
      have e : a1 = ⟨#[c]⟩ := by
        apply ByteArray.ext
        apply Array.ext'
        exact hc
      obtain ⟨rfl, h2⟩ := Prod.mk.inj (Option.some.inj h)
      obtain ⟨rfl, rfl⟩ := Prod.mk.inj h2
      rw [e]
      exact cut_calls c a0 w hs
    · cases h
  · cases h
end Go.Proofs.YtefhngadeimklaaDoor.Q
end
section
namespace Go.Proofs.YtefhngadeimklaaDoor.Q
open Go.RowKit Go.Proofs.YtefhngadeimklaaDoorW.PrintWords Go.Proofs.YtefhngadeimklaaDoorW.PrintLast Go.Proofs.YtefhngadeimklaaDoorW.PrintMore
set_option linter.unusedVariables false
set_option linter.unusedSimpArgs false

attribute [local go_sem] max2_int min2_int max_two min_two max_three min_three max_four min_four
/-! ### vars_Decode: function 28 -/
def vars_Decode.l0 : Nat → List (S40) → ByteArray → Option ((List (S40)) × Int)
  | 0, _, _ => none
  | k + 1, x4, x5 => if x5.toList = ([] : List UInt8) then ((vars_Right.f k x4).bind fun t29001 => (if t29001 = true then (some (x4, 0)) else (some (([] : List (S40)), 15)))) else ((strings_Cut.f x5 (⟨#[0]⟩ : ByteArray)).bind fun bt29002 => ((strings_Cut.f bt29002.1 (⟨#[61]⟩ : ByteArray)).bind fun bt29005 => (if bt29002.2.2 = true then (if bt29005.2.2 = true then (if x4.length < 4398046511104 then (vars_Decode.l0 k (x4 ++ [(⟨bt29005.1, bt29005.2.1⟩ : S40)]) bt29002.2.1) else (none)) else (some (([] : List (S40)), 15))) else (some (([] : List (S40)), 15)))))
def vars_Decode.f (k : Nat) (l0 : List Int) : Option ((List (S40)) × Int) := vars_Decode.l0 k ([] : List (S40)) (strOfNums l0)
set_option maxHeartbeats 8000000 in
set_option maxRecDepth 100000 in
theorem vars_Decode.calls (k : Nat) (A0 : Option Addr) (c0 : Nat) (l0 : List Int) (r1 : List (S40)) (r2 : Int) (w : World) (ht : Tabs w) (hr0 : Kd.C (Kd.int .u8) w A0 l0.length l0) (hc0 : l0.length ≤ c0) (h : vars_Decode.f k l0 = some (r1, r2)) :
    Calls Tryd.prog 28 #[.slice A0 l0.length c0] w fun e w' => ∃ v0_ : Value, e = .returned (.tuple #[v0_, .int .i64 r2]) ∧ Kd.R k40 40 w' w.heap.size (fun _ => True) v0_ r1 ∧ Below w.heap.size w w' := by
  have hu40 := Tryd.underlying40
  have HR0 := Aside0.mk hr0
  have HC0 := Aside0.mk hc0
  clear hr0 hc0
  have HB := Aside0.mk (Below.refl w.heap.size w)
  have H : (vars_Decode.l0 k ([] : List (S40)) (strOfNums l0)) = some (r1, r2) := h
  clear h
  have H' := Aside0.mk H
  clear H
  have hcv2 := Kd.C_string (P := Tryd.prog) (A := A0) (c := c0) Tryd.underlying42 Tryd.underlying5 Tryd.underlying9 HR0.out
  go_enter Tryd.func28, Tryd.ntmps28
  go_wp2
  go_loopg [4, 5] k (fun kq v4 v5 w' => ∃ (x4_1 : List (S40)) (x5_1 : ByteArray), v5 = .string x5_1 ∧ Aside0 (vars_Decode.l0 kq x4_1 x5_1 = some (r1, r2)) ∧ Aside0 (kq ≤ k) ∧ Aside0 (Kd.R k40 40 w' w.heap.size (fun _ => True) v4 x4_1) ∧ Aside0 (Below w.heap.size w w'))
  case atStart => exact ⟨(([] : List (S40))), (strOfNums l0), (by first | rfl | (simp; done) | (simp [*]; done)), H', ⟨Nat.le_refl _⟩, ⟨by first | exact Kd.R_nil _ _ _ _ _ | exact Kd.N_nil _ _ _ _ _ | exact Kd.V_nil _ _ _ _ _ | exact Kd.Q_nil _ _ _ _ _ | exact Kd.S_nil _ _ _ _ _⟩, ⟨by repeat (first | (with_reducible first | exact HB.out | apply below_alloc | apply pw_below_drewN | apply below_drew1) | exact HB.out)⟩⟩
  case round =>
    clear H'
    try clear c2
    try clear p2
    try clear hcv2
    obtain ⟨x4_1, x5_1, rfl, HA, HK1, HO_4, HB⟩ := hrel
    cases gk with
    | zero => exact absurd HA.out (by simp [vars_Decode.l0])
    | succ k1 =>
      have H := HA.out
      clear HA
      simp only [vars_Decode.l0] at H
      by_cases c3 : x5_1.toList = ([] : List UInt8)
      · rw [if_pos c3] at H
        have c3b0 : (x5_1.toList == ([] : List UInt8)) = true := beq_iff_eq.mpr c3
        have c3b1 : (x5_1.toList != ([] : List UInt8)) = false := bne_eq_false_iff_eq.mpr c3
        clear c3
        replace H := Option.bind_eq_some_iff.mp H
        obtain ⟨t29001, A40, H⟩ := H
        replace H : (if t29001 = true then (some (x4_1, 0)) else (some (([] : List (S40)), 15))) = some (r1, r2) := H
        have A4 := Aside0.mk A40
        clear A40
        by_cases c5 : t29001 = true
        · subst c5
          have H1 : (some (x4_1, 0)) = some (r1, r2) := by rw [if_pos rfl] at H; exact H
          clear H
          have H := H1
          clear H1
          simp only [Option.some.injEq, Prod.mk.injEq] at H
          obtain ⟨rfl, rfl⟩ := H
          obtain ⟨Ao6, co6, eo6⟩ := Kd.R_slice HO_4.out
          subst eo6
          go_wp2_with (first | ((with_reducible refine gate_callee (f := 16) rfl ?_); refine goesL_ (some 42) rfl rfl Tryd.func16 (by kernel_rfl) rfl #[.slice Ao6 x4_1.length co6] rfl (by (try simp only [List.map_toArray, List.map_cons, List.map_nil]); first | done | rfl | (simp only [List.length_drop, List.length_take]; rfl)) ?_; (with_reducible refine (vars_Right.calls k1 _ _ x4_1 true _ (Tabs.below ht (by repeat (first | (with_reducible first | exact HB.out | apply below_alloc | apply pw_below_drewN | apply below_drew1 | refine below_set ?_ (Aside0.out (by assumption))) | exact HB.out))) ?side1 ?side2 A4.out).mono ?_); (case side1 => repeat (first | exact (Kd.R_reads' HO_4.out).2.2 | (with_reducible refine Kd.C_alloc ?_ _) | (with_reducible refine Kd.C_drewN ?_ _) | (with_reducible refine Kd.C_drew ?_))); (case side2 => exact (Kd.R_reads' HO_4.out).2.1); rintro e w7 ⟨rfl, hb⟩; refine ⟨_, rfl, ?_⟩; have n0_ := Aside0.mk (Kd.R_below (by (with_reducible repeat (first | apply Kd.R_alloc | apply Kd.R_drewN | apply Kd.R_drew)); exact HO_4.out) hb); have n1_ := Aside0.mk (below_step (by repeat (first | (with_reducible first | exact HB.out | apply below_alloc | apply pw_below_drewN | apply below_drew1) | exact HB.out)) hb); clear HO_4; clear HB; have HO_4 := n0_; have HB := n1_; clear n0_ n1_; (try clear hb); (try clear hb2); (try clear hk); (try clear hi)))
          go_ret2
          exact ⟨_, by first | rfl | (simp [errW_none, errW_some] <;> rfl) | (simp [*, errW_none, errW_some] <;> rfl), by (with_reducible repeat (first | apply Kd.R_alloc | apply Kd.R_drewN | apply Kd.R_drew)); exact HO_4.out, by repeat (first | (with_reducible first | exact HB.out | apply below_alloc | apply pw_below_drewN | apply below_drew1) | exact HB.out)⟩
        · replace c5 := Bool.eq_false_iff.mpr c5
          subst c5
          have H1 : (some (([] : List (S40)), 15)) = some (r1, r2) := by rw [if_neg (show ¬ (false = true) by decide)] at H; exact H
          clear H
          have H := H1
          clear H1
          simp only [Option.some.injEq, Prod.mk.injEq] at H
          obtain ⟨rfl, rfl⟩ := H
          obtain ⟨Ao8, co8, eo8⟩ := Kd.R_slice HO_4.out
          subst eo8
          go_wp2_with (first | ((with_reducible refine gate_callee (f := 16) rfl ?_); refine goesL_ (some 42) rfl rfl Tryd.func16 (by kernel_rfl) rfl #[.slice Ao8 x4_1.length co8] rfl (by (try simp only [List.map_toArray, List.map_cons, List.map_nil]); first | done | rfl | (simp only [List.length_drop, List.length_take]; rfl)) ?_; (with_reducible refine (vars_Right.calls k1 _ _ x4_1 false _ (Tabs.below ht (by repeat (first | (with_reducible first | exact HB.out | apply below_alloc | apply pw_below_drewN | apply below_drew1 | refine below_set ?_ (Aside0.out (by assumption))) | exact HB.out))) ?side1 ?side2 A4.out).mono ?_); (case side1 => repeat (first | exact (Kd.R_reads' HO_4.out).2.2 | (with_reducible refine Kd.C_alloc ?_ _) | (with_reducible refine Kd.C_drewN ?_ _) | (with_reducible refine Kd.C_drew ?_))); (case side2 => exact (Kd.R_reads' HO_4.out).2.1); rintro e w9 ⟨rfl, hb⟩; refine ⟨_, rfl, ?_⟩; have n0_ := Aside0.mk (Kd.R_below (by (with_reducible repeat (first | apply Kd.R_alloc | apply Kd.R_drewN | apply Kd.R_drew)); exact HO_4.out) hb); have n1_ := Aside0.mk (below_step (by repeat (first | (with_reducible first | exact HB.out | apply below_alloc | apply pw_below_drewN | apply below_drew1) | exact HB.out)) hb); clear HO_4; clear HB; have HO_4 := n0_; have HB := n1_; clear n0_ n1_; (try clear hb); (try clear hb2); (try clear hk); (try clear hi)))
          go_ret2
          exact ⟨_, by first | rfl | (simp [errW_none, errW_some] <;> rfl) | (simp [*, errW_none, errW_some] <;> rfl), by first | exact Kd.R_nil _ _ _ _ _ | exact Kd.N_nil _ _ _ _ _ | exact Kd.V_nil _ _ _ _ _ | exact Kd.Q_nil _ _ _ _ _ | exact Kd.S_nil _ _ _ _ _, by repeat (first | (with_reducible first | exact HB.out | apply below_alloc | apply pw_below_drewN | apply below_drew1) | exact HB.out)⟩
      · rw [if_neg c3] at H
        have c3b0 : (x5_1.toList == ([] : List UInt8)) = false := beq_eq_false_iff_ne.mpr c3
        have c3b1 : (x5_1.toList != ([] : List UInt8)) = true := bne_iff_ne.mpr c3
        replace H := Option.bind_eq_some_iff.mp H
        obtain ⟨⟨t29002, t29003, t29004⟩, A100, H⟩ := H
        replace H : ((strings_Cut.f t29002 (⟨#[61]⟩ : ByteArray)).bind fun bt29005 => (if t29004 = true then (if bt29005.2.2 = true then (if x4_1.length < 4398046511104 then (vars_Decode.l0 k1 (x4_1 ++ [(⟨bt29005.1, bt29005.2.1⟩ : S40)]) t29003) else (none)) else (some (([] : List (S40)), 15))) else (some (([] : List (S40)), 15)))) = some (r1, r2) := H
        have A10 := Aside0.mk A100
        clear A100
        replace H := Option.bind_eq_some_iff.mp H
        obtain ⟨⟨t29005, t29006, t29007⟩, A110, H⟩ := H
        replace H : (if t29004 = true then (if t29007 = true then (if x4_1.length < 4398046511104 then (vars_Decode.l0 k1 (x4_1 ++ [(⟨t29005, t29006⟩ : S40)]) t29003) else (none)) else (some (([] : List (S40)), 15))) else (some (([] : List (S40)), 15))) = some (r1, r2) := H
        have A11 := Aside0.mk A110
        clear A110
        by_cases c12 : t29004 = true
        · subst c12
          have H1 : (if t29007 = true then (if x4_1.length < 4398046511104 then (vars_Decode.l0 k1 (x4_1 ++ [(⟨t29005, t29006⟩ : S40)]) t29003) else (none)) else (some (([] : List (S40)), 15))) = some (r1, r2) := by rw [if_pos rfl] at H; exact H
          clear H
          have H := H1
          clear H1
          by_cases c13 : t29007 = true
          · subst c13
            have H1 : (if x4_1.length < 4398046511104 then (vars_Decode.l0 k1 (x4_1 ++ [(⟨t29005, t29006⟩ : S40)]) t29003) else (none)) = some (r1, r2) := by rw [if_pos rfl] at H; exact H
            clear H
            have H := H1
            clear H1
            by_cases c14 : x4_1.length < 4398046511104
            · rw [if_pos c14] at H
              have LMc14 := Aside0.mk c14
              clear c14
              obtain ⟨y29008, hy29008⟩ : ∃ y_ : List (S40), y_ = (x4_1 ++ [(⟨t29005, t29006⟩ : S40)]) := ⟨_, rfl⟩
              replace H : (vars_Decode.l0 k1 y29008 t29003) = some (r1, r2) := by first | (rw [hy29008]; with_reducible exact H) | (have H2_ := (Option.bind_some _ _).symm.trans H; rw [hy29008]; with_reducible exact H2_) | (have H2_ := (Option.bind_some _ _).symm.trans H; with_reducible exact H2_) | with_reducible exact H | (rw [hy29008]; exact H) | exact H
              have Ny29008 := Aside0.mk hy29008
              clear hy29008
              have H' := Aside0.mk H
              clear H
              go_wp2_with (first | ((with_reducible refine gate_callee (f := 52) rfl ?_); refine goesL_ (some 18) rfl rfl Tryd.func52 (by kernel_rfl) rfl #[.string x5_1, .string (⟨#[0]⟩ : ByteArray)] rfl (by (try simp only [List.map_toArray, List.map_cons, List.map_nil]); first | done | rfl | (simp only [List.length_drop, List.length_take]; rfl)) ?_; (with_reducible refine (strings_Cut.calls x5_1 (⟨#[0]⟩ : ByteArray) t29002 t29003 true _ A10.out).mono ?_); rintro e w15 ⟨rfl, hb⟩; refine ⟨_, rfl, ?_⟩; have n0_ := Aside0.mk (Kd.R_below (by (with_reducible repeat (first | apply Kd.R_alloc | apply Kd.R_drewN | apply Kd.R_drew)); exact HO_4.out) hb); have n1_ := Aside0.mk (below_step (by repeat (first | (with_reducible first | exact HB.out | apply below_alloc | apply pw_below_drewN | apply below_drew1) | exact HB.out)) hb); clear HO_4; clear HB; have HO_4 := n0_; have HB := n1_; clear n0_ n1_; (try clear hb); (try clear hb2); (try clear hk); (try clear hi)) | ((with_reducible refine gate_callee (f := 52) rfl ?_); refine goesL_ (some 24) rfl rfl Tryd.func52 (by kernel_rfl) rfl #[.string t29002, .string (⟨#[61]⟩ : ByteArray)] rfl (by (try simp only [List.map_toArray, List.map_cons, List.map_nil]); first | done | rfl | (simp only [List.length_drop, List.length_take]; rfl)) ?_; (with_reducible refine (strings_Cut.calls t29002 (⟨#[61]⟩ : ByteArray) t29005 t29006 true _ A11.out).mono ?_); rintro e w16 ⟨rfl, hb⟩; refine ⟨_, rfl, ?_⟩; have n0_ := Aside0.mk (Kd.R_below (by (with_reducible repeat (first | apply Kd.R_alloc | apply Kd.R_drewN | apply Kd.R_drew)); exact HO_4.out) hb); have n1_ := Aside0.mk (below_step (by repeat (first | (with_reducible first | exact HB.out | apply below_alloc | apply pw_below_drewN | apply below_drew1) | exact HB.out)) hb); clear HO_4; clear HB; have HO_4 := n0_; have HB := n1_; clear n0_ n1_; (try clear hb); (try clear hb2); (try clear hk); (try clear hi)) | ((with_reducible refine gate_builtin (b := .append) (xs := #[.tmp 34, .tmp 38]) rfl ?_); at_builtin; refine Kd.R_append k40 (w0 := w) w.heap.size rfl (.tmp 34) (.tmp 38) 22 40 (.agg #[(.string ⟨#[]⟩), (.string ⟨#[]⟩)]) 32 rfl Tryd.underlying22 info40 rfl (by decide) (by omega) u4 x4_1 (⟨t29005, t29006⟩ : S40) [.string t29005, .string t29006] (fun _ => True) (fun _ => False) rfl rfl ?aP (fun _ hk => hk.elim) ?aF ?aO ?aB ?aS ?aL ?_; (case aP => exact k40_mkM _ _ _ (⟨t29005, t29006⟩ : S40)); (case aB => exact (by repeat (first | (with_reducible first | exact HB.out | apply below_alloc | apply pw_below_drewN | apply below_drew1) | exact HB.out))); (case aF => exact (fun _ _ => trivial)); (case aO => exact (by (with_reducible repeat (first | apply Kd.R_alloc | apply Kd.R_drewN | apply Kd.R_drew)); exact HO_4.out)); (case aS => exact (below_size (by repeat (first | (with_reducible first | exact HB.out | apply below_alloc | apply pw_below_drewN | apply below_drew1) | exact HB.out)))); (case aL => have := LMc14.out; omega); intro v29009 w17 ho hb hg hat; rw [← Ny29008.out] at ho; have n0_ := Aside0.mk (hb); have n1_ := Aside0.mk (ho); clear HB; clear HO_4; have HB := n0_; have HO29010 := n1_; clear n0_ n1_; clear ho hb hg hat))
              go_roundg k1
              case measure => have := HK1.out; omega
              case rel => exact ⟨(y29008), (t29003), (by first | rfl | (simp; done) | (simp [*]; done)), H', ⟨by have := HK1.out; omega⟩, ⟨by (with_reducible repeat (first | apply Kd.R_alloc | apply Kd.R_drewN | apply Kd.R_drew)); exact HO29010.out⟩, ⟨by repeat (first | (with_reducible first | exact HB.out | apply below_alloc | apply pw_below_drewN | apply below_drew1) | exact HB.out)⟩⟩
            · rw [if_neg c14] at H
              exact absurd H (by simp)
          · replace c13 := Bool.eq_false_iff.mpr c13
            subst c13
            have H1 : (some (([] : List (S40)), 15)) = some (r1, r2) := by rw [if_neg (show ¬ (false = true) by decide)] at H; exact H
            clear H
            have H := H1
            clear H1
            simp only [Option.some.injEq, Prod.mk.injEq] at H
            obtain ⟨rfl, rfl⟩ := H
            go_wp2_with (first | ((with_reducible refine gate_callee (f := 52) rfl ?_); refine goesL_ (some 18) rfl rfl Tryd.func52 (by kernel_rfl) rfl #[.string x5_1, .string (⟨#[0]⟩ : ByteArray)] rfl (by (try simp only [List.map_toArray, List.map_cons, List.map_nil]); first | done | rfl | (simp only [List.length_drop, List.length_take]; rfl)) ?_; (with_reducible refine (strings_Cut.calls x5_1 (⟨#[0]⟩ : ByteArray) t29002 t29003 true _ A10.out).mono ?_); rintro e w18 ⟨rfl, hb⟩; refine ⟨_, rfl, ?_⟩; have n0_ := Aside0.mk (Kd.R_below (by (with_reducible repeat (first | apply Kd.R_alloc | apply Kd.R_drewN | apply Kd.R_drew)); exact HO_4.out) hb); have n1_ := Aside0.mk (below_step (by repeat (first | (with_reducible first | exact HB.out | apply below_alloc | apply pw_below_drewN | apply below_drew1) | exact HB.out)) hb); clear HO_4; clear HB; have HO_4 := n0_; have HB := n1_; clear n0_ n1_; (try clear hb); (try clear hb2); (try clear hk); (try clear hi)) | ((with_reducible refine gate_callee (f := 52) rfl ?_); refine goesL_ (some 24) rfl rfl Tryd.func52 (by kernel_rfl) rfl #[.string t29002, .string (⟨#[61]⟩ : ByteArray)] rfl (by (try simp only [List.map_toArray, List.map_cons, List.map_nil]); first | done | rfl | (simp only [List.length_drop, List.length_take]; rfl)) ?_; (with_reducible refine (strings_Cut.calls t29002 (⟨#[61]⟩ : ByteArray) t29005 t29006 false _ A11.out).mono ?_); rintro e w19 ⟨rfl, hb⟩; refine ⟨_, rfl, ?_⟩; have n0_ := Aside0.mk (Kd.R_below (by (with_reducible repeat (first | apply Kd.R_alloc | apply Kd.R_drewN | apply Kd.R_drew)); exact HO_4.out) hb); have n1_ := Aside0.mk (below_step (by repeat (first | (with_reducible first | exact HB.out | apply below_alloc | apply pw_below_drewN | apply below_drew1) | exact HB.out)) hb); clear HO_4; clear HB; have HO_4 := n0_; have HB := n1_; clear n0_ n1_; (try clear hb); (try clear hb2); (try clear hk); (try clear hi)))
            go_ret2
            exact ⟨_, by first | rfl | (simp [errW_none, errW_some] <;> rfl) | (simp [*, errW_none, errW_some] <;> rfl), by first | exact Kd.R_nil _ _ _ _ _ | exact Kd.N_nil _ _ _ _ _ | exact Kd.V_nil _ _ _ _ _ | exact Kd.Q_nil _ _ _ _ _ | exact Kd.S_nil _ _ _ _ _, by repeat (first | (with_reducible first | exact HB.out | apply below_alloc | apply pw_below_drewN | apply below_drew1) | exact HB.out)⟩
        · replace c12 := Bool.eq_false_iff.mpr c12
          subst c12
          have H1 : (some (([] : List (S40)), 15)) = some (r1, r2) := by rw [if_neg (show ¬ (false = true) by decide)] at H; exact H
          clear H
          have H := H1
          clear H1
          simp only [Option.some.injEq, Prod.mk.injEq] at H
          obtain ⟨rfl, rfl⟩ := H
          go_wp2_with (first | ((with_reducible refine gate_callee (f := 52) rfl ?_); refine goesL_ (some 18) rfl rfl Tryd.func52 (by kernel_rfl) rfl #[.string x5_1, .string (⟨#[0]⟩ : ByteArray)] rfl (by (try simp only [List.map_toArray, List.map_cons, List.map_nil]); first | done | rfl | (simp only [List.length_drop, List.length_take]; rfl)) ?_; (with_reducible refine (strings_Cut.calls x5_1 (⟨#[0]⟩ : ByteArray) t29002 t29003 false _ A10.out).mono ?_); rintro e w20 ⟨rfl, hb⟩; refine ⟨_, rfl, ?_⟩; have n0_ := Aside0.mk (Kd.R_below (by (with_reducible repeat (first | apply Kd.R_alloc | apply Kd.R_drewN | apply Kd.R_drew)); exact HO_4.out) hb); have n1_ := Aside0.mk (below_step (by repeat (first | (with_reducible first | exact HB.out | apply below_alloc | apply pw_below_drewN | apply below_drew1) | exact HB.out)) hb); clear HO_4; clear HB; have HO_4 := n0_; have HB := n1_; clear n0_ n1_; (try clear hb); (try clear hb2); (try clear hk); (try clear hi)) | ((with_reducible refine gate_callee (f := 52) rfl ?_); refine goesL_ (some 24) rfl rfl Tryd.func52 (by kernel_rfl) rfl #[.string t29002, .string (⟨#[61]⟩ : ByteArray)] rfl (by (try simp only [List.map_toArray, List.map_cons, List.map_nil]); first | done | rfl | (simp only [List.length_drop, List.length_take]; rfl)) ?_; (with_reducible refine (strings_Cut.calls t29002 (⟨#[61]⟩ : ByteArray) t29005 t29006 t29007 _ A11.out).mono ?_); rintro e w21 ⟨rfl, hb⟩; refine ⟨_, rfl, ?_⟩; have n0_ := Aside0.mk (Kd.R_below (by (with_reducible repeat (first | apply Kd.R_alloc | apply Kd.R_drewN | apply Kd.R_drew)); exact HO_4.out) hb); have n1_ := Aside0.mk (below_step (by repeat (first | (with_reducible first | exact HB.out | apply below_alloc | apply pw_below_drewN | apply below_drew1) | exact HB.out)) hb); clear HO_4; clear HB; have HO_4 := n0_; have HB := n1_; clear n0_ n1_; (try clear hb); (try clear hb2); (try clear hk); (try clear hi)))
          go_ret2
          exact ⟨_, by first | rfl | (simp [errW_none, errW_some] <;> rfl) | (simp [*, errW_none, errW_some] <;> rfl), by first | exact Kd.R_nil _ _ _ _ _ | exact Kd.N_nil _ _ _ _ _ | exact Kd.V_nil _ _ _ _ _ | exact Kd.Q_nil _ _ _ _ _ | exact Kd.S_nil _ _ _ _ _, by repeat (first | (with_reducible first | exact HB.out | apply below_alloc | apply pw_below_drewN | apply below_drew1) | exact HB.out)⟩

end Go.Proofs.YtefhngadeimklaaDoor.Q
end
section
namespace Go.Proofs.YtefhngadeimklaaDoor.Q
open Go.RowKit Go.Proofs.YtefhngadeimklaaDoorW.PrintWords Go.Proofs.YtefhngadeimklaaDoorW.PrintLast Go.Proofs.YtefhngadeimklaaDoorW.PrintMore
set_option linter.unusedVariables false
set_option linter.unusedSimpArgs false

attribute [local go_sem] max2_int min2_int max_two min_two max_three min_three max_four min_four
/-! ### tinderref19_Decode: function 29 -/
mutual
def tinderref19_Decode.l0 : Nat → List Int → List (S40) → Int → Int → Int → Option ((List (S40)) × Int)
  | 0, _, _, _, _, _ => none
  | k + 1, x0, x4, x5, x6, x7 => if x7 < (x0.length : Int) then (if 0 ≤ x7 then (if (rd x0 x7) = 61 then (tinderref19_Decode.j1 k x0 x4 x5 x6 x7 (decide (x6 < 0))) else (tinderref19_Decode.j1 k x0 x4 x5 x6 x7 false)) else (none)) else (if x5 = (x0.length : Int) then ((tinderref19_Right.f k x4).bind fun t30001 => (if t30001 = true then (some (x4, 0)) else (some (([] : List (S40)), 15)))) else (some (([] : List (S40)), 15)))
def tinderref19_Decode.j1 : Nat → List Int → List (S40) → Int → Int → Int → Bool → Option ((List (S40)) × Int)
  | 0, _, _, _, _, _, _ => none
  | k + 1, x0, x4, x5, x6, x7, x22 => if x22 = true then (tinderref19_Decode.j2 k x0 x4 x5 x7 x7) else (tinderref19_Decode.j2 k x0 x4 x5 x6 x7)
def tinderref19_Decode.j2 : Nat → List Int → List (S40) → Int → Int → Int → Option ((List (S40)) × Int)
  | 0, _, _, _, _, _ => none
  | k + 1, x0, x4, x5, x6, x7 => if 0 ≤ x7 then (if x7 < (x0.length : Int) then (if (rd x0 x7) = 0 then (if x6 < 0 then (some (([] : List (S40)), 15)) else (if 0 ≤ x5 then (if x5 ≤ x6 then (if x6 ≤ (x0.length : Int) then (if 0 ≤ (wrap64 (x6 + 1)) then (if (wrap64 (x6 + 1)) ≤ x7 then (if x7 ≤ (x0.length : Int) then (if x4.length < 4398046511104 then (tinderref19_Decode.l0 k x0 (x4 ++ [(⟨strOfNums ((x0.take (x6 : Int).toNat).drop (x5 : Int).toNat), strOfNums ((x0.take (x7 : Int).toNat).drop ((wrap64 (x6 + 1)) : Int).toNat)⟩ : S40)]) (wrap64 (x7 + 1)) (-1) (wrap64 (x7 + 1))) else (none)) else (none)) else (none)) else (none)) else (none)) else (none)) else (none))) else (tinderref19_Decode.l0 k x0 x4 x5 x6 (wrap64 (x7 + 1)))) else (none)) else (none)
end
def tinderref19_Decode.f (k : Nat) (l0 : List Int) : Option ((List (S40)) × Int) := tinderref19_Decode.l0 k l0 ([] : List (S40)) 0 (-1) 0
theorem tinderref19_Decode.mono_l : ∀ k, (∀ y0 y1 y2 y3 y4, LeO (tinderref19_Decode.l0 k y0 y1 y2 y3 y4) (tinderref19_Decode.l0 (k + 1) y0 y1 y2 y3 y4)) ∧ (∀ y0 y1 y2 y3 y4 y5, LeO (tinderref19_Decode.j1 k y0 y1 y2 y3 y4 y5) (tinderref19_Decode.j1 (k + 1) y0 y1 y2 y3 y4 y5)) ∧ (∀ y0 y1 y2 y3 y4, LeO (tinderref19_Decode.j2 k y0 y1 y2 y3 y4) (tinderref19_Decode.j2 (k + 1) y0 y1 y2 y3 y4))
  | 0 => ⟨fun _ _ _ _ _ r h => by simp [tinderref19_Decode.l0] at h, fun _ _ _ _ _ _ r h => by simp [tinderref19_Decode.j1] at h, fun _ _ _ _ _ r h => by simp [tinderref19_Decode.j2] at h⟩
  | k + 1 => by
    obtain ⟨ih0, ih1, ih2⟩ := tinderref19_Decode.mono_l k
    refine ⟨?_, ?_, ?_⟩
    · intro y0 y1 y2 y3 y4
      unfold tinderref19_Decode.l0
      repeat' first
      | (with_reducible exact ih0 _ _ _ _ _)
      | (with_reducible exact ih1 _ _ _ _ _ _)
      | (with_reducible exact ih2 _ _ _ _ _)
      | (with_reducible exact tinderref19_Right.mono _ _)
      | (with_reducible exact LeO.refl _)
      | (with_reducible exact LeO.none _)
      | (with_reducible refine LeO.ite ?_ ?_)
      | (with_reducible refine LeO.bind ?_ (fun _ => ?_))
      | exact ih0 _ _ _ _ _
      | exact ih1 _ _ _ _ _ _
      | exact ih2 _ _ _ _ _
      | exact tinderref19_Right.mono _ _
      | exact LeO.none _
      | refine LeO.ite ?_ ?_
      | refine LeO.bind ?_ (fun _ => ?_)
    · intro y0 y1 y2 y3 y4 y5
      unfold tinderref19_Decode.j1
      repeat' first
      | (with_reducible exact ih0 _ _ _ _ _)
      | (with_reducible exact ih1 _ _ _ _ _ _)
      | (with_reducible exact ih2 _ _ _ _ _)
      | (with_reducible exact tinderref19_Right.mono _ _)
      | (with_reducible exact LeO.refl _)
      | (with_reducible exact LeO.none _)
      | (with_reducible refine LeO.ite ?_ ?_)
      | (with_reducible refine LeO.bind ?_ (fun _ => ?_))
      | exact ih0 _ _ _ _ _
      | exact ih1 _ _ _ _ _ _
      | exact ih2 _ _ _ _ _
      | exact tinderref19_Right.mono _ _
      | exact LeO.none _
      | refine LeO.ite ?_ ?_
      | refine LeO.bind ?_ (fun _ => ?_)
    · intro y0 y1 y2 y3 y4
      unfold tinderref19_Decode.j2
      repeat' first
      | (with_reducible exact ih0 _ _ _ _ _)
      | (with_reducible exact ih1 _ _ _ _ _ _)
      | (with_reducible exact ih2 _ _ _ _ _)
      | (with_reducible exact tinderref19_Right.mono _ _)
      | (with_reducible exact LeO.refl _)
      | (with_reducible exact LeO.none _)
      | (with_reducible refine LeO.ite ?_ ?_)
      | (with_reducible refine LeO.bind ?_ (fun _ => ?_))
      | exact ih0 _ _ _ _ _
      | exact ih1 _ _ _ _ _ _
      | exact ih2 _ _ _ _ _
      | exact tinderref19_Right.mono _ _
      | exact LeO.none _
      | refine LeO.ite ?_ ?_
      | refine LeO.bind ?_ (fun _ => ?_)
def tinderref19_Decode.T11 : Bool × List (List Nat × List Nat) := (true, [([], []), ([], []), ([], []), ([], []), ([1, 2, 3], [1, 2, 3]), ([4], [4]), ([], []), ([], []), ([7], [7]), ([], []), ([6, 8, 9], [6, 8, 9]), ([10], [10]), ([5, 11], [5, 11]), ([12], [12]), ([0, 13], [0, 13]), ([14, 14, 0, 1, 2, 3, 4, 5, 6, 7, 8, 9, 10, 11, 12, 13, 14], [0, 14])])
def tinderref19_Decode.B11 : List Nat := [0, 0, 0, 0, 14, 30, 0, 0, 128, 0, 960, 1984, 4094, 8190, 16383, 32767]
theorem tinderref19_Decode.tab11 : rtab .any (opsOf Tryd.f29 11) = tinderref19_Decode.T11 := by kernel_rfl
theorem tinderref19_Decode.bits11 : waitsOk tinderref19_Decode.T11.2 tinderref19_Decode.B11 = true := by kernel_rfl
set_option maxHeartbeats 8000000 in
set_option maxRecDepth 100000 in
theorem tinderref19_Decode.calls (k : Nat) (A0 : Option Addr) (c0 : Nat) (l0 : List Int) (r1 : List (S40)) (r2 : Int) (w : World) (hr0 : Kd.C (Kd.int .u8) w A0 l0.length l0) (hc0 : l0.length ≤ c0) (h : tinderref19_Decode.f k l0 = some (r1, r2)) :
    Calls Tryd.prog 29 #[.slice A0 l0.length c0] w fun e w' => ∃ v0_ : Value, e = .returned (.tuple #[v0_, .int .i64 r2]) ∧ Kd.R k40 40 w' w.heap.size (fun _ => True) v0_ r1 ∧ Below w.heap.size w w' := by
  have hu40 := Tryd.underlying40
  have HR0 := Aside0.mk hr0
  have HC0 := Aside0.mk hc0
  clear hr0 hc0
  have HB := Aside0.mk (Below.refl w.heap.size w)
  have H : (tinderref19_Decode.l0 k l0 ([] : List (S40)) 0 (-1) 0) = some (r1, r2) := h
  clear h
  have H' := Aside0.mk H
  clear H
  go_enter Tryd.func29, Tryd.ntmps29
  go_wp2
  go_loopg [4, 5, 6, 7] k (fun kq v4 v5 v6 v7 w' => ∃ (x4_1 : List (S40)) (x5_1 : Int) (x6_1 : Int) (x7_1 : Int), v5 = .int .i64 x5_1 ∧ v6 = .int .i64 x6_1 ∧ v7 = .int .i64 x7_1 ∧ Aside0 (tinderref19_Decode.l0 kq l0 x4_1 x5_1 x6_1 x7_1 = some (r1, r2)) ∧ Aside0 (kq ≤ k) ∧ Aside0 (Kd.R k40 40 w' w.heap.size (fun _ => True) v4 x4_1) ∧ Aside0 (Below w.heap.size w w'))
  case atStart => exact ⟨(([] : List (S40))), (0), ((-1)), (0), (by first | rfl | (simp; done) | (simp [*]; done)), (by first | rfl | (simp; done) | (simp [*]; done)), (by first | rfl | (simp; done) | (simp [*]; done)), H', ⟨Nat.le_refl _⟩, ⟨by first | exact Kd.R_nil _ _ _ _ _ | exact Kd.N_nil _ _ _ _ _ | exact Kd.V_nil _ _ _ _ _ | exact Kd.Q_nil _ _ _ _ _ | exact Kd.S_nil _ _ _ _ _⟩, ⟨by repeat (first | (with_reducible first | exact HB.out | apply below_alloc | apply pw_below_drewN | apply below_drew1) | exact HB.out)⟩⟩
  case round =>
    clear H'
    obtain ⟨x4_1, x5_1, x6_1, x7_1, rfl, rfl, rfl, HA, HK1, HO_4, HB⟩ := hrel
    cases gk with
    | zero => exact absurd HA.out (by simp [tinderref19_Decode.l0])
    | succ k1 =>
      have H := HA.out
      clear HA
      simp only [tinderref19_Decode.l0] at H
      by_cases c2 : x7_1 < (l0.length : Int)
      · rw [if_pos c2] at H
        have c2b0 : decide (x7_1 < (l0.length : Int)) = true := decide_eq_true c2
        clear c2
        have HC3 := Aside0.mk H
        clear H
        go_upto_region 6 with (fail)
        go_cut [22] (fun v22 wc => ∃ (kq : Nat) (x22_2 : Bool), v22 = .bool x22_2 ∧ Aside0 (tinderref19_Decode.j1 kq l0 x4_1 x5_1 x6_1 x7_1 x22_2 = some (r1, r2)) ∧ Aside0 (kq ≤ k1) ∧ Aside0 (Kd.R k40 40 wc w.heap.size (fun _ => True) u4 x4_1) ∧ Aside0 (Below w.heap.size w wc))
        case first =>
          have H := HC3.out
          clear HC3
          by_cases c4 : 0 ≤ x7_1
          · rw [if_pos c4] at H
            have c4b0 : decide (0 ≤ x7_1) = true := decide_eq_true c4
            clear c4
            (first | rw [c4b0] | (simp only [i64_w, i32_w]; rw [c4b0]) | skip)
            by_cases c5 : (rd l0 x7_1) = 61
            · rw [if_pos c5] at H
              have c5b0 : ((rd l0 x7_1) == 61) = true := beq_iff_eq.mpr c5
              have c5b1 : ((rd l0 x7_1) != 61) = false := bne_eq_false_iff_eq.mpr c5
              clear c5
              have H' := Aside0.mk H
              clear H
              have p30002 : 0 ≤ (x7_1 : Int) := of_decide_eq_true (by first | (with_reducible assumption) | assumption)
              have q30002 : x7_1 < (l0.length : Int) := of_decide_eq_true (by first | (with_reducible assumption) | assumption)
              obtain ⟨ad30002, e30002, hx30002_0⟩ := Kd.at_int HR0.out x7_1 p30002 q30002
              cases e30002
              replace hx30002_0 := (HB.out.cell (World.block_lt_of_cell? w _ hx30002_0)).trans hx30002_0
              replace p30002 := eq_true p30002
              replace q30002 := eq_true q30002
              go_wp2
              go_meet
              case rel => exact ⟨_, (decide (x6_1 < 0)), (by first | rfl | (simp; done) | (simp [*]; done)), H', ⟨by have := HK1.out; first | omega | exact Nat.le_refl _⟩, ⟨by (with_reducible repeat (first | apply Kd.R_alloc | apply Kd.R_drewN | apply Kd.R_drew)); exact HO_4.out⟩, ⟨by repeat (first | (with_reducible first | exact HB.out | apply below_alloc | apply pw_below_drewN | apply below_drew1) | exact HB.out)⟩⟩
            · rw [if_neg c5] at H
              have c5b0 : ((rd l0 x7_1) == 61) = false := beq_eq_false_iff_ne.mpr c5
              have c5b1 : ((rd l0 x7_1) != 61) = true := bne_iff_ne.mpr c5
              have H' := Aside0.mk H
              clear H
              have p30002 : 0 ≤ (x7_1 : Int) := of_decide_eq_true (by first | (with_reducible assumption) | assumption)
              have q30002 : x7_1 < (l0.length : Int) := of_decide_eq_true (by first | (with_reducible assumption) | assumption)
              obtain ⟨ad30002, e30002, hx30002_0⟩ := Kd.at_int HR0.out x7_1 p30002 q30002
              cases e30002
              replace hx30002_0 := (HB.out.cell (World.block_lt_of_cell? w _ hx30002_0)).trans hx30002_0
              replace p30002 := eq_true p30002
              replace q30002 := eq_true q30002
              go_wp2
              go_meet
              case rel => exact ⟨_, (false), (by first | rfl | (simp; done) | (simp [*]; done)), H', ⟨by have := HK1.out; first | omega | exact Nat.le_refl _⟩, ⟨by (with_reducible repeat (first | apply Kd.R_alloc | apply Kd.R_drewN | apply Kd.R_drew)); exact HO_4.out⟩, ⟨by repeat (first | (with_reducible first | exact HB.out | apply below_alloc | apply pw_below_drewN | apply below_drew1) | exact HB.out)⟩⟩
          · rw [if_neg c4] at H
            exact absurd H (by simp)
        case rest =>
          clear HC3
          try clear c2
          try clear c2b0
          try clear p2
          try clear p3
          try clear q3
          try clear hx3
          try clear c4
          try clear c4b0
          try clear c5
          try clear c5b0
          try clear c5b1
          try clear hx30002_0
          try clear p30002
          try clear q30002
          obtain ⟨kq, x22_2, rfl, HA, HJ2, HO_4, HB⟩ := hcut
          cases kq with
          | zero => exact absurd HA.out (by simp [tinderref19_Decode.j1])
          | succ kj2 =>
            have H := HA.out
            clear HA
            simp only [tinderref19_Decode.j1] at H
            have HC6 := Aside0.mk H
            clear H
            go_upto_if 22 with (fail)
            go_cut [6] (fun v6 wc => ∃ (kq : Nat) (x6_5 : Int), v6 = .int .i64 x6_5 ∧ Aside0 (tinderref19_Decode.j2 kq l0 x4_1 x5_1 x6_5 x7_1 = some (r1, r2)) ∧ Aside0 (kq ≤ kj2) ∧ Aside0 (Kd.R k40 40 wc w.heap.size (fun _ => True) u4 x4_1) ∧ Aside0 (Below w.heap.size w wc))
            case first =>
              have H := HC6.out
              clear HC6
              by_cases c7 : x22_2 = true
              · subst c7
                have H1 : (tinderref19_Decode.j2 kj2 l0 x4_1 x5_1 x7_1 x7_1) = some (r1, r2) := by rw [if_pos rfl] at H; exact H
                clear H
                have H := H1
                clear H1
                have H' := Aside0.mk H
                clear H
                go_wp2
                go_meet
                case rel => exact ⟨_, (x7_1), (by first | rfl | (simp; done) | (simp [*]; done)), H', ⟨by have := HK1.out; have := HJ2.out; first | omega | exact Nat.le_refl _⟩, ⟨by (with_reducible repeat (first | apply Kd.R_alloc | apply Kd.R_drewN | apply Kd.R_drew)); exact HO_4.out⟩, ⟨by repeat (first | (with_reducible first | exact HB.out | apply below_alloc | apply pw_below_drewN | apply below_drew1) | exact HB.out)⟩⟩
              · replace c7 := Bool.eq_false_iff.mpr c7
                subst c7
                have H1 : (tinderref19_Decode.j2 kj2 l0 x4_1 x5_1 x6_1 x7_1) = some (r1, r2) := by rw [if_neg (show ¬ (false = true) by decide)] at H; exact H
                clear H
                have H := H1
                clear H1
                have H' := Aside0.mk H
                clear H
                go_wp2
                go_meet
                case rel => exact ⟨_, (x6_1), (by first | rfl | (simp; done) | (simp [*]; done)), H', ⟨by have := HK1.out; have := HJ2.out; first | omega | exact Nat.le_refl _⟩, ⟨by (with_reducible repeat (first | apply Kd.R_alloc | apply Kd.R_drewN | apply Kd.R_drew)); exact HO_4.out⟩, ⟨by repeat (first | (with_reducible first | exact HB.out | apply below_alloc | apply pw_below_drewN | apply below_drew1) | exact HB.out)⟩⟩
            case rest =>
              clear HC6
              try clear c2
              try clear c2b0
              try clear p2
              try clear p3
              try clear q3
              try clear hx3
              try clear c4
              try clear c4b0
              try clear c5
              try clear c5b0
              try clear c5b1
              try clear c7
              try clear hx30002_0
              try clear p2
              try clear p3
              try clear p30002
              try clear q3
              try clear q30002
              obtain ⟨kq, x6_5, rfl, HA, HJ5, HO_4, HB⟩ := hcut
              cases kq with
              | zero => exact absurd HA.out (by simp [tinderref19_Decode.j2])
              | succ kj5 =>
                have H := HA.out
                clear HA
                simp only [tinderref19_Decode.j2] at H
                by_cases c8 : 0 ≤ x7_1
                · rw [if_pos c8] at H
                  have c8b0 : decide (0 ≤ x7_1) = true := decide_eq_true c8
                  clear c8
                  by_cases c9 : x7_1 < (l0.length : Int)
                  · rw [if_pos c9] at H
                    have c9b0 : decide (x7_1 < (l0.length : Int)) = true := decide_eq_true c9
                    clear c9
                    by_cases c10 : (rd l0 x7_1) = 0
                    · rw [if_pos c10] at H
                      have c10b0 : ((rd l0 x7_1) == 0) = true := beq_iff_eq.mpr c10
                      have c10b1 : ((rd l0 x7_1) != 0) = false := bne_eq_false_iff_eq.mpr c10
                      clear c10
                      by_cases c11 : x6_5 < 0
                      · rw [if_pos c11] at H
                        have c11b0 : decide (x6_5 < 0) = true := decide_eq_true c11
                        clear c11
                        simp only [Option.some.injEq, Prod.mk.injEq] at H
                        obtain ⟨rfl, rfl⟩ := H
                        have p30003 : 0 ≤ (x7_1 : Int) := of_decide_eq_true (by first | (with_reducible assumption) | assumption)
                        have q30003 : x7_1 < (l0.length : Int) := of_decide_eq_true (by first | (with_reducible assumption) | assumption)
                        obtain ⟨ad30003, e30003, hx30003_0⟩ := Kd.at_int HR0.out x7_1 p30003 q30003
                        cases e30003
                        replace hx30003_0 := (HB.out.cell (World.block_lt_of_cell? w _ hx30003_0)).trans hx30003_0
                        replace p30003 := eq_true p30003
                        replace q30003 := eq_true q30003
                        go_wp2
                        go_ret2
                        exact ⟨_, by first | rfl | (simp [errW_none, errW_some] <;> rfl) | (simp [*, errW_none, errW_some] <;> rfl), by first | exact Kd.R_nil _ _ _ _ _ | exact Kd.N_nil _ _ _ _ _ | exact Kd.V_nil _ _ _ _ _ | exact Kd.Q_nil _ _ _ _ _ | exact Kd.S_nil _ _ _ _ _, by repeat (first | (with_reducible first | exact HB.out | apply below_alloc | apply pw_below_drewN | apply below_drew1) | exact HB.out)⟩
                      · rw [if_neg c11] at H
                        have c11b0 : decide (x6_5 < 0) = false := decide_eq_false c11
                        clear c11
                        by_cases c12 : 0 ≤ x5_1
                        · rw [if_pos c12] at H
                          have c12b0 := eq_true c12
                          have c12b1 : decide (0 ≤ x5_1) = true := decide_eq_true c12
                          clear c12
                          by_cases c13 : x5_1 ≤ x6_5
                          · rw [if_pos c13] at H
                            have c13b0 := eq_true c13
                            have c13b1 : decide (x5_1 ≤ x6_5) = true := decide_eq_true c13
                            clear c13
                            by_cases c14 : x6_5 ≤ (l0.length : Int)
                            · rw [if_pos c14] at H
                              have c14b0 := eq_true c14
                              have c14b1 : decide (x6_5 ≤ (l0.length : Int)) = true := decide_eq_true c14
                              clear c14
                              obtain ⟨ji15, hji15⟩ : ∃ j_ : Int, (wrap64 (x6_5 + 1)) = j_ := ⟨_, rfl⟩
                              replace H : (if 0 ≤ (ji15) then (if (ji15) ≤ x7_1 then (if x7_1 ≤ (l0.length : Int) then (if x4_1.length < 4398046511104 then (tinderref19_Decode.l0 kj5 l0 (x4_1 ++ [(⟨strOfNums ((l0.take (x6_5 : Int).toNat).drop (x5_1 : Int).toNat), strOfNums ((l0.take (x7_1 : Int).toNat).drop ((ji15) : Int).toNat)⟩ : S40)]) (wrap64 (x7_1 + 1)) (-1) (wrap64 (x7_1 + 1))) else (none)) else (none)) else (none)) else (none)) = some (r1, r2) := by first | (rw [hji15] at H; exact H) | (simp only [hji15] at H ⊢; exact H)
                              have hji15w : (IntKind.i64.wrap (x6_5 + 1)) = ji15 := (i64_w _).trans hji15
                              by_cases c16 : 0 ≤ (ji15)
                              · rw [if_pos c16] at H
                                have c16b0 := eq_true c16
                                have c16b1 : decide (0 ≤ (ji15)) = true := decide_eq_true c16
                                clear c16
                                by_cases c17 : (ji15) ≤ x7_1
                                · rw [if_pos c17] at H
                                  have c17b0 := eq_true c17
                                  have c17b1 : decide ((ji15) ≤ x7_1) = true := decide_eq_true c17
                                  clear c17
                                  by_cases c18 : x7_1 ≤ (l0.length : Int)
                                  · rw [if_pos c18] at H
                                    have c18b0 := eq_true c18
                                    have c18b1 : decide (x7_1 ≤ (l0.length : Int)) = true := decide_eq_true c18
                                    clear c18
                                    by_cases c19 : x4_1.length < 4398046511104
                                    · rw [if_pos c19] at H
                                      have LMc19 := Aside0.mk c19
                                      clear c19
                                      obtain ⟨y30006, hy30006⟩ : ∃ y_ : List (S40), y_ = (x4_1 ++ [(⟨strOfNums ((l0.take (x6_5 : Int).toNat).drop (x5_1 : Int).toNat), strOfNums ((l0.take (x7_1 : Int).toNat).drop ((ji15) : Int).toNat)⟩ : S40)]) := ⟨_, rfl⟩
                                      replace H : (tinderref19_Decode.l0 kj5 l0 y30006 (wrap64 (x7_1 + 1)) (-1) (wrap64 (x7_1 + 1))) = some (r1, r2) := by first | (rw [hy30006]; with_reducible exact H) | (have H2_ := (Option.bind_some _ _).symm.trans H; rw [hy30006]; with_reducible exact H2_) | (have H2_ := (Option.bind_some _ _).symm.trans H; with_reducible exact H2_) | with_reducible exact H | (rw [hy30006]; exact H) | exact H
                                      have Ny30006 := Aside0.mk hy30006
                                      clear hy30006
                                      have H' := Aside0.mk H
                                      clear H
                                      have p30003 : 0 ≤ (x7_1 : Int) := of_decide_eq_true (by first | (with_reducible assumption) | assumption)
                                      have q30003 : x7_1 < (l0.length : Int) := of_decide_eq_true (by first | (with_reducible assumption) | assumption)
                                      obtain ⟨ad30003, e30003, hx30003_0⟩ := Kd.at_int HR0.out x7_1 p30003 q30003
                                      cases e30003
                                      replace hx30003_0 := (HB.out.cell (World.block_lt_of_cell? w _ hx30003_0)).trans hx30003_0
                                      replace p30003 := eq_true p30003
                                      replace q30003 := eq_true q30003
                                      obtain ⟨Ao20, co20, eo20⟩ := Kd.R_slice HO_4.out
                                      subst eo20
                                      try go_wp2
                                      have n0_ := Aside0.mk (Kd.R_drew HO_4.out)
                                      have n1_ := Aside0.mk (below_drew1 HB.out)
                                      clear HO_4
                                      clear HB
                                      have HO_4 := n0_
                                      have HB := n1_
                                      clear n0_ n1_
                                      obtain ⟨i022, hi022, _, hsz22, _⟩ := info_parts info5
                                      obtain ⟨A22, hcut22, hA22, hC22⟩ := print_mid_of (P := Tryd.prog) (Value.int .u8) 0 42 5 .i64 .i64 Tryd.underlying42 hi022 hsz22 (some ad30003) c0 l0 x5_1 x6_5 (of_decide_eq_true (by first | (with_reducible assumption) | assumption)) (by first | omega | exact of_decide_eq_true (by first | (with_reducible assumption) | assumption)) (of_decide_eq_true (by first | (with_reducible assumption) | assumption)) HC0.out
                                      have HR30004 := Aside0.mk (Kd.C_of_reads (h1 := fun _ => rfl) (hA22 _ (Kd.reads_of_C HR0.out)))
                                      have HC30004 := Aside0.mk hC22
                                      clear hA22 hC22 hi022 hsz22
                                      obtain ⟨i023, hi023, _, hsz23, _⟩ := info_parts info5
                                      obtain ⟨A23, hcut23, hA23, hC23⟩ := print_mid_of (P := Tryd.prog) (Value.int .u8) 0 42 5 .i64 .i64 Tryd.underlying42 hi023 hsz23 (some ad30003) c0 l0 (ji15) x7_1 (of_decide_eq_true (by first | (with_reducible assumption) | assumption)) (by first | omega | exact of_decide_eq_true (by first | (with_reducible assumption) | assumption)) (of_decide_eq_true (by first | (with_reducible assumption) | assumption)) HC0.out
                                      have HR30005 := Aside0.mk (Kd.C_of_reads (h1 := fun _ => rfl) (hA23 _ (Kd.reads_of_C HR0.out)))
                                      have HC30005 := Aside0.mk hC23
                                      clear hA23 hC23 hi023 hsz23
                                      have hcv24 := Kd.C_string (P := Tryd.prog) (A := A22) (c := (c0 - x5_1.toNat)) Tryd.underlying42 Tryd.underlying5 Tryd.underlying9 (Kd.C_below HR30004.out HB.out)
                                      have hcv25 := Kd.C_string (P := Tryd.prog) (A := A23) (c := (c0 - (ji15).toNat)) Tryd.underlying42 Tryd.underlying5 Tryd.underlying9 (Kd.C_below HR30005.out HB.out)
                                      refine start_ (n := 16) (S := fun w' => Below w.heap.size w w') (ds := []) #[false, false, false, false, false, false, false, false, false, false, false, false, false, false, false, false] (by kernel_rfl) rfl rfl HB.out (fun hHeld => ?_); refine with_tabW tinderref19_Decode.tab11 tinderref19_Decode.bits11 (fun HT_ HW_ => ?_)
                                      generalize wc.drew = w21 at HO_4 HB HR30004 HR30005 hHeld ⊢
                                      refine pure_ (i := 0) (N := some 31) (v := ?_) (a' := ?_) #[true, false, false, false, false, false, false, false, false, false, false, false, false, false, false, false] rfl rfl (any_of HT_.out (by kernel_rfl)) (fun _ _ _ h => h) (Or.inl ⟨by rfl, ?_⟩) ?_ ?_
                                      rotate_left
                                      · intro w'
                                        go_simp
                                        with_reducible rfl
                                      rotate_left
                                      · simp only [Act.put, List.setIfInBounds_toArray, List.set_cons_zero, List.set_cons_succ, i64_w, i32_w]
                                        rfl
                                      refine pure_ (i := 1) (N := some 32) (v := ?_) (a' := ?_) #[true, true, false, false, false, false, false, false, false, false, false, false, false, false, false, false] rfl rfl (any_of HT_.out (by kernel_rfl)) (fun _ _ _ h => h) (Or.inl ⟨by rfl, ?_⟩) ?_ ?_
                                      rotate_left
                                      · intro w'
                                        go_simp
                                        with_reducible rfl
                                      rotate_left
                                      · simp only [Act.put, List.setIfInBounds_toArray, List.set_cons_zero, List.set_cons_succ, i64_w, i32_w]
                                        rfl
                                      refine pure_ (i := 2) (N := some 33) (v := ?_) (a' := ?_) #[true, true, true, false, false, false, false, false, false, false, false, false, false, false, false, false] rfl rfl (any_of HT_.out (by kernel_rfl)) (fun _ _ _ h => h) (Or.inl ⟨by rfl, ?_⟩) ?_ ?_
                                      rotate_left
                                      · intro w'
                                        go_simp
                                        with_reducible rfl
                                      rotate_left
                                      · simp only [Act.put, List.setIfInBounds_toArray, List.set_cons_zero, List.set_cons_succ, i64_w, i32_w]
                                        rfl
                                      refine pure_ (i := 3) (N := some 34) (v := ?_) (a' := ?_) #[true, true, true, true, false, false, false, false, false, false, false, false, false, false, false, false] rfl rfl (any_of HT_.out (by kernel_rfl)) (fun _ _ _ h => h) (Or.inl ⟨by rfl, ?_⟩) ?_ ?_
                                      rotate_left
                                      · intro w'
                                        go_simp
                                        with_reducible rfl
                                      rotate_left
                                      · simp only [Act.put, List.setIfInBounds_toArray, List.set_cons_zero, List.set_cons_succ, i64_w, i32_w]
                                        rfl
                                      refine pure_ (i := 4) (N := some 35) (v := ?_) (a' := ?_) #[true, true, true, true, true, false, false, false, false, false, false, false, false, false, false, false] rfl rfl (any_of HT_.out (by kernel_rfl)) (fun _ _ _ h => h) (Or.inl ⟨by rfl, ?_⟩) ?_ ?_
                                      rotate_left
                                      · intro w'
                                        go_simp
                                        with_reducible rfl
                                      rotate_left
                                      · simp only [Act.put, List.setIfInBounds_toArray, List.set_cons_zero, List.set_cons_succ, i64_w, i32_w]
                                        rfl
                                      refine take_ (i := 5) (N := some 36) (v := ?_) (a' := ?_) #[true, true, true, true, true, true, false, false, false, false, false, false, false, false, false, false] rfl rfl (take_of HT_.out (by kernel_rfl)) (fun _ _ _ h => h) (Or.inl ⟨by rfl, ?_⟩) hHeld ?_ ?_
                                      rotate_left
                                      · intro w' s0
                                        have f_ : x6_5 ≤ (l0.length : Int) := of_decide_eq_true (by first | (with_reducible assumption) | assumption)
                                        have hcv_ := Kd.C_string (P := Tryd.prog) (A := A22) (c := (c0 - (x5_1).toNat)) Tryd.underlying42 Tryd.underlying5 Tryd.underlying9 (Kd.C_below HR30004.out s0)
                                        rw [show ((l0.take (x6_5 : Int).toNat).drop (x5_1 : Int).toNat).length = (x6_5).toNat - (x5_1).toNat from by rw [List.length_drop, List.length_take]; omega] at hcv_
                                        clear f_
                                        go_simp
                                        with_reducible rfl
                                      rotate_left
                                      · simp only [Act.put, List.setIfInBounds_toArray, List.set_cons_zero, List.set_cons_succ, i64_w, i32_w]
                                        rfl
                                      refine pure_ (i := 6) (N := some 37) (v := ?_) (a' := ?_) #[true, true, true, true, true, true, true, false, false, false, false, false, false, false, false, false] rfl rfl (any_of HT_.out (by kernel_rfl)) (fun _ _ _ h => h) (Or.inl ⟨by rfl, ?_⟩) ?_ ?_
                                      rotate_left
                                      · intro w'
                                        go_simp
                                        with_reducible rfl
                                      rotate_left
                                      · simp only [Act.put, List.setIfInBounds_toArray, List.set_cons_zero, List.set_cons_succ, i64_w, i32_w]
                                        rfl
                                      refine pure_ (i := 7) (N := some 38) (v := ?_) (a' := ?_) #[true, true, true, true, true, true, true, true, false, false, false, false, false, false, false, false] rfl rfl (any_of HT_.out (by kernel_rfl)) (fun _ _ _ h => h) (Or.inl ⟨by rfl, ?_⟩) ?_ ?_
                                      rotate_left
                                      · intro w'
                                        go_simp
                                        with_reducible rfl
                                      rotate_left
                                      · simp only [Act.put, List.setIfInBounds_toArray, List.set_cons_zero, List.set_cons_succ, i64_w, i32_w]
                                        rfl
                                      refine pure_ (i := 8) (N := some 39) (v := ?_) (a' := ?_) #[true, true, true, true, true, true, true, true, true, false, false, false, false, false, false, false] rfl rfl (any_of HT_.out (by kernel_rfl)) (fun _ _ _ h => h) (Or.inl ⟨by rfl, ?_⟩) ?_ ?_
                                      rotate_left
                                      · intro w'
                                        go_simp
                                        with_reducible rfl
                                      rotate_left
                                      · simp only [Act.put, List.setIfInBounds_toArray, List.set_cons_zero, List.set_cons_succ, i64_w, i32_w]
                                        rfl
                                      refine pure_ (i := 9) (N := some 40) (v := ?_) (a' := ?_) #[true, true, true, true, true, true, true, true, true, true, false, false, false, false, false, false] rfl rfl (any_of HT_.out (by kernel_rfl)) (fun _ _ _ h => h) (Or.inl ⟨by rfl, ?_⟩) ?_ ?_
                                      rotate_left
                                      · intro w'
                                        go_simp
                                        with_reducible rfl
                                      rotate_left
                                      · simp only [Act.put, List.setIfInBounds_toArray, List.set_cons_zero, List.set_cons_succ, i64_w, i32_w]
                                        rfl
                                      refine pure_ (i := 10) (N := some 41) (v := ?_) (a' := ?_) #[true, true, true, true, true, true, true, true, true, true, true, false, false, false, false, false] rfl rfl (any_of HT_.out (by kernel_rfl)) (fun _ _ _ h => h) (Or.inl ⟨by rfl, ?_⟩) ?_ ?_
                                      rotate_left
                                      · intro w'
                                        go_simp
                                        with_reducible rfl
                                      rotate_left
                                      · simp only [Act.put, List.setIfInBounds_toArray, List.set_cons_zero, List.set_cons_succ, i64_w, i32_w]
                                        rfl
                                      refine take_ (i := 11) (N := some 42) (v := ?_) (a' := ?_) #[true, true, true, true, true, true, true, true, true, true, true, true, false, false, false, false] rfl rfl (take_of HT_.out (by kernel_rfl)) (fun _ _ _ h => h) (Or.inl ⟨by rfl, ?_⟩) hHeld ?_ ?_
                                      rotate_left
                                      · intro w' s0
                                        have f_ : x7_1 ≤ (l0.length : Int) := of_decide_eq_true (by first | (with_reducible assumption) | assumption)
                                        have hcv_ := Kd.C_string (P := Tryd.prog) (A := A23) (c := (c0 - (ji15).toNat)) Tryd.underlying42 Tryd.underlying5 Tryd.underlying9 (Kd.C_below HR30005.out s0)
                                        rw [show ((l0.take (x7_1 : Int).toNat).drop (ji15 : Int).toNat).length = (x7_1).toNat - (ji15).toNat from by rw [List.length_drop, List.length_take]; omega] at hcv_
                                        clear f_
                                        go_simp
                                        with_reducible rfl
                                      rotate_left
                                      · simp only [Act.put, List.setIfInBounds_toArray, List.set_cons_zero, List.set_cons_succ, i64_w, i32_w]
                                        rfl
                                      refine pure_ (i := 12) (N := some 43) (v := ?_) (a' := ?_) #[true, true, true, true, true, true, true, true, true, true, true, true, true, false, false, false] rfl rfl (any_of HT_.out (by kernel_rfl)) (fun _ _ _ h => h) (Or.inl ⟨by rfl, ?_⟩) ?_ ?_
                                      rotate_left
                                      · intro w'
                                        go_simp
                                        with_reducible rfl
                                      rotate_left
                                      · simp only [Act.put, List.setIfInBounds_toArray, List.set_cons_zero, List.set_cons_succ, i64_w, i32_w]
                                        rfl
                                      refine one_ (i := 13) (N := some 44) #[true, true, true, true, true, true, true, true, true, true, true, true, true, true, false, false] rfl rfl (one_of HT_.out (by kernel_rfl)) (by decide) (fun K hK => ?_)
                                      refine value_ (w1 := ?_) (v := ?_) (by rfl) rfl ?_ ?_
                                      rotate_left 2
                                      · go_simp
                                        constructor
                                        · rfl
                                        · rfl
                                      refine hK.out _ _ (by repeat (first | (with_reducible first | exact HB.out | apply below_alloc) | exact HB.out)) (fun hHeld => ?_)
                                      clear hK K
                                      refine norm_ (a' := ?_) ?_ ?_
                                      rotate_left
                                      · show Act.put _ (some 44) _ = _
                                        simp only [Act.put, List.setIfInBounds_toArray, List.set_cons_zero, List.set_cons_succ, i64_w, i32_w]
                                        rfl
                                      refine one_ (i := 14) (N := some 45) #[true, true, true, true, true, true, true, true, true, true, true, true, true, true, true, false] rfl rfl (one_of HT_.out (by kernel_rfl)) (by decide) (fun K hK => ?_)
                                      refine Kd.R_append_step k40 (w0 := w) w.heap.size (by rfl) (.tmp 31) (.tmp 44) 22 40 (.agg #[(.string ⟨#[]⟩), (.string ⟨#[]⟩)]) 32 rfl Tryd.underlying22 info40 rfl (by decide) (by omega) (.slice Ao20 x4_1.length co20) x4_1 (⟨strOfNums ((l0.take (x6_5 : Int).toNat).drop (x5_1 : Int).toNat), strOfNums ((l0.take (x7_1 : Int).toNat).drop ((ji15) : Int).toNat)⟩ : S40) [.string (strOfNums ((l0.take (x6_5 : Int).toNat).drop (x5_1 : Int).toNat)), .string (strOfNums ((l0.take (x7_1 : Int).toNat).drop ((ji15) : Int).toNat))] (fun _ => True) (fun _ => False) rfl rfl ?aP (fun _ hk => hk.elim) ?aF ?aO ?aB ?aS ?aL ?_
                                      (case aP => exact k40_mkM _ _ _ (⟨strOfNums ((l0.take (x6_5 : Int).toNat).drop (x5_1 : Int).toNat), strOfNums ((l0.take (x7_1 : Int).toNat).drop ((ji15) : Int).toNat)⟩ : S40))
                                      (case aB => exact (by repeat (first | (with_reducible first | exact HB.out | apply below_alloc | apply pw_below_drewN | apply below_drew1) | exact HB.out)))
                                      (case aF => exact (fun _ _ => trivial))
                                      (case aO => exact (by (with_reducible repeat (first | apply Kd.R_alloc | apply Kd.R_drewN | apply Kd.R_drew)); exact HO_4.out))
                                      (case aS => exact (below_size (by repeat (first | (with_reducible first | exact HB.out | apply below_alloc | apply pw_below_drewN | apply below_drew1) | exact HB.out))))
                                      (case aL => have := LMc19.out; omega)
                                      intro v30007 w27 ho hb hg hat
                                      rw [← Ny30006.out] at ho
                                      have n0_ := Aside0.mk (hb)
                                      have n1_ := Aside0.mk (ho)
                                      clear HB
                                      clear HO_4
                                      have HB := n0_
                                      have HO30008 := n1_
                                      clear n0_ n1_
                                      clear ho hb hg hat
                                      refine hK.out _ _ (by repeat (first | (with_reducible first | exact HB.out | apply below_alloc) | exact HB.out)) (fun hHeld => ?_)
                                      clear hK K
                                      refine norm_ (a' := ?_) ?_ ?_
                                      rotate_left
                                      · show Act.put _ (some 45) _ = _
                                        simp only [Act.put, List.setIfInBounds_toArray, List.set_cons_zero, List.set_cons_succ, i64_w, i32_w]
                                        rfl
                                      refine pure_ (i := 15) (N := some 4) (v := ?_) (a' := ?_) #[true, true, true, true, true, true, true, true, true, true, true, true, true, true, true, true] rfl rfl (any_of HT_.out (by kernel_rfl)) (fun _ _ _ h => h) (Or.inl ⟨by rfl, ?_⟩) ?_ ?_
                                      rotate_left
                                      · intro w'
                                        go_simp
                                        with_reducible rfl
                                      rotate_left
                                      · simp only [Act.put, List.setIfInBounds_toArray, List.set_cons_zero, List.set_cons_succ, i64_w, i32_w]
                                        rfl
                                      refine done_ (done_of HT_.out (by kernel_rfl)) ?_
                                      try go_wp2
                                      go_roundg kj5
                                      case measure => have := HK1.out; have := HJ2.out; have := HJ5.out; omega
                                      case rel => exact ⟨(y30006), (wrap64 (x7_1 + 1)), ((-1)), (wrap64 (x7_1 + 1)), (by first | rfl | (simp; done) | (simp [*]; done)), (by first | rfl | (simp; done) | (simp [*]; done)), (by first | rfl | (simp; done) | (simp [*]; done)), H', ⟨by have := HK1.out; have := HJ2.out; have := HJ5.out; omega⟩, ⟨by (with_reducible repeat (first | apply Kd.R_alloc | apply Kd.R_drewN | apply Kd.R_drew)); exact HO30008.out⟩, ⟨by repeat (first | (with_reducible first | exact HB.out | apply below_alloc | apply pw_below_drewN | apply below_drew1) | exact HB.out)⟩⟩
                                    · rw [if_neg c19] at H
                                      exact absurd H (by simp)
                                  · rw [if_neg c18] at H
                                    exact absurd H (by simp)
                                · rw [if_neg c17] at H
                                  exact absurd H (by simp)
                              · rw [if_neg c16] at H
                                exact absurd H (by simp)
                            · rw [if_neg c14] at H
                              exact absurd H (by simp)
                          · rw [if_neg c13] at H
                            exact absurd H (by simp)
                        · rw [if_neg c12] at H
                          exact absurd H (by simp)
                    · rw [if_neg c10] at H
                      have c10b0 : ((rd l0 x7_1) == 0) = false := beq_eq_false_iff_ne.mpr c10
                      have c10b1 : ((rd l0 x7_1) != 0) = true := bne_iff_ne.mpr c10
                      have H' := Aside0.mk H
                      clear H
                      have p30003 : 0 ≤ (x7_1 : Int) := of_decide_eq_true (by first | (with_reducible assumption) | assumption)
                      have q30003 : x7_1 < (l0.length : Int) := of_decide_eq_true (by first | (with_reducible assumption) | assumption)
                      obtain ⟨ad30003, e30003, hx30003_0⟩ := Kd.at_int HR0.out x7_1 p30003 q30003
                      cases e30003
                      replace hx30003_0 := (HB.out.cell (World.block_lt_of_cell? w _ hx30003_0)).trans hx30003_0
                      replace p30003 := eq_true p30003
                      replace q30003 := eq_true q30003
                      go_wp2
                      go_roundg kj5
                      case measure => have := HK1.out; have := HJ2.out; have := HJ5.out; omega
                      case rel => exact ⟨(x4_1), (x5_1), (x6_5), (wrap64 (x7_1 + 1)), (by first | rfl | (simp; done) | (simp [*]; done)), (by first | rfl | (simp; done) | (simp [*]; done)), (by first | rfl | (simp; done) | (simp [*]; done)), H', ⟨by have := HK1.out; have := HJ2.out; have := HJ5.out; omega⟩, ⟨by (with_reducible repeat (first | apply Kd.R_alloc | apply Kd.R_drewN | apply Kd.R_drew)); exact HO_4.out⟩, ⟨by repeat (first | (with_reducible first | exact HB.out | apply below_alloc | apply pw_below_drewN | apply below_drew1) | exact HB.out)⟩⟩
                  · rw [if_neg c9] at H
                    exact absurd H (by simp)
                · rw [if_neg c8] at H
                  exact absurd H (by simp)
      · rw [if_neg c2] at H
        have c2b0 : decide (x7_1 < (l0.length : Int)) = false := decide_eq_false c2
        clear c2
        by_cases c28 : x5_1 = (l0.length : Int)
        · rw [if_pos c28] at H
          have c28b0 : (x5_1 == (l0.length : Int)) = true := beq_iff_eq.mpr c28
          have c28b1 : (x5_1 != (l0.length : Int)) = false := bne_eq_false_iff_eq.mpr c28
          clear c28
          replace H := Option.bind_eq_some_iff.mp H
          obtain ⟨t30001, A290, H⟩ := H
          replace H : (if t30001 = true then (some (x4_1, 0)) else (some (([] : List (S40)), 15))) = some (r1, r2) := H
          have A29 := Aside0.mk A290
          clear A290
          by_cases c30 : t30001 = true
          · subst c30
            have H1 : (some (x4_1, 0)) = some (r1, r2) := by rw [if_pos rfl] at H; exact H
            clear H
            have H := H1
            clear H1
            simp only [Option.some.injEq, Prod.mk.injEq] at H
            obtain ⟨rfl, rfl⟩ := H
            obtain ⟨Ao31, co31, eo31⟩ := Kd.R_slice HO_4.out
            subst eo31
            go_wp2_with (first | (go_at_call 25; (with_reducible refine (tinderref19_Right.calls k1 _ _ x4_1 true _ ?side1 ?side2 A29.out).mono ?_); (case side1 => repeat (first | exact (Kd.R_reads' HO_4.out).2.2 | (with_reducible refine Kd.C_alloc ?_ _) | (with_reducible refine Kd.C_drewN ?_ _) | (with_reducible refine Kd.C_drew ?_))); (case side2 => exact (Kd.R_reads' HO_4.out).2.1); rintro e w32 ⟨rfl, hb⟩; have n0_ := Aside0.mk (Kd.R_below (by (with_reducible repeat (first | apply Kd.R_alloc | apply Kd.R_drewN | apply Kd.R_drew)); exact HO_4.out) hb); have n1_ := Aside0.mk (below_step (by repeat (first | (with_reducible first | exact HB.out | apply below_alloc | apply pw_below_drewN | apply below_drew1) | exact HB.out)) hb); clear HO_4; clear HB; have HO_4 := n0_; have HB := n1_; clear n0_ n1_; (try clear hb); (try clear hb2); (try clear hk); (try clear hi)))
            go_ret2
            exact ⟨_, by first | rfl | (simp [errW_none, errW_some] <;> rfl) | (simp [*, errW_none, errW_some] <;> rfl), by (with_reducible repeat (first | apply Kd.R_alloc | apply Kd.R_drewN | apply Kd.R_drew)); exact HO_4.out, by repeat (first | (with_reducible first | exact HB.out | apply below_alloc | apply pw_below_drewN | apply below_drew1) | exact HB.out)⟩
          · replace c30 := Bool.eq_false_iff.mpr c30
            subst c30
            have H1 : (some (([] : List (S40)), 15)) = some (r1, r2) := by rw [if_neg (show ¬ (false = true) by decide)] at H; exact H
            clear H
            have H := H1
            clear H1
            simp only [Option.some.injEq, Prod.mk.injEq] at H
            obtain ⟨rfl, rfl⟩ := H
            obtain ⟨Ao33, co33, eo33⟩ := Kd.R_slice HO_4.out
            subst eo33
            go_wp2_with (first | (go_at_call 25; (with_reducible refine (tinderref19_Right.calls k1 _ _ x4_1 false _ ?side1 ?side2 A29.out).mono ?_); (case side1 => repeat (first | exact (Kd.R_reads' HO_4.out).2.2 | (with_reducible refine Kd.C_alloc ?_ _) | (with_reducible refine Kd.C_drewN ?_ _) | (with_reducible refine Kd.C_drew ?_))); (case side2 => exact (Kd.R_reads' HO_4.out).2.1); rintro e w34 ⟨rfl, hb⟩; have n0_ := Aside0.mk (Kd.R_below (by (with_reducible repeat (first | apply Kd.R_alloc | apply Kd.R_drewN | apply Kd.R_drew)); exact HO_4.out) hb); have n1_ := Aside0.mk (below_step (by repeat (first | (with_reducible first | exact HB.out | apply below_alloc | apply pw_below_drewN | apply below_drew1) | exact HB.out)) hb); clear HO_4; clear HB; have HO_4 := n0_; have HB := n1_; clear n0_ n1_; (try clear hb); (try clear hb2); (try clear hk); (try clear hi)))
            go_ret2
            exact ⟨_, by first | rfl | (simp [errW_none, errW_some] <;> rfl) | (simp [*, errW_none, errW_some] <;> rfl), by first | exact Kd.R_nil _ _ _ _ _ | exact Kd.N_nil _ _ _ _ _ | exact Kd.V_nil _ _ _ _ _ | exact Kd.Q_nil _ _ _ _ _ | exact Kd.S_nil _ _ _ _ _, by repeat (first | (with_reducible first | exact HB.out | apply below_alloc | apply pw_below_drewN | apply below_drew1) | exact HB.out)⟩
        · rw [if_neg c28] at H
          have c28b0 : (x5_1 == (l0.length : Int)) = false := beq_eq_false_iff_ne.mpr c28
          have c28b1 : (x5_1 != (l0.length : Int)) = true := bne_iff_ne.mpr c28
          simp only [Option.some.injEq, Prod.mk.injEq] at H
          obtain ⟨rfl, rfl⟩ := H
          go_wp2
          go_ret2
          exact ⟨_, by first | rfl | (simp [errW_none, errW_some] <;> rfl) | (simp [*, errW_none, errW_some] <;> rfl), by first | exact Kd.R_nil _ _ _ _ _ | exact Kd.N_nil _ _ _ _ _ | exact Kd.V_nil _ _ _ _ _ | exact Kd.Q_nil _ _ _ _ _ | exact Kd.S_nil _ _ _ _ _, by repeat (first | (with_reducible first | exact HB.out | apply below_alloc | apply pw_below_drewN | apply below_drew1) | exact HB.out)⟩

end Go.Proofs.YtefhngadeimklaaDoor.Q
end
section
set_option linter.unusedSimpArgs false
set_option linter.unusedVariables false
namespace Go.Proofs.YtefhngadeimklaaDoor.Q
open Go.RowKit Go.Proofs.YtefhngadeimklaaDoorW.PrintWords Go.Proofs.YtefhngadeimklaaDoorW.PrintLast
def cutL (c : Int) : List Int → Option (List Int × List Int)
  | [] => none
  | x :: r => if x = c then some ([], r) else (cutL c r).map fun p => (x :: p.1, p.2)
theorem cutL_snoc (c x : Int) : ∀ l : List Int, cutL c (l ++ [x]) = match cutL c l with | some (u, v) => some (u, v ++ [x]) | none => if x = c then some (l, []) else none
  | [] => by
    rw [List.nil_append, cutL, cutL]
    by_cases h : x = c
    · rw [if_pos h]; simp [h]
    · rw [if_neg h]; simp [h, cutL]
  | y :: l => by
    rw [List.cons_append, cutL, cutL, cutL_snoc c x l]
    by_cases h : y = c
    · rw [if_pos h, if_pos h]
    · rw [if_neg h, if_neg h]
      cases cutL c l with
      | some p => rfl
      | none =>
        dsimp only
        by_cases hx : x = c
        · rw [if_pos hx]; simp [hx]
        · rw [if_neg hx]; simp [hx]
theorem cutL_app (c : Int) : ∀ l {u v : List Int}, cutL c l = some (u, v) → l = u ++ c :: v
  | [], _, _, h => by cases h
  | y :: l, u, v, h => by
    rw [cutL] at h
    split at h
    · rename_i e
      simp only [Option.some.injEq, Prod.mk.injEq] at h
      obtain ⟨rfl, rfl⟩ := h
      rw [e, List.nil_append]
    · obtain ⟨⟨a, b⟩, h1, h2⟩ := Option.map_eq_some_iff.1 h
      simp only [Prod.mk.injEq] at h2
      obtain ⟨rfl, rfl⟩ := h2
      rw [cutL_app c l h1, List.cons_append]
/-- Pieces ended by 0, each a name, '=' and a value. -/
def decS : List Int → List Int → List S40 → Option (List S40)
  | pre, [], acc => if pre = [] then some acc else none
  | pre, x :: rest, acc => if x = 0 then (match cutL 61 pre with | none => none | some (u, v) => decS [] rest (acc ++ [⟨strOfNums u, strOfNums v⟩])) else decS (pre ++ [x]) rest acc
def decR (o : Option (List S40)) : List S40 × Int := match o with | none => (([] : List S40), 15) | some m => if rightF m = true then (m, 0) else (([] : List S40), 15)
theorem strOfNums_size (l : List Int) : (strOfNums l).size = l.length := by
  have : (strOfNums l).data.toList.length = l.length := by rw [strOfNums_data, List.length_map]
  simpa using this
theorem fits_snoc {acc : List S40} (h : Fits acc) {u v : List Int} (hu : u.length ≤ 140737488351232) (hv : v.length ≤ 140737488351232) : Fits (acc ++ [⟨strOfNums u, strOfNums v⟩]) := by
  intro x hx
  rcases List.mem_append.1 hx with hx | hx
  · exact h x hx
  · obtain rfl := List.mem_singleton.1 hx
    exact ⟨by rw [strOfNums_size]; exact hu, by rw [strOfNums_size]; exact hv⟩
theorem decS_fits : ∀ (rest pre : List Int) (acc : List S40) (m : List S40), Fits acc → pre.length + rest.length ≤ 140737488351232 → decS pre rest acc = some m → Fits m ∧ m.length ≤ acc.length + rest.length
  | [], pre, acc, m, hf, hl, h => by
    rw [decS] at h
    split at h
    · obtain rfl := Option.some.inj h
      exact ⟨hf, by simp⟩
    · cases h
  | x :: rest, pre, acc, m, hf, hl, h => by
    rw [decS] at h
    rw [List.length_cons] at hl
    split at h
    · cases hc : cutL 61 pre with
      | none => rw [hc] at h; cases h
      | some p =>
        obtain ⟨u, v⟩ := p
        rw [hc] at h
        have e := congrArg List.length (cutL_app 61 pre hc)
        rw [List.length_append, List.length_cons] at e
        have ih := decS_fits rest [] _ m (fits_snoc hf (u := u) (v := v) (by omega) (by omega)) (by simp; omega) h
        rw [List.length_append, List.length_singleton] at ih
        rw [List.length_cons]
        exact ⟨ih.1, by omega⟩
    · have ih := decS_fits rest (pre ++ [x]) acc m hf (by rw [List.length_append, List.length_singleton]; omega) h
      rw [List.length_cons]
      exact ⟨ih.1, by omega⟩
theorem drop_at (b : List Int) (i : Int) (h0 : 0 ≤ i) (h1 : i < b.length) : b.drop i.toNat = rd b i :: b.drop (i + 1).toNat := by
  rw [List.drop_eq_getElem_cons (show i.toNat < b.length by omega), show (i + 1).toNat = i.toNat + 1 by omega]
  simp [rd, List.getD_eq_getElem?_getD, List.getElem?_eq_getElem (show i.toNat < b.length by omega)]
theorem pre_snoc (b : List Int) (f i : Int) (h0 : 0 ≤ f) (hf : f ≤ i) (h1 : i < b.length) : (b.take (i + 1).toNat).drop f.toNat = (b.take i.toNat).drop f.toNat ++ [rd b i] := by
  rw [show (i + 1).toNat = i.toNat + 1 by omega, List.take_succ_eq_append_getElem (show i.toNat < b.length by omega), List.drop_append_of_le_length (by rw [List.length_take]; omega)]
  simp [rd, List.getD_eq_getElem?_getD, List.getElem?_eq_getElem (show i.toNat < b.length by omega)]
theorem refdecode_go (b : List Int) (hb : b.length ≤ 1048576) : ∀ (d k : Nat) (f eq i : Int) (acc : List S40), i + d = b.length → 0 ≤ f → f ≤ i → (eq = -1 ∨ (f ≤ eq ∧ eq < i)) → acc.length ≤ i → Fits acc →
    cutL 61 ((b.take i.toNat).drop f.toNat) = (if eq < 0 then none else some ((b.take eq.toNat).drop f.toNat, (b.take i.toNat).drop (eq + 1).toNat)) → 3 * d + 140737490000000 < k →
    tinderref19_Decode.l0 k b acc f eq i = some (decR (decS ((b.take i.toNat).drop f.toNat) (b.drop i.toNat) acc))
  | 0, k, f, eq, i, acc, h1, hf0, hfi, he, ha, hF, hc, hk => by
    obtain ⟨k, rfl⟩ : ∃ m, k = m + 1 := ⟨k - 1, by omega⟩
    have hr := refright_eq acc hF (by omega) k (by omega)
    rw [tinderref19_Decode.l0, if_neg (by omega), hr, Option.bind_some, show b.drop i.toNat = [] from List.drop_eq_nil_of_le (by omega), decS, List.take_of_length_le (by omega)]
    by_cases hfb : f = b.length
    · rw [if_pos hfb, List.drop_eq_nil_of_le (by omega), if_pos rfl, decR]
      by_cases h : rightF acc = true
      · simp [h]
      · simp [h]
    · rw [if_neg hfb, if_neg]
      · rfl
      · intro h
        have := congrArg List.length h
        rw [List.length_drop, List.length_nil] at this
        omega
  | d + 1, k, f, eq, i, acc, h1, hf0, hfi, he, ha, hF, hc, hk => by
    obtain ⟨k, rfl⟩ : ∃ m, k = m + 3 := ⟨k - 3, by omega⟩
    have hw : wrap64 (i + 1) = i + 1 := by unfold wrap64; omega
    have hpl : ((b.take i.toNat).drop f.toNat).length ≤ 1048576 := by rw [List.length_drop, List.length_take]; omega
    have hps := pre_snoc b f i hf0 hfi (by omega)
    rw [drop_at b i (by omega) (by omega), decS]
    -- the middle step
    have step2 : ∀ e2 : Int, (e2 = -1 ∨ (f ≤ e2 ∧ e2 ≤ i)) → (e2 = i → rd b i = 61) → cutL 61 ((b.take (i + 1).toNat).drop f.toNat) = (if e2 < 0 then none else some ((b.take e2.toNat).drop f.toNat, (b.take (i + 1).toNat).drop (e2 + 1).toNat)) → (rd b i = 0 → e2 = eq) →
        tinderref19_Decode.j2 (k + 1) b acc f e2 i = some (decR (if rd b i = 0 then (match cutL 61 ((b.take i.toNat).drop f.toNat) with | none => none | some (u, v) => decS [] (b.drop (i + 1).toNat) (acc ++ [⟨strOfNums u, strOfNums v⟩])) else decS ((b.take i.toNat).drop f.toNat ++ [rd b i]) (b.drop (i + 1).toNat) acc)) := by
      intro e2 he2 hei hc2 hez
      rw [tinderref19_Decode.j2, if_pos (by omega), if_pos (by omega), hw]
      by_cases h0 : rd b i = 0
      · rw [if_pos h0, if_pos h0]
        obtain rfl := hez h0
        by_cases hn : e2 < 0
        · rw [if_pos hn, hc, if_pos hn]
          rfl
        · have hlt : e2 < i := by
            rcases he with h | h <;> omega
          have hfe : f ≤ e2 := by
            rcases he with h | h <;> omega
          have hw2 : wrap64 (e2 + 1) = e2 + 1 := by unfold wrap64; omega
          rw [if_neg hn, if_pos hf0, if_pos hfe, if_pos (by omega), hw2, if_pos (by omega), if_pos (by omega), if_pos (by omega), if_pos (by omega), hc, if_neg hn]
          have ih := refdecode_go b hb d k (i + 1) (-1) (i + 1) (acc ++ [⟨strOfNums ((b.take e2.toNat).drop f.toNat), strOfNums ((b.take i.toNat).drop (e2 + 1).toNat)⟩]) (by omega) (by omega) (by omega) (.inl rfl) (by rw [List.length_append, List.length_singleton]; omega)
            (fits_snoc hF (by rw [List.length_drop, List.length_take]; omega) (by rw [List.length_drop, List.length_take]; omega)) (by rw [List.drop_eq_nil_of_le (by rw [List.length_take]; omega)]; rfl) (by omega)
          rw [show (b.take (i + 1).toNat).drop (i + 1).toNat = [] from List.drop_eq_nil_of_le (by rw [List.length_take]; omega)] at ih
          exact (at_rounds (fun k => (tinderref19_Decode.mono_l k).1 _ _ _ _ _) (Nat.le_refl _) ih)
      · rw [if_neg h0, if_neg h0, ← hps]
        refine at_rounds (fun k => (tinderref19_Decode.mono_l k).1 _ _ _ _ _) (Nat.le_refl _) (refdecode_go b hb d k f e2 (i + 1) acc (by omega) hf0 (by omega) ?_ (by omega) hF hc2 (by omega))
        rcases he2 with h | h
        · exact .inl h
        · exact .inr ⟨h.1, by omega⟩
    rw [tinderref19_Decode.l0, if_pos (by omega), if_pos (by omega)]
    by_cases h61 : rd b i = 61
    · rw [if_pos h61, tinderref19_Decode.j1]
      by_cases hn : eq < 0
      · rw [decide_eq_true hn, if_pos rfl]
        refine step2 i (.inr ⟨hfi, Int.le_refl _⟩) (fun _ => h61) ?_ (fun h => by omega)
        rw [hps, cutL_snoc, hc, if_pos hn, if_pos h61, if_neg (by omega)]
        rw [show (b.take (i + 1).toNat).drop (i + 1).toNat = [] from List.drop_eq_nil_of_le (by rw [List.length_take]; omega)]
      · rw [decide_eq_false hn, if_neg (by decide)]
        have hlt : f ≤ eq ∧ eq < i := by
          rcases he with h | h
          · omega
          · exact h
        refine step2 eq (.inr ⟨hlt.1, by omega⟩) (fun h => by omega) ?_ (fun _ => rfl)
        rw [hps, cutL_snoc, hc, if_neg hn, if_neg hn, pre_snoc b (eq + 1) i (by omega) (by omega) (by omega)]
    · rw [if_neg h61, tinderref19_Decode.j1, if_neg (by decide)]
      refine step2 eq ?_ (fun h => ?_) ?_ (fun _ => rfl)
      · rcases he with h | h
        · exact .inl h
        · exact .inr ⟨h.1, by omega⟩
      · rcases he with h2 | h2 <;> omega
      · rw [hps, cutL_snoc, hc]
        by_cases hn : eq < 0
        · rw [if_pos hn, if_pos hn, if_neg h61]
        · have hlt : f ≤ eq ∧ eq < i := by
            rcases he with h | h
            · omega
            · exact h
          rw [if_neg hn, if_neg hn, pre_snoc b (eq + 1) i (by omega) (by omega) (by omega)]
theorem refdecode_eq (b : List Int) (hb : b.length ≤ 1048576) (k : Nat) (hk : 140737500000000 < k) : tinderref19_Decode.f k b = some (decR (decS [] b [])) := by
  have := refdecode_go b hb b.length k 0 (-1) 0 [] (by omega) (Int.le_refl _) (Int.le_refl _) (.inl rfl) (by simp) (fun x hx => by cases hx) (by simp [cutL]) (by omega)
  unfold tinderref19_Decode.f
  simpa using this
end Go.Proofs.YtefhngadeimklaaDoor.Q
end
section
set_option linter.unusedSimpArgs false
set_option linter.unusedVariables false
namespace Go.Proofs.YtefhngadeimklaaDoor.Q
open Go.RowKit Go.Proofs.YtefhngadeimklaaDoorW.PrintWords Go.Proofs.YtefhngadeimklaaDoorW.PrintLast
def Bytes (l : List Int) : Prop := ∀ a ∈ l, 0 ≤ a ∧ a < 256
theorem head_size (c : UInt8) (s : ByteArray) : (headC c s).size ≤ s.size := by
  unfold headC
  split
  · rw [ByteArray.size_extract]; omega
  · exact Nat.le_refl _
theorem tail_size (c : UInt8) (s : ByteArray) : (tailC c s).size ≤ s.size := by
  unfold tailC
  split
  · rw [ByteArray.size_extract]; omega
  · exact Nat.zero_le _
theorem decS_cut : ∀ (rest pre : List Int) (acc : List S40), decS pre rest acc = match cutL 0 rest with
    | none => (if pre = [] ∧ rest = [] then some acc else none)
    | some (p, r) => (match cutL 61 (pre ++ p) with | none => none | some (u, v) => decS [] r (acc ++ [⟨strOfNums u, strOfNums v⟩]))
  | [], pre, acc => by
    rw [decS, cutL]
    by_cases h : pre = [] <;> simp [h]
  | x :: rest, pre, acc => by
    rw [decS, cutL]
    by_cases h : x = 0
    · rw [if_pos h, if_pos h]
      dsimp only
      rw [List.append_nil]
      all_goals (rcases cutL 61 pre with _ | ⟨u, v⟩ <;> rfl)
    · rw [if_neg h, if_neg h, decS_cut rest (pre ++ [x]) acc]
      cases cutL 0 rest with
      | none => simp
      | some p =>
        obtain ⟨p, r⟩ := p
        dsimp only [Option.map_some]
        rw [List.append_assoc]
        rfl
theorem cut_list (c : UInt8) : ∀ l : List UInt8, cutL (c.toNat : Int) (l.map fun b => (b.toNat : Int)) = if 0 ≤ Lib.indexByte l c then some ((l.take (Lib.indexByte l c).toNat).map fun b => (b.toNat : Int), (l.drop (Lib.indexByte l c + 1).toNat).map fun b => (b.toNat : Int)) else none
  | [] => rfl
  | b :: l => by
    have hg := Lib.indexByte_ge l c
    rw [List.map_cons, cutL, cut_list c l]
    by_cases h : b = c
    · subst h
      simp [Lib.indexByte]
    · have h2 : ¬ ((b.toNat : Int) = (c.toNat : Int)) := fun e => h (UInt8.toNat_inj.1 (by omega))
      have e1 : Lib.indexByte (b :: l) c = if Lib.indexByte l c = -1 then -1 else Lib.indexByte l c + 1 := by
        rw [Lib.indexByte, if_neg (by simpa using h)]
        by_cases hn : Lib.indexByte l c = -1 <;> simp [hn]
      rw [if_neg h2, e1]
      by_cases hn : Lib.indexByte l c = -1
      · rw [if_pos hn, if_neg (show ¬ 0 ≤ Lib.indexByte l c by omega), if_neg (by decide)]
        rfl
      · rw [if_neg hn, if_pos (show 0 ≤ Lib.indexByte l c by omega), if_pos (show 0 ≤ Lib.indexByte l c + 1 by omega)]
        rw [show (Lib.indexByte l c + 1 + 1).toNat = (Lib.indexByte l c + 1).toNat + 1 by omega, show (Lib.indexByte l c + 1).toNat = (Lib.indexByte l c).toNat + 1 by omega]
        rfl
theorem ext_data (s : ByteArray) (a b : Nat) : (s.extract a b).data.toList = (s.data.toList.take b).drop a := by
  rw [ByteArray.data_extract, Array.toList_extract, List.extract_eq_take_drop, List.drop_take]
theorem cut_bytes (c : UInt8) (s : ByteArray) : cutL (c.toNat : Int) (bytesOf s) = if 0 ≤ ixC c s then some (bytesOf (headC c s), bytesOf (tailC c s)) else none := by
  unfold bytesOf
  rw [cut_list]
  by_cases h : 0 ≤ ixC c s
  · have h2 : 0 ≤ Lib.indexByte s.data.toList c := h
    rw [if_pos h2, if_pos h, headC, tailC, if_pos h, if_pos h, ext_data, ext_data, List.drop_zero]
    have hs : s.data.toList.take s.size = s.data.toList := List.take_of_length_le (by rw [data_length]; exact Nat.le_refl _)
    rw [hs]
    rfl
  · have h2 : ¬ 0 ≤ Lib.indexByte s.data.toList c := h
    rw [if_neg h2, if_neg h]
theorem cut_0 (s : ByteArray) : cutL 0 (bytesOf s) = if 0 ≤ ixC 0 s then some (bytesOf (headC 0 s), bytesOf (tailC 0 s)) else none := cut_bytes 0 s
theorem cut_61 (s : ByteArray) : cutL 61 (bytesOf s) = if 0 ≤ ixC 61 s then some (bytesOf (headC 61 s), bytesOf (tailC 61 s)) else none := cut_bytes 61 s
theorem str_bytes (s : ByteArray) : strOfNums (bytesOf s) = s := by
  obtain ⟨⟨l⟩⟩ := s
  unfold strOfNums bytesOf
  rw [List.map_map]
  congr 2
  conv => rhs; rw [← List.map_id l]
  apply List.map_congr_left
  intro b _
  simp
theorem bytes_str (l : List Int) (h : Bytes l) : bytesOf (strOfNums l) = l := by
  unfold bytesOf
  rw [strOfNums_data, List.map_map]
  conv => rhs; rw [← List.map_id l]
  apply List.map_congr_left
  intro b hb
  have := h b hb
  show (((UInt8.ofNat b.toNat).toNat : Nat) : Int) = b
  rw [UInt8.toNat_ofNat']
  omega
theorem decode_go : ∀ (n k : Nat) (s : ByteArray) (acc : List S40), s.size < n → acc.length + s.size ≤ 1048576 → Fits acc → n + 140737490000000 < k → vars_Decode.l0 k acc s = some (decR (decS [] (bytesOf s) acc))
  | 0, _, _, _, h, _, _, _ => absurd h (by omega)
  | n + 1, k, s, acc, h, ha, hF, hk => by
    obtain ⟨k, rfl⟩ : ∃ m, k = m + 1 := ⟨k - 1, by omega⟩
    have hr := right_eq acc hF (by omega) k (by omega)
    rw [vars_Decode.l0]
    by_cases he : s.size = 0
    · have hb : bytesOf s = [] := List.eq_nil_of_length_eq_zero (by rw [bytesOf_length]; exact he)
      rw [if_pos ((empty_iff s).2 he), hr, Option.bind_some, hb, decS, if_pos rfl, decR]
      by_cases h : rightF acc = true <;> simp [h]
    · have hne : bytesOf s ≠ [] := fun e => he (by rw [← bytesOf_length, e]; rfl)
      have hc0 : strings_Cut.f s (⟨#[0]⟩ : ByteArray) = some (headC 0 s, tailC 0 s, decide (0 ≤ ixC 0 s)) := by
        unfold strings_Cut.f
        rw [if_pos (by omega)]
      have hhs := head_size 0 s
      have hc1 : strings_Cut.f (headC 0 s) (⟨#[61]⟩ : ByteArray) = some (headC 61 (headC 0 s), tailC 61 (headC 0 s), decide (0 ≤ ixC 61 (headC 0 s))) := by
        unfold strings_Cut.f
        rw [if_pos (by omega)]
      rw [if_neg (fun e => he ((empty_iff s).1 e)), hc0, Option.bind_some, hc1, Option.bind_some, decS_cut, cut_0 s]
      dsimp only
      by_cases h0 : 0 ≤ ixC 0 s
      · rw [decide_eq_true h0, if_pos rfl, if_pos h0]
        dsimp only
        rw [List.nil_append, cut_61 (headC 0 s)]
        have hlt := ixC_lt 0 s h0
        have hts : (tailC 0 s).size < s.size := by
          unfold tailC
          rw [if_pos h0, ByteArray.size_extract]
          omega
        by_cases h1 : 0 ≤ ixC 61 (headC 0 s)
        · rw [decide_eq_true h1, if_pos rfl, if_pos h1, if_pos (by omega)]
          dsimp only
          have hlt1 := ixC_lt 61 (headC 0 s) h1
          rw [str_bytes, str_bytes]
          refine decode_go n k (tailC 0 s) _ (by omega) ?_ ?_ (by omega)
          · rw [List.length_append, List.length_singleton]; omega
          · intro x hx
            rcases List.mem_append.1 hx with hx | hx
            · exact hF x hx
            · obtain rfl := List.mem_singleton.1 hx
              have h3 := head_size 61 (headC 0 s)
              have h4 := tail_size 61 (headC 0 s)
              exact ⟨by show (headC 61 (headC 0 s)).size ≤ _; omega, by show (tailC 61 (headC 0 s)).size ≤ _; omega⟩
        · rw [decide_eq_false h1, if_neg (by decide), if_neg h1]
          rfl
      · rw [decide_eq_false h0, if_neg (by decide), if_neg h0]
        dsimp only
        rw [if_neg (fun h => hne h.2)]
        rfl
theorem decode_eq (b : List Int) (hb : b.length ≤ 1048576) (hB : Bytes b) (k : Nat) (hk : 140737500000000 < k) : vars_Decode.f k b = some (decR (decS [] b [])) := by
  unfold vars_Decode.f
  rw [decode_go (b.length + 1) k (strOfNums b) [] (by rw [strOfNums_size]; omega) (by rw [strOfNums_size]; simpa using hb) (fun x hx => by cases hx) (by omega), bytes_str b hB]
end Go.Proofs.YtefhngadeimklaaDoor.Q
end
section
namespace Go.Proofs.YtefhngadeimklaaDoor.Q
open Go.RowKit Go.Proofs.YtefhngadeimklaaDoorW.PrintWords Go.Proofs.YtefhngadeimklaaDoorW.PrintLast Go.Proofs.YtefhngadeimklaaDoorW.PrintMore
/-- The row v of bytes xs, and the blocks bs that no append to it touches. -/
structure St (w0 : World) (W : World) (v : Value) (xs : List Int) (bs : List (Nat × Obj)) : Prop where
  row : Kd.R (Kd.int .u8) 5 W w0.heap.size (fun k => ∀ p ∈ bs, k ≠ p.1) v xs
  below : Below w0.heap.size w0 W
  held : ∀ p ∈ bs, W.heap[p.1]? = some p.2
theorem lt_of_some {W : World} {k : Nat} {o : Obj} (h : W.heap[k]? = some o) : k < W.heap.size := (Array.getElem?_eq_some_iff.1 h).1
theorem new_get (W : World) (o : Obj) : (W.alloc o).heap[W.heap.size]? = some o := by unfold World.alloc; simp
theorem old_get (W : World) (o : Obj) {k : Nat} {x : Obj} (h : W.heap[k]? = some x) : (W.alloc o).heap[k]? = some x := by
  have hl := lt_of_some h
  rw [(below_alloc (Below.refl W.heap.size W) o).block k hl]
  exact h
theorem St_alloc {w0 W : World} {v : Value} {xs : List Int} {bs : List (Nat × Obj)} (h : St w0 W v xs bs) (o : Obj) : St w0 (W.alloc o) v xs ((W.heap.size, o) :: bs) := by
  refine ⟨Kd.R_alloc (Kd.R_mono (Kd.R_bound h.row) (fun k hk p hp => ?_)) o, below_alloc h.below o, fun p hp => ?_⟩
  · rcases List.mem_cons.1 hp with rfl | hp
    · exact Nat.ne_of_lt hk.2.2.1
    · exact hk.1 p hp
  · rcases List.mem_cons.1 hp with rfl | hp
    · exact new_get W o
    · exact old_get W o (h.held p hp)
theorem St_start {w0 W : World} {v : Value} {xs : List Int} (h : Kd.R (Kd.int .u8) 5 W w0.heap.size (fun _ => True) v xs) (hb : Below w0.heap.size w0 W) : St w0 W v xs [] :=
  ⟨Kd.R_mono h (fun _ _ p hp => by cases hp), hb, fun p hp => by cases hp⟩
theorem St_drew {w0 W : World} {v : Value} {xs : List Int} {bs : List (Nat × Obj)} (h : St w0 W v xs bs) : St w0 W.drew v xs bs := ⟨Kd.R_drew h.row, below_drew h.below, h.held⟩
theorem held_mem {w0 W : World} {v : Value} {xs : List Int} {bs : List (Nat × Obj)} (h : St w0 W v xs bs) (b : Nat) (x : Value) (e : TypeId) (hm : (b, Obj.cells #[x] e (0, 0)) ∈ bs) : W.cell? ⟨b, 0, none⟩ = some x := (blk_cell (h.held _ hm) 0).trans rfl
theorem held_two {w0 W : World} {v : Value} {xs : List Int} {bs : List (Nat × Obj)} (h : St w0 W v xs bs) (b : Nat) (x y : Value) (e : TypeId) (hm : (b, Obj.cells #[x, y] e (0, 0)) ∈ bs) : W.cell? ⟨b, 0, none⟩ = some x ∧ W.cell? ⟨b, 1, none⟩ = some y := ⟨(blk_cell (h.held _ hm) 0).trans rfl, (blk_cell (h.held _ hm) 1).trans rfl⟩
theorem append_str_block {P : Program} {w : World} (base : Nat) (t u ty e : TypeId) (i : TypeInfo) (ht : P.underlying t = some (.slice e)) (hu : P.underlying u = some .string) (hi : P.info? e = some i) (hz : i.zero = some (.int .u8 0))
    (hsize : i.size = 1) (hby : i.bytes = 1) (v : Value) (n : Nat) (xs : List Value) (hown : w.ownsRow base e 1 v n xs) (s : ByteArray) (h63 : n + s.size ≤ maxLen) (hbytes : n + s.size ≤ 140737488355328) (v' : Value) (w' : World)
    (hr0 : (Builtin.append_ #[t, u] ty #[v, .string s]).run P w = .ok v' w') : v'.ownBlock = v.ownBlock ∨ v'.ownBlock = some w.heap.size := by
  have hsmall : n + s.size ≤ 9223372036854775807 := by simp only [maxLen] at h63; omega
  have hxl : xs.length = n := by simpa using hown.1
  rcases hown.2 with ⟨rfl, rfl⟩ | ⟨g, cap, cur, rfl, hbg, hg, hnc, hcm, hcs, htake⟩
  · by_cases hm : s.size = 0
    · have hn : Lib.strCells s = [] := List.eq_nil_of_length_eq_zero (by rw [Lib.strCells_length]; exact hm)
      have hf := Lib.run_firstCells_string (P := P) w 1 s
      rw [hm] at hf
      have hr : (Builtin.append_ #[t, u] ty #[.slice none 0 0, .string s]).run P w = .ok (.slice none 0 0) w := by
        simp [Builtin.append_, run_underlying ht, run_underlying hu, sizeOf, typeInfo, hi, hsize, Builtin.lenOf, hm, hf]
      rw [hr] at hr0
      injection hr0 with h1 h2
      subst h1
      exact .inl rfl
    · have hr := run_append_nil_string (P := P) w t u ty e i (.int .u8 0) ht hu hi hz s (by omega) (by omega) (by rw [hby]; omega)
      rw [hr] at hr0
      injection hr0 with h1 h2
      subst h1
      exact .inr rfl
  · by_cases hroom : n + s.size ≤ cap
    · have hcs' : cur.size = cap := by simpa using hcs
      have hr := Lib.run_append_room_string (P := P) w t u ty e i ht hu hi hsize g n cap cur hg s hroom (by omega)
      rw [hr] at hr0
      injection hr0 with h1 h2
      subst h1
      exact .inl rfl
    · have holds : ∀ j u, xs[j]? = some u → w.cell? ((⟨g, 0, none⟩ : Addr).add j) = some u := hown.cells (g := g) rfl
      have hr := Lib.run_append_grow_string (P := P) w t u ty e i (.int .u8 0) ht hu hi hz ⟨g, 0, none⟩ n cap xs (by rw [hsize]; simpa using hxl) holds s (by omega) (by omega) (by rw [hby]; exact growslice_fits (by omega) (by omega))
      rw [hr] at hr0
      injection hr0 with h1 h2
      subst h1
      exact .inr rfl
theorem ok_block {w0 W : World} {v v' : Value} {xs : List Int} {bs : List (Nat × Obj)} (hS : St w0 W v xs bs) (h : v'.ownBlock = v.ownBlock ∨ v'.ownBlock = some W.heap.size) (k : Nat) (hk : v'.ownBlock = some k) (p : Nat × Obj) (hp : p ∈ bs) : k ≠ p.1 := by
  rcases h with h | h
  · exact hS.row.1 k (h ▸ hk) p hp
  · rw [h] at hk
    obtain rfl := Option.some.inj hk
    exact Nat.ne_of_gt (lt_of_some (hS.held p hp))
section
variable {P : Program} {ops : Array Oper} {o : Oper} {a : Act} {K : Act → World → Prop} {Q : Exit → Act → World → Prop} {E : Prop}
theorem str_step {w0 W : World} {v : Value} {xs : List Int} {bs : List (Nat × Obj)} (hw : Region.wanted o (yielded ops a.tmps) = true) (s x : Operand) (t u : TypeId)
    (ho : o.op = .call { callee := .builtin .append, args := #[s, x], argTypes := #[t, u] })
    (ht : P.underlying t = some (.slice 5)) (hu : P.underlying u = some .string) (hinfo : (P.info? 5).map (fun i => (i.zero, i.size, i.bytes)) = some (some (.int .u8 0), 1, 1))
    (y : ByteArray) (hs : a.eval s = v) (hx : a.eval x = .string y) (hS : St w0 W v xs bs) (hl : xs.length + y.size ≤ 140737488355328)
    (h : ∀ v1 w1, St w0 w1 v1 (xs ++ bytesOf y) bs → K (a.put o.dst v1) w1) :
    if Region.wanted o (yielded ops a.tmps) = true then Oper.wp P o a W K Q else E := by
  obtain ⟨i0, hi, hzz⟩ := Option.map_eq_some_iff.1 hinfo
  simp only [Prod.mk.injEq] at hzz
  obtain ⟨hz0, hz1, hz2⟩ := hzz
  have hown := Kd.own_of_R hS.row
  obtain ⟨v', w', hr, h2, h3, h4⟩ := Lib.run_append_own_string (P := P) W w0.heap.size t u o.type 5 i0 ht hu hi hz0 hz1 hz2 v xs.length _ hown y (by simp only [maxLen]; omega) hl hS.below.size
  rw [if_pos hw]
  unfold Oper.wp execOp
  simp only [ho, resolve, invoke, builtin, Sem.run_bind, Sem.run_pure, Result.andThen_ok, List.map_toArray, List.map_cons, List.map_nil, hs, hx, hr]
  refine h _ _ ⟨Kd.R_of_own (xs := xs ++ bytesOf y) ?_ (fun k hk p hp => ?_), ?_, fun p hp => ?_⟩
  · have hl2 : (xs ++ bytesOf y).length = xs.length + y.size := by rw [List.length_append, bytesOf_length]
    rw [hl2, encs, List.map_append]
    have : Lib.strCells y = (bytesOf y).map (Value.int .u8) := by simp [bytesOf, Lib.strCells]
    rw [← this]
    exact h2
  · exact ok_block hS (append_str_block w0.heap.size t u o.type 5 i0 ht hu hi hz0 hz1 hz2 v xs.length _ hown y (by simp only [maxLen]; omega) hl v' w' hr) k hk p hp
  · exact hS.below.grown h3 hS.below.size (own_base hown)
  · rw [h3.block _ (lt_of_some (hS.held p hp)) (fun he => hS.row.1 _ he.symm p hp rfl)]
    exact hS.held p hp
theorem byte_step {w0 W : World} {v : Value} {xs : List Int} {bs : List (Nat × Obj)} (hw : Region.wanted o (yielded ops a.tmps) = true) (s x : Operand) (t : TypeId)
    (ho : o.op = .call { callee := .builtin .append, args := #[s, x], argTypes := #[t, t] })
    (ht : P.underlying t = some (.slice 5)) (hinfo : (P.info? 5).map (fun i => (i.zero, i.size, i.bytes)) = some (some (.int .u8 0), 1, 1))
    (b : Nat) (c : Int) (hs : a.eval s = v) (hx : a.eval x = .slice (some ⟨b, 0, none⟩) 1 1) (hS : St w0 W v xs bs) (hm : (b, Obj.cells #[.int .u8 c] 5 (0, 0)) ∈ bs) (hl : xs.length + 1 ≤ 140737488355328)
    (h : ∀ v1 w1, St w0 w1 v1 (xs ++ [c]) bs → K (a.put o.dst v1) w1) :
    if Region.wanted o (yielded ops a.tmps) = true then Oper.wp P o a W K Q else E := by
  obtain ⟨i0, hi, hzz⟩ := Option.map_eq_some_iff.1 hinfo
  simp only [Prod.mk.injEq] at hzz
  obtain ⟨hz0, hz1, hz2⟩ := hzz
  have hown := Kd.own_of_R hS.row
  have hc := held_mem hS b _ _ hm
  obtain ⟨v', w', hr, h2, h3, _, hat⟩ := run_append_own_at (P := P) W w0.heap.size t o.type 5 i0 (.int .u8 0) 1 1 ht hi hz0 hz1 hz2 rfl (by decide) v xs.length _ hown ⟨b, 0, none⟩ 1 1 [.int .u8 c] rfl (fun j u hj => by
    obtain ⟨hl, hu⟩ := List.getElem?_eq_some_iff.1 hj
    obtain rfl : j = 0 := by simpa using hl
    obtain rfl : Value.int .u8 c = u := hu
    exact hc) (by simp [Value.oneCell']) (by simp only [maxLen]; omega) (by omega) hS.below.size
  rw [if_pos hw]
  unfold Oper.wp execOp
  simp only [ho, resolve, invoke, builtin, Sem.run_bind, Sem.run_pure, Result.andThen_ok, List.map_toArray, List.map_cons, List.map_nil, hs, hx, hr]
  refine h _ _ ⟨Kd.R_of_own (xs := xs ++ [c]) ?_ (fun k hk p hp => ?_), ?_, fun p hp => ?_⟩
  · rw [List.length_append, encs, List.map_append]
    exact h2
  · exact ok_block hS hat k hk p hp
  · exact hS.below.grown h3 hS.below.size (own_base hown)
  · rw [h3.block _ (lt_of_some (hS.held p hp)) (fun he => hS.row.1 _ he.symm p hp rfl)]
    exact hS.held p hp
end
end Go.Proofs.YtefhngadeimklaaDoor.Q
end
