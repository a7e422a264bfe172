/- Contracts of Go functions and plain facts, of several texts, one behind the other; no condition. -/
import Derived.Test.YtlhnaplmphdhlaaDoorMPathParses1
import Derived.Test.YtlhnaplmphdhlaaDoorMPathParses3
import Derived.Test.YtlhnaplmphdhlaaDoorMPathParses2
import Derived.RangeFuncWrites
import Derived.RangeFuncBox
import Derived.Maps.OwnIn
section
namespace Go.Proofs.YtlhnaplmphdhlaaDoor.Q
open Go.RowKit Go.Proofs.YtlhnaplmphdhlaaDoorW.PrintWords Go.Proofs.YtlhnaplmphdhlaaDoorW.PrintLast Go.Proofs.YtlhnaplmphdhlaaDoorW.PrintMore
set_option linter.unusedVariables false
set_option linter.unusedSimpArgs false

attribute [local go_sem] max2_int min2_int max_two min_two max_three min_three max_four min_four
/-! ### tinderref07_Same: function 42 -/
def tinderref07_Same.l0 : Nat → List (S81) → List (S81) → Int → Option (Bool)
  | 0, _, _, _ => none
  | k + 1, x0, x1, x5 => if x5 < (x0.length : Int) then (if 0 ≤ x5 then (if x5 < (x1.length : Int) then (if ((rd_T81 x0 x5).f0).toList = ((rd_T81 x1 x5).f0).toList then (if ((rd_T81 x0 x5).f2).toList = ((rd_T81 x1 x5).f2).toList then ((tinderref03_Same.f k ((rd_T81 x0 x5).f1) ((rd_T81 x1 x5).f1)).bind fun t43007 => (if t43007 = true then (tinderref07_Same.l0 k x0 x1 (wrap64 (x5 + 1))) else (some false))) else (some false)) else (some false)) else (none)) else (none)) else (some true)
def tinderref07_Same.f (k : Nat) (l0 : List (S81)) (l1 : List (S81)) : Option (Bool) := if (l0.length : Int) = (l1.length : Int) then (tinderref07_Same.l0 k l0 l1 0) else (some false)
theorem tinderref07_Same.mono_l : ∀ k, (∀ y0 y1 y2, LeO (tinderref07_Same.l0 k y0 y1 y2) (tinderref07_Same.l0 (k + 1) y0 y1 y2))
  | 0 => fun _ _ _ r h => by simp [tinderref07_Same.l0] at h
  | k + 1 => by
    have ih0 := tinderref07_Same.mono_l k
    · intro y0 y1 y2
      unfold tinderref07_Same.l0
      repeat' first
      | (with_reducible exact ih0 _ _ _)
      | (with_reducible exact tinderref03_Same.mono _ _ _)
      | (with_reducible exact LeO.refl _)
      | (with_reducible exact LeO.none _)
      | (with_reducible refine LeO.ite ?_ ?_)
      | (with_reducible refine LeO.bind ?_ (fun _ => ?_))
      | exact ih0 _ _ _
      | exact tinderref03_Same.mono _ _ _
      | exact LeO.none _
      | refine LeO.ite ?_ ?_
      | refine LeO.bind ?_ (fun _ => ?_)
theorem tinderref07_Same.mono : ∀ a0 a1 k, LeO (tinderref07_Same.f k a0 a1) (tinderref07_Same.f (k + 1) a0 a1) := by
  intro a0 a1 k
  have ih0 := tinderref07_Same.mono_l k
  unfold tinderref07_Same.f
  repeat' first
      | (with_reducible exact ih0 _ _ _)
      | (with_reducible exact tinderref03_Same.mono _ _ _)
      | (with_reducible exact LeO.refl _)
      | (with_reducible exact LeO.none _)
      | (with_reducible refine LeO.ite ?_ ?_)
      | (with_reducible refine LeO.bind ?_ (fun _ => ?_))
      | exact ih0 _ _ _
      | exact tinderref03_Same.mono _ _ _
      | exact LeO.none _
      | refine LeO.ite ?_ ?_
      | refine LeO.bind ?_ (fun _ => ?_)
def tinderref07_Same.T6 : Bool × List (List Nat × List Nat) := (true, [([], []), ([], []), ([0, 1], [0, 1]), ([2], [2]), ([3], [3]), ([], []), ([], []), ([5, 6], [5, 6]), ([7], [7]), ([8], [8]), ([4, 9], [4, 9]), ([10], [10]), ([11], [11]), ([11], [11]), ([12, 13, 11], [11, 12, 13]), ([14, 11], [11, 14]), ([15, 11], [11, 15]), ([11], [11]), ([11], [11]), ([17, 18, 11], [11, 17, 18]), ([19, 11], [11, 19]), ([20, 11], [11, 20]), ([16, 21, 11], [11, 16, 21]), ([11, 22], [11, 22]), ([23, 11], [23]), ([24], [24]), ([24], [24]), ([25, 26, 24], [24, 25, 26]), ([27, 24], [24, 27]), ([28, 24], [24, 28]), ([24], [24]), ([24], [24]), ([30, 31, 24], [24, 30, 31]), ([32, 24], [24, 32]), ([33, 24], [24, 33]), ([29, 34, 24, 24], [24, 29, 34]), ([35, 24], [24, 35]), ([24, 36], [24, 36])])
def tinderref07_Same.B6 : List Nat := [0, 0, 3, 7, 15, 0, 0, 96, 224, 480, 1023, 2047, 4095, 4095, 16383, 32767, 65535, 4095, 4095, 397311, 921599, 1970175, 4194303, 8388607, 16777215, 33554431, 33554431, 134217727, 268435455, 536870911, 33554431, 33554431, 3254779903, 7549747199, 16139681791, 34359738367, 68719476735, 137438953471]
theorem tinderref07_Same.tab6 : rtab .any (opsOf Tryd.f42 6) = tinderref07_Same.T6 := by kernel_rfl
theorem tinderref07_Same.bits6 : waitsOk tinderref07_Same.T6.2 tinderref07_Same.B6 = true := by kernel_rfl
set_option maxHeartbeats 8000000 in
set_option maxRecDepth 100000 in
theorem tinderref07_Same.calls (k : Nat) (A0 : Option Addr) (c0 : Nat) (l0 : List (S81)) (A1 : Option Addr) (c1 : Nat) (l1 : List (S81)) (r : Bool) (w : World) (hr0 : Kd.C k81 w A0 l0.length l0) (hc0 : l0.length ≤ c0) (hr1 : Kd.C k81 w A1 l1.length l1) (hc1 : l1.length ≤ c1) (h : tinderref07_Same.f k l0 l1 = some r) :
    Calls Tryd.prog 42 #[.slice A0 l0.length c0, .slice A1 l1.length c1] w fun e w' => e = .returned (.bool r) ∧ Below w.heap.size w w' := by
  have HR0 := Aside0.mk hr0
  have HC0 := Aside0.mk hc0
  clear hr0 hc0
  have HR1 := Aside0.mk hr1
  have HC1 := Aside0.mk hc1
  clear hr1 hc1
  have HB := Aside0.mk (Below.refl w.heap.size w)
  have H : (if (l0.length : Int) = (l1.length : Int) then (tinderref07_Same.l0 k l0 l1 0) else (some false)) = some r := h
  clear h
  by_cases c3 : (l0.length : Int) = (l1.length : Int)
  · rw [if_pos c3] at H
    have c3b0 : ((l0.length : Int) == (l1.length : Int)) = true := beq_iff_eq.mpr c3
    have c3b1 : ((l0.length : Int) != (l1.length : Int)) = false := bne_eq_false_iff_eq.mpr c3
    have c3b2 : (l0.length == l1.length) = true := by first | simpa using c3 | (simp at c3 ⊢; omega)
    clear c3
    have H' := Aside0.mk H
    clear H
    go_enter Tryd.func42, Tryd.ntmps42
    go_wp2
    go_loopg [5] k (fun kq v5 w' => ∃ (x5_1 : Int), v5 = .int .i64 x5_1 ∧ Aside0 (tinderref07_Same.l0 kq l0 l1 x5_1 = some r) ∧ Aside0 (kq ≤ k) ∧ Aside0 (Below w.heap.size w w'))
    case atStart => exact ⟨(0), (by first | rfl | (simp; done) | (simp [*]; done)), H', ⟨Nat.le_refl _⟩, ⟨by repeat (first | (with_reducible first | exact HB.out | apply below_alloc | apply pw_below_drewN | apply below_drew1) | exact HB.out)⟩⟩
    case round =>
      clear H'
      try clear c1
      try clear p2
      try clear c3
      try clear c3b0
      try clear c3b1
      try clear c3b2
      obtain ⟨x5_1, rfl, HA, HK1, HB⟩ := hrel
      cases gk with
      | zero => exact absurd HA.out (by simp [tinderref07_Same.l0])
      | succ k1 =>
        have H := HA.out
        clear HA
        simp only [tinderref07_Same.l0] at H
        by_cases c4 : x5_1 < (l0.length : Int)
        · rw [if_pos c4] at H
          have c4b0 : decide (x5_1 < (l0.length : Int)) = true := decide_eq_true c4
          clear c4
          by_cases c5 : 0 ≤ x5_1
          · rw [if_pos c5] at H
            have c5b0 : decide (0 ≤ x5_1) = true := decide_eq_true c5
            clear c5
            by_cases c6 : x5_1 < (l1.length : Int)
            · rw [if_pos c6] at H
              have c6b0 : decide (x5_1 < (l1.length : Int)) = true := decide_eq_true c6
              clear c6
              by_cases c7 : ((rd_T81 l0 x5_1).f0).toList = ((rd_T81 l1 x5_1).f0).toList
              · rw [if_pos c7] at H
                have c7b0 : (((rd_T81 l0 x5_1).f0).toList == ((rd_T81 l1 x5_1).f0).toList) = true := beq_iff_eq.mpr c7
                have c7b1 : (((rd_T81 l0 x5_1).f0).toList != ((rd_T81 l1 x5_1).f0).toList) = false := bne_eq_false_iff_eq.mpr c7
                clear c7
                by_cases c8 : ((rd_T81 l0 x5_1).f2).toList = ((rd_T81 l1 x5_1).f2).toList
                · rw [if_pos c8] at H
                  have c8b0 : (((rd_T81 l0 x5_1).f2).toList == ((rd_T81 l1 x5_1).f2).toList) = true := beq_iff_eq.mpr c8
                  have c8b1 : (((rd_T81 l0 x5_1).f2).toList != ((rd_T81 l1 x5_1).f2).toList) = false := bne_eq_false_iff_eq.mpr c8
                  clear c8
                  replace H := Option.bind_eq_some_iff.mp H
                  obtain ⟨t43007, A90, H⟩ := H
                  replace H : (if t43007 = true then (tinderref07_Same.l0 k1 l0 l1 (wrap64 (x5_1 + 1))) else (some false)) = some r := H
                  have A9 := Aside0.mk A90
                  clear A90
                  by_cases c10 : t43007 = true
                  · subst c10
                    have H1 : (tinderref07_Same.l0 k1 l0 l1 (wrap64 (x5_1 + 1))) = some r := by rw [if_pos rfl] at H; exact H
                    clear H
                    have H := H1
                    clear H1
                    have H' := Aside0.mk H
                    clear H
                    try go_wp2
                    have n0_ := Aside0.mk (below_drew1 HB.out)
                    clear HB
                    have HB := n0_
                    clear n0_
                    have p43001 : 0 ≤ (x5_1 : Int) := of_decide_eq_true (by first | (with_reducible assumption) | assumption)
                    have q43001 : x5_1 < (l0.length : Int) := of_decide_eq_true (by first | (with_reducible assumption) | assumption)
                    obtain ⟨ad43001, A43001_1, c43001_1, e43001, hx43001_0, hx43001_1, hx43001_2, hl43001_1, hi43001_1⟩ := at_T81 HR0.out x5_1 p43001 q43001
                    have hw43001_2 := hx43001_2
                    have hw43001_1 := hx43001_1
                    have hw43001_0 := hx43001_0
                    cases e43001
                    replace hx43001_0 := (HB.out.cell (World.block_lt_of_cell? w _ hx43001_0)).trans hx43001_0
                    replace hx43001_1 := (HB.out.cell (World.block_lt_of_cell? w _ hx43001_1)).trans hx43001_1
                    replace hx43001_2 := (HB.out.cell (World.block_lt_of_cell? w _ hx43001_2)).trans hx43001_2
                    have HR43001_1 := Aside0.mk hi43001_1
                    have HC43001_1 := Aside0.mk hl43001_1
                    clear hi43001_1 hl43001_1
                    replace p43001 := eq_true p43001
                    replace q43001 := eq_true q43001
                    have p43002 : 0 ≤ (x5_1 : Int) := of_decide_eq_true (by first | (with_reducible assumption) | assumption)
                    have q43002 : x5_1 < (l1.length : Int) := of_decide_eq_true (by first | (with_reducible assumption) | assumption)
                    obtain ⟨ad43002, A43002_1, c43002_1, e43002, hx43002_0, hx43002_1, hx43002_2, hl43002_1, hi43002_1⟩ := at_T81 HR1.out x5_1 p43002 q43002
                    have hw43002_2 := hx43002_2
                    have hw43002_1 := hx43002_1
                    have hw43002_0 := hx43002_0
                    cases e43002
                    replace hx43002_0 := (HB.out.cell (World.block_lt_of_cell? w _ hx43002_0)).trans hx43002_0
                    replace hx43002_1 := (HB.out.cell (World.block_lt_of_cell? w _ hx43002_1)).trans hx43002_1
                    replace hx43002_2 := (HB.out.cell (World.block_lt_of_cell? w _ hx43002_2)).trans hx43002_2
                    have HR43002_1 := Aside0.mk hi43002_1
                    have HC43002_1 := Aside0.mk hl43002_1
                    clear hi43002_1 hl43002_1
                    replace p43002 := eq_true p43002
                    replace q43002 := eq_true q43002
                    have p43003 : 0 ≤ (x5_1 : Int) := of_decide_eq_true (by first | (with_reducible assumption) | assumption)
                    have q43003 : x5_1 < (l0.length : Int) := of_decide_eq_true (by first | (with_reducible assumption) | assumption)
                    obtain ⟨ad43003, A43003_1, c43003_1, e43003, hx43003_0, hx43003_1, hx43003_2, hl43003_1, hi43003_1⟩ := at_T81 HR0.out x5_1 p43003 q43003
                    have hw43003_2 := hx43003_2
                    have hw43003_1 := hx43003_1
                    have hw43003_0 := hx43003_0
                    obtain rfl : ad43001 = ad43003 := (by injection e43003)
                    replace hx43003_0 := (HB.out.cell (World.block_lt_of_cell? w _ hx43003_0)).trans hx43003_0
                    replace hx43003_1 := (HB.out.cell (World.block_lt_of_cell? w _ hx43003_1)).trans hx43003_1
                    replace hx43003_2 := (HB.out.cell (World.block_lt_of_cell? w _ hx43003_2)).trans hx43003_2
                    have HR43003_1 := Aside0.mk hi43003_1
                    have HC43003_1 := Aside0.mk hl43003_1
                    clear hi43003_1 hl43003_1
                    replace p43003 := eq_true p43003
                    replace q43003 := eq_true q43003
                    have ea_ := Option.some.inj (hx43001_1.symm.trans hx43003_1)
                    injection ea_ with ea_ en_ ec_
                    subst ea_
                    subst ec_
                    clear en_
                    have p43004 : 0 ≤ (x5_1 : Int) := of_decide_eq_true (by first | (with_reducible assumption) | assumption)
                    have q43004 : x5_1 < (l1.length : Int) := of_decide_eq_true (by first | (with_reducible assumption) | assumption)
                    obtain ⟨ad43004, A43004_1, c43004_1, e43004, hx43004_0, hx43004_1, hx43004_2, hl43004_1, hi43004_1⟩ := at_T81 HR1.out x5_1 p43004 q43004
                    have hw43004_2 := hx43004_2
                    have hw43004_1 := hx43004_1
                    have hw43004_0 := hx43004_0
                    obtain rfl : ad43002 = ad43004 := (by injection e43004)
                    replace hx43004_0 := (HB.out.cell (World.block_lt_of_cell? w _ hx43004_0)).trans hx43004_0
                    replace hx43004_1 := (HB.out.cell (World.block_lt_of_cell? w _ hx43004_1)).trans hx43004_1
                    replace hx43004_2 := (HB.out.cell (World.block_lt_of_cell? w _ hx43004_2)).trans hx43004_2
                    have HR43004_1 := Aside0.mk hi43004_1
                    have HC43004_1 := Aside0.mk hl43004_1
                    clear hi43004_1 hl43004_1
                    replace p43004 := eq_true p43004
                    replace q43004 := eq_true q43004
                    have ea_ := Option.some.inj (hx43002_1.symm.trans hx43004_1)
                    injection ea_ with ea_ en_ ec_
                    subst ea_
                    subst ec_
                    clear en_
                    have p43005 : 0 ≤ (x5_1 : Int) := of_decide_eq_true (by first | (with_reducible assumption) | assumption)
                    have q43005 : x5_1 < (l0.length : Int) := of_decide_eq_true (by first | (with_reducible assumption) | assumption)
                    obtain ⟨ad43005, A43005_1, c43005_1, e43005, hx43005_0, hx43005_1, hx43005_2, hl43005_1, hi43005_1⟩ := at_T81 HR0.out x5_1 p43005 q43005
                    have hw43005_2 := hx43005_2
                    have hw43005_1 := hx43005_1
                    have hw43005_0 := hx43005_0
                    obtain rfl : ad43001 = ad43005 := (by injection e43005)
                    replace hx43005_0 := (HB.out.cell (World.block_lt_of_cell? w _ hx43005_0)).trans hx43005_0
                    replace hx43005_1 := (HB.out.cell (World.block_lt_of_cell? w _ hx43005_1)).trans hx43005_1
                    replace hx43005_2 := (HB.out.cell (World.block_lt_of_cell? w _ hx43005_2)).trans hx43005_2
                    have HR43005_1 := Aside0.mk hi43005_1
                    have HC43005_1 := Aside0.mk hl43005_1
                    clear hi43005_1 hl43005_1
                    replace p43005 := eq_true p43005
                    replace q43005 := eq_true q43005
                    have ea_ := Option.some.inj (hx43001_1.symm.trans hx43005_1)
                    injection ea_ with ea_ en_ ec_
                    subst ea_
                    subst ec_
                    clear en_
                    have p43006 : 0 ≤ (x5_1 : Int) := of_decide_eq_true (by first | (with_reducible assumption) | assumption)
                    have q43006 : x5_1 < (l1.length : Int) := of_decide_eq_true (by first | (with_reducible assumption) | assumption)
                    obtain ⟨ad43006, A43006_1, c43006_1, e43006, hx43006_0, hx43006_1, hx43006_2, hl43006_1, hi43006_1⟩ := at_T81 HR1.out x5_1 p43006 q43006
                    have hw43006_2 := hx43006_2
                    have hw43006_1 := hx43006_1
                    have hw43006_0 := hx43006_0
                    obtain rfl : ad43002 = ad43006 := (by injection e43006)
                    replace hx43006_0 := (HB.out.cell (World.block_lt_of_cell? w _ hx43006_0)).trans hx43006_0
                    replace hx43006_1 := (HB.out.cell (World.block_lt_of_cell? w _ hx43006_1)).trans hx43006_1
                    replace hx43006_2 := (HB.out.cell (World.block_lt_of_cell? w _ hx43006_2)).trans hx43006_2
                    have HR43006_1 := Aside0.mk hi43006_1
                    have HC43006_1 := Aside0.mk hl43006_1
                    clear hi43006_1 hl43006_1
                    replace p43006 := eq_true p43006
                    replace q43006 := eq_true q43006
                    have ea_ := Option.some.inj (hx43002_1.symm.trans hx43006_1)
                    injection ea_ with ea_ en_ ec_
                    subst ea_
                    subst ec_
                    clear en_
                    refine start_ (n := 38) (S := fun w' => w'.cell? (ad43001.add ((x5_1).toNat * 3)) = some (.string ((rd_T81 l0 x5_1).f0)) ∧ w'.cell? ⟨(ad43001.add ((x5_1).toNat * 3)).block, (ad43001.add ((x5_1).toNat * 3)).off + 1, none⟩ = some (.slice A43001_1 ((rd_T81 l0 x5_1).f1).length c43001_1) ∧ w'.cell? ⟨(ad43001.add ((x5_1).toNat * 3)).block, (ad43001.add ((x5_1).toNat * 3)).off + 2, none⟩ = some (.string ((rd_T81 l0 x5_1).f2)) ∧ w'.cell? (ad43002.add ((x5_1).toNat * 3)) = some (.string ((rd_T81 l1 x5_1).f0)) ∧ w'.cell? ⟨(ad43002.add ((x5_1).toNat * 3)).block, (ad43002.add ((x5_1).toNat * 3)).off + 1, none⟩ = some (.slice A43002_1 ((rd_T81 l1 x5_1).f1).length c43002_1) ∧ w'.cell? ⟨(ad43002.add ((x5_1).toNat * 3)).block, (ad43002.add ((x5_1).toNat * 3)).off + 2, none⟩ = some (.string ((rd_T81 l1 x5_1).f2)) ∧ w'.cell? (ad43001.add ((x5_1).toNat * 3)) = some (.string ((rd_T81 l0 x5_1).f0)) ∧ w'.cell? ⟨(ad43001.add ((x5_1).toNat * 3)).block, (ad43001.add ((x5_1).toNat * 3)).off + 1, none⟩ = some (.slice A43001_1 ((rd_T81 l0 x5_1).f1).length c43001_1) ∧ w'.cell? ⟨(ad43001.add ((x5_1).toNat * 3)).block, (ad43001.add ((x5_1).toNat * 3)).off + 2, none⟩ = some (.string ((rd_T81 l0 x5_1).f2)) ∧ w'.cell? (ad43002.add ((x5_1).toNat * 3)) = some (.string ((rd_T81 l1 x5_1).f0)) ∧ w'.cell? ⟨(ad43002.add ((x5_1).toNat * 3)).block, (ad43002.add ((x5_1).toNat * 3)).off + 1, none⟩ = some (.slice A43002_1 ((rd_T81 l1 x5_1).f1).length c43002_1) ∧ w'.cell? ⟨(ad43002.add ((x5_1).toNat * 3)).block, (ad43002.add ((x5_1).toNat * 3)).off + 2, none⟩ = some (.string ((rd_T81 l1 x5_1).f2)) ∧ w'.cell? (ad43001.add ((x5_1).toNat * 3)) = some (.string ((rd_T81 l0 x5_1).f0)) ∧ w'.cell? ⟨(ad43001.add ((x5_1).toNat * 3)).block, (ad43001.add ((x5_1).toNat * 3)).off + 1, none⟩ = some (.slice A43001_1 ((rd_T81 l0 x5_1).f1).length c43001_1) ∧ w'.cell? ⟨(ad43001.add ((x5_1).toNat * 3)).block, (ad43001.add ((x5_1).toNat * 3)).off + 2, none⟩ = some (.string ((rd_T81 l0 x5_1).f2)) ∧ w'.cell? (ad43002.add ((x5_1).toNat * 3)) = some (.string ((rd_T81 l1 x5_1).f0)) ∧ w'.cell? ⟨(ad43002.add ((x5_1).toNat * 3)).block, (ad43002.add ((x5_1).toNat * 3)).off + 1, none⟩ = some (.slice A43002_1 ((rd_T81 l1 x5_1).f1).length c43002_1) ∧ w'.cell? ⟨(ad43002.add ((x5_1).toNat * 3)).block, (ad43002.add ((x5_1).toNat * 3)).off + 2, none⟩ = some (.string ((rd_T81 l1 x5_1).f2))) (ds := []) #[false, false, false, false, false, false, false, false, false, false, false, false, false, false, false, false, false, false, false, false, false, false, false, false, false, false, false, false, false, false, false, false, false, false, false, false, false, false] (by kernel_rfl) rfl rfl ⟨((HB.out.cell (World.block_lt_of_cell? w _ hw43001_0)).trans hw43001_0), ((HB.out.cell (World.block_lt_of_cell? w _ hw43001_1)).trans hw43001_1), ((HB.out.cell (World.block_lt_of_cell? w _ hw43001_2)).trans hw43001_2), ((HB.out.cell (World.block_lt_of_cell? w _ hw43002_0)).trans hw43002_0), ((HB.out.cell (World.block_lt_of_cell? w _ hw43002_1)).trans hw43002_1), ((HB.out.cell (World.block_lt_of_cell? w _ hw43002_2)).trans hw43002_2), ((HB.out.cell (World.block_lt_of_cell? w _ hw43003_0)).trans hw43003_0), ((HB.out.cell (World.block_lt_of_cell? w _ hw43003_1)).trans hw43003_1), ((HB.out.cell (World.block_lt_of_cell? w _ hw43003_2)).trans hw43003_2), ((HB.out.cell (World.block_lt_of_cell? w _ hw43004_0)).trans hw43004_0), ((HB.out.cell (World.block_lt_of_cell? w _ hw43004_1)).trans hw43004_1), ((HB.out.cell (World.block_lt_of_cell? w _ hw43004_2)).trans hw43004_2), ((HB.out.cell (World.block_lt_of_cell? w _ hw43005_0)).trans hw43005_0), ((HB.out.cell (World.block_lt_of_cell? w _ hw43005_1)).trans hw43005_1), ((HB.out.cell (World.block_lt_of_cell? w _ hw43005_2)).trans hw43005_2), ((HB.out.cell (World.block_lt_of_cell? w _ hw43006_0)).trans hw43006_0), ((HB.out.cell (World.block_lt_of_cell? w _ hw43006_1)).trans hw43006_1), ((HB.out.cell (World.block_lt_of_cell? w _ hw43006_2)).trans hw43006_2)⟩ (fun hHeld => ?_); refine with_tabW tinderref07_Same.tab6 tinderref07_Same.bits6 (fun HT_ HW_ => ?_)
                    generalize wr.drew = w11 at HB HR43001_1 HR43002_1 HR43003_1 HR43004_1 HR43005_1 HR43006_1 hx43001_0 hx43001_1 hx43001_2 hx43002_0 hx43002_1 hx43002_2 hx43003_0 hx43003_1 hx43003_2 hx43004_0 hx43004_1 hx43004_2 hx43005_0 hx43005_1 hx43005_2 hx43006_0 hx43006_1 hx43006_2 hHeld ⊢
                    refine pure_ (i := 0) (N := some 17) (v := ?_) (a' := ?_) #[true, false, false, false, false, false, false, false, false, false, false, false, false, false, false, false, false, false, false, false, false, false, false, false, false, false, false, false, false, false, false, false, false, false, false, false, false, false] rfl rfl (any_of HT_.out (by kernel_rfl)) (fun _ _ _ h => h) (Or.inl ⟨by rfl, ?_⟩) ?_ ?_
                    rotate_left
                    · intro w'
                      go_simp
                      with_reducible rfl
                    rotate_left
                    · simp only [Act.put, List.setIfInBounds_toArray, List.set_cons_zero, List.set_cons_succ, i64_w, i32_w]
                      rfl
                    refine pure_ (i := 1) (N := some 18) (v := ?_) (a' := ?_) #[true, true, false, false, false, false, false, false, false, false, false, false, false, false, false, false, false, false, false, false, false, false, false, false, false, false, false, false, false, false, false, false, false, false, false, false, false, false] rfl rfl (any_of HT_.out (by kernel_rfl)) (fun _ _ _ h => h) (Or.inl ⟨by rfl, ?_⟩) ?_ ?_
                    rotate_left
                    · intro w'
                      go_simp
                      with_reducible rfl
                    rotate_left
                    · simp only [Act.put, List.setIfInBounds_toArray, List.set_cons_zero, List.set_cons_succ, i64_w, i32_w]
                      rfl
                    refine pure_ (i := 2) (N := some 19) (v := ?_) (a' := ?_) #[true, true, true, false, false, false, false, false, false, false, false, false, false, false, false, false, false, false, false, false, false, false, false, false, false, false, false, false, false, false, false, false, false, false, false, false, false, false] rfl rfl (any_of HT_.out (by kernel_rfl)) (fun _ _ _ h => h) (Or.inl ⟨by rfl, ?_⟩) ?_ ?_
                    rotate_left
                    · intro w'
                      go_simp
                      with_reducible rfl
                    rotate_left
                    · simp only [Act.put, List.setIfInBounds_toArray, List.set_cons_zero, List.set_cons_succ, i64_w, i32_w]
                      rfl
                    refine pure_ (i := 3) (N := some 20) (v := ?_) (a' := ?_) #[true, true, true, true, false, false, false, false, false, false, false, false, false, false, false, false, false, false, false, false, false, false, false, false, false, false, false, false, false, false, false, false, false, false, false, false, false, false] rfl rfl (any_of HT_.out (by kernel_rfl)) (fun _ _ _ h => h) (Or.inl ⟨by rfl, ?_⟩) ?_ ?_
                    rotate_left
                    · intro w'
                      go_simp
                      with_reducible rfl
                    rotate_left
                    · simp only [Act.put, List.setIfInBounds_toArray, List.set_cons_zero, List.set_cons_succ, i64_w, i32_w]
                      rfl
                    refine pure_ (i := 5) (N := some 22) (v := ?_) (a' := ?_) #[true, true, true, true, false, true, false, false, false, false, false, false, false, false, false, false, false, false, false, false, false, false, false, false, false, false, false, false, false, false, false, false, false, false, false, false, false, false] rfl rfl (any_of HT_.out (by kernel_rfl)) (fun _ _ _ h => h) (Or.inl ⟨by rfl, ?_⟩) ?_ ?_
                    rotate_left
                    · intro w'
                      go_simp
                      with_reducible rfl
                    rotate_left
                    · simp only [Act.put, List.setIfInBounds_toArray, List.set_cons_zero, List.set_cons_succ, i64_w, i32_w]
                      rfl
                    refine pure_ (i := 6) (N := some 23) (v := ?_) (a' := ?_) #[true, true, true, true, false, true, true, false, false, false, false, false, false, false, false, false, false, false, false, false, false, false, false, false, false, false, false, false, false, false, false, false, false, false, false, false, false, false] rfl rfl (any_of HT_.out (by kernel_rfl)) (fun _ _ _ h => h) (Or.inl ⟨by rfl, ?_⟩) ?_ ?_
                    rotate_left
                    · intro w'
                      go_simp
                      with_reducible rfl
                    rotate_left
                    · simp only [Act.put, List.setIfInBounds_toArray, List.set_cons_zero, List.set_cons_succ, i64_w, i32_w]
                      rfl
                    refine pure_ (i := 7) (N := some 24) (v := ?_) (a' := ?_) #[true, true, true, true, false, true, true, true, false, false, false, false, false, false, false, false, false, false, false, false, false, false, false, false, false, false, false, false, false, false, false, false, false, false, false, false, false, false] rfl rfl (any_of HT_.out (by kernel_rfl)) (fun _ _ _ h => h) (Or.inl ⟨by rfl, ?_⟩) ?_ ?_
                    rotate_left
                    · intro w'
                      go_simp
                      with_reducible rfl
                    rotate_left
                    · simp only [Act.put, List.setIfInBounds_toArray, List.set_cons_zero, List.set_cons_succ, i64_w, i32_w]
                      rfl
                    refine pure_ (i := 8) (N := some 25) (v := ?_) (a' := ?_) #[true, true, true, true, false, true, true, true, true, false, false, false, false, false, false, false, false, false, false, false, false, false, false, false, false, false, false, false, false, false, false, false, false, false, false, false, false, false] rfl rfl (any_of HT_.out (by kernel_rfl)) (fun _ _ _ h => h) (Or.inl ⟨by rfl, ?_⟩) ?_ ?_
                    rotate_left
                    · intro w'
                      go_simp
                      with_reducible rfl
                    rotate_left
                    · simp only [Act.put, List.setIfInBounds_toArray, List.set_cons_zero, List.set_cons_succ, i64_w, i32_w]
                      rfl
                    refine take_ (i := 4) (N := some 21) (v := ?_) (a' := ?_) #[true, true, true, true, true, true, true, true, true, false, false, false, false, false, false, false, false, false, false, false, false, false, false, false, false, false, false, false, false, false, false, false, false, false, false, false, false, false] rfl rfl (take_ofW HT_.out HW_.out (by kernel_rfl)) (fun _ _ _ h => h) (Or.inl ⟨by rfl, ?_⟩) hHeld ?_ ?_
                    rotate_left
                    · rintro w' ⟨s0, s1, s2, s3, s4, s5, s6, s7, s8, s9, s10, s11, s12, s13, s14, s15, s16, s17⟩
                      go_simp
                      with_reducible rfl
                    rotate_left
                    · simp only [Act.put, List.setIfInBounds_toArray, List.set_cons_zero, List.set_cons_succ, i64_w, i32_w]
                      rfl
                    refine take_ (i := 9) (N := some 26) (v := ?_) (a' := ?_) #[true, true, true, true, true, true, true, true, true, true, false, false, false, false, false, false, false, false, false, false, false, false, false, false, false, false, false, false, false, false, false, false, false, false, false, false, false, false] rfl rfl (take_ofW HT_.out HW_.out (by kernel_rfl)) (fun _ _ _ h => h) (Or.inl ⟨by rfl, ?_⟩) hHeld ?_ ?_
                    rotate_left
                    · rintro w' ⟨s0, s1, s2, s3, s4, s5, s6, s7, s8, s9, s10, s11, s12, s13, s14, s15, s16, s17⟩
                      go_simp
                      with_reducible rfl
                    rotate_left
                    · simp only [Act.put, List.setIfInBounds_toArray, List.set_cons_zero, List.set_cons_succ, i64_w, i32_w]
                      rfl
                    refine pure_ (i := 10) (N := some 27) (v := ?_) (a' := ?_) #[true, true, true, true, true, true, true, true, true, true, true, false, false, false, false, false, false, false, false, false, false, false, false, false, false, false, false, false, false, false, false, false, false, false, false, false, false, false] rfl rfl (any_of HT_.out (by kernel_rfl)) (fun _ _ _ h => h) (Or.inl ⟨by rfl, ?_⟩) ?_ ?_
                    rotate_left
                    · intro w'
                      go_simp
                      with_reducible rfl
                    rotate_left
                    · simp only [Act.put, List.setIfInBounds_toArray, List.set_cons_zero, List.set_cons_succ, i64_w, i32_w]
                      rfl
                    refine pure_ (i := 11) (N := some 28) (v := ?_) (a' := ?_) #[true, true, true, true, true, true, true, true, true, true, true, true, false, false, false, false, false, false, false, false, false, false, false, false, false, false, false, false, false, false, false, false, false, false, false, false, false, false] rfl rfl (any_of HT_.out (by kernel_rfl)) (fun _ _ _ h => h) (Or.inl ⟨by rfl, ?_⟩) ?_ ?_
                    rotate_left
                    · intro w'
                      go_simp
                      with_reducible rfl
                    rotate_left
                    · simp only [Act.put, List.setIfInBounds_toArray, List.set_cons_zero, List.set_cons_succ, i64_w, i32_w]
                      rfl
                    refine pure_ (i := 12) (N := some 29) (v := ?_) (a' := ?_) #[true, true, true, true, true, true, true, true, true, true, true, true, true, false, false, false, false, false, false, false, false, false, false, false, false, false, false, false, false, false, false, false, false, false, false, false, false, false] rfl rfl (any_of HT_.out (by kernel_rfl)) (fun _ _ _ h => h) (Or.inl ⟨by rfl, ?_⟩) ?_ ?_
                    rotate_left
                    · intro w'
                      go_simp
                      with_reducible rfl
                    rotate_left
                    · simp only [Act.put, List.setIfInBounds_toArray, List.set_cons_zero, List.set_cons_succ, i64_w, i32_w]
                      rfl
                    refine pure_ (i := 13) (N := some 30) (v := ?_) (a' := ?_) #[true, true, true, true, true, true, true, true, true, true, true, true, true, true, false, false, false, false, false, false, false, false, false, false, false, false, false, false, false, false, false, false, false, false, false, false, false, false] rfl rfl (any_of HT_.out (by kernel_rfl)) (fun _ _ _ h => h) (Or.inl ⟨by rfl, ?_⟩) ?_ ?_
                    rotate_left
                    · intro w'
                      go_simp
                      with_reducible rfl
                    rotate_left
                    · simp only [Act.put, List.setIfInBounds_toArray, List.set_cons_zero, List.set_cons_succ, i64_w, i32_w]
                      rfl
                    refine pure_ (i := 14) (N := some 31) (v := ?_) (a' := ?_) #[true, true, true, true, true, true, true, true, true, true, true, true, true, true, true, false, false, false, false, false, false, false, false, false, false, false, false, false, false, false, false, false, false, false, false, false, false, false] rfl rfl (any_of HT_.out (by kernel_rfl)) (fun _ _ _ h => h) (Or.inl ⟨by rfl, ?_⟩) ?_ ?_
                    rotate_left
                    · intro w'
                      go_simp
                      with_reducible rfl
                    rotate_left
                    · simp only [Act.put, List.setIfInBounds_toArray, List.set_cons_zero, List.set_cons_succ, i64_w, i32_w]
                      rfl
                    refine pure_ (i := 15) (N := some 32) (v := ?_) (a' := ?_) #[true, true, true, true, true, true, true, true, true, true, true, true, true, true, true, true, false, false, false, false, false, false, false, false, false, false, false, false, false, false, false, false, false, false, false, false, false, false] rfl rfl (any_of HT_.out (by kernel_rfl)) (fun _ _ _ h => h) (Or.inl ⟨by rfl, ?_⟩) ?_ ?_
                    rotate_left
                    · intro w'
                      go_simp
                      with_reducible rfl
                    rotate_left
                    · simp only [Act.put, List.setIfInBounds_toArray, List.set_cons_zero, List.set_cons_succ, i64_w, i32_w]
                      rfl
                    refine pure_ (i := 17) (N := some 34) (v := ?_) (a' := ?_) #[true, true, true, true, true, true, true, true, true, true, true, true, true, true, true, true, false, true, false, false, false, false, false, false, false, false, false, false, false, false, false, false, false, false, false, false, false, false] rfl rfl (any_of HT_.out (by kernel_rfl)) (fun _ _ _ h => h) (Or.inl ⟨by rfl, ?_⟩) ?_ ?_
                    rotate_left
                    · intro w'
                      go_simp
                      with_reducible rfl
                    rotate_left
                    · simp only [Act.put, List.setIfInBounds_toArray, List.set_cons_zero, List.set_cons_succ, i64_w, i32_w]
                      rfl
                    refine pure_ (i := 18) (N := some 35) (v := ?_) (a' := ?_) #[true, true, true, true, true, true, true, true, true, true, true, true, true, true, true, true, false, true, true, false, false, false, false, false, false, false, false, false, false, false, false, false, false, false, false, false, false, false] rfl rfl (any_of HT_.out (by kernel_rfl)) (fun _ _ _ h => h) (Or.inl ⟨by rfl, ?_⟩) ?_ ?_
                    rotate_left
                    · intro w'
                      go_simp
                      with_reducible rfl
                    rotate_left
                    · simp only [Act.put, List.setIfInBounds_toArray, List.set_cons_zero, List.set_cons_succ, i64_w, i32_w]
                      rfl
                    refine pure_ (i := 19) (N := some 36) (v := ?_) (a' := ?_) #[true, true, true, true, true, true, true, true, true, true, true, true, true, true, true, true, false, true, true, true, false, false, false, false, false, false, false, false, false, false, false, false, false, false, false, false, false, false] rfl rfl (any_of HT_.out (by kernel_rfl)) (fun _ _ _ h => h) (Or.inl ⟨by rfl, ?_⟩) ?_ ?_
                    rotate_left
                    · intro w'
                      go_simp
                      with_reducible rfl
                    rotate_left
                    · simp only [Act.put, List.setIfInBounds_toArray, List.set_cons_zero, List.set_cons_succ, i64_w, i32_w]
                      rfl
                    refine pure_ (i := 20) (N := some 37) (v := ?_) (a' := ?_) #[true, true, true, true, true, true, true, true, true, true, true, true, true, true, true, true, false, true, true, true, true, false, false, false, false, false, false, false, false, false, false, false, false, false, false, false, false, false] rfl rfl (any_of HT_.out (by kernel_rfl)) (fun _ _ _ h => h) (Or.inl ⟨by rfl, ?_⟩) ?_ ?_
                    rotate_left
                    · intro w'
                      go_simp
                      with_reducible rfl
                    rotate_left
                    · simp only [Act.put, List.setIfInBounds_toArray, List.set_cons_zero, List.set_cons_succ, i64_w, i32_w]
                      rfl
                    refine take_ (i := 16) (N := some 33) (v := ?_) (a' := ?_) #[true, true, true, true, true, true, true, true, true, true, true, true, true, true, true, true, true, true, true, true, true, false, false, false, false, false, false, false, false, false, false, false, false, false, false, false, false, false] rfl rfl (take_ofW HT_.out HW_.out (by kernel_rfl)) (fun _ _ _ h => h) (Or.inl ⟨by rfl, ?_⟩) hHeld ?_ ?_
                    rotate_left
                    · rintro w' ⟨s0, s1, s2, s3, s4, s5, s6, s7, s8, s9, s10, s11, s12, s13, s14, s15, s16, s17⟩
                      go_simp
                      with_reducible rfl
                    rotate_left
                    · simp only [Act.put, List.setIfInBounds_toArray, List.set_cons_zero, List.set_cons_succ, i64_w, i32_w]
                      rfl
                    refine take_ (i := 21) (N := some 38) (v := ?_) (a' := ?_) #[true, true, true, true, true, true, true, true, true, true, true, true, true, true, true, true, true, true, true, true, true, true, false, false, false, false, false, false, false, false, false, false, false, false, false, false, false, false] rfl rfl (take_ofW HT_.out HW_.out (by kernel_rfl)) (fun _ _ _ h => h) (Or.inl ⟨by rfl, ?_⟩) hHeld ?_ ?_
                    rotate_left
                    · rintro w' ⟨s0, s1, s2, s3, s4, s5, s6, s7, s8, s9, s10, s11, s12, s13, s14, s15, s16, s17⟩
                      go_simp
                      with_reducible rfl
                    rotate_left
                    · simp only [Act.put, List.setIfInBounds_toArray, List.set_cons_zero, List.set_cons_succ, i64_w, i32_w]
                      rfl
                    refine pure_ (i := 22) (N := some 39) (v := ?_) (a' := ?_) #[true, true, true, true, true, true, true, true, true, true, true, true, true, true, true, true, true, true, true, true, true, true, true, false, false, false, false, false, false, false, false, false, false, false, false, false, false, false] rfl rfl (any_of HT_.out (by kernel_rfl)) (fun _ _ _ h => h) (Or.inl ⟨by rfl, ?_⟩) ?_ ?_
                    rotate_left
                    · intro w'
                      go_simp
                      with_reducible rfl
                    rotate_left
                    · simp only [Act.put, List.setIfInBounds_toArray, List.set_cons_zero, List.set_cons_succ, i64_w, i32_w]
                      rfl
                    refine pure_ (i := 23) (N := some 40) (v := ?_) (a' := ?_) #[true, true, true, true, true, true, true, true, true, true, true, true, true, true, true, true, true, true, true, true, true, true, true, true, false, false, false, false, false, false, false, false, false, false, false, false, false, false] rfl rfl (any_of HT_.out (by kernel_rfl)) (fun _ _ _ h => h) (Or.inl ⟨by rfl, ?_⟩) ?_ ?_
                    rotate_left
                    · intro w'
                      go_simp
                      with_reducible rfl
                    rotate_left
                    · simp only [Act.put, List.setIfInBounds_toArray, List.set_cons_zero, List.set_cons_succ, i64_w, i32_w]
                      rfl
                    refine pure_ (i := 24) (N := some 41) (v := ?_) (a' := ?_) #[true, true, true, true, true, true, true, true, true, true, true, true, true, true, true, true, true, true, true, true, true, true, true, true, true, false, false, false, false, false, false, false, false, false, false, false, false, false] rfl rfl (any_of HT_.out (by kernel_rfl)) (fun _ _ _ h => h) (Or.inl ⟨by rfl, ?_⟩) ?_ ?_
                    rotate_left
                    · intro w'
                      go_simp
                      with_reducible rfl
                    rotate_left
                    · simp only [Act.put, List.setIfInBounds_toArray, List.set_cons_zero, List.set_cons_succ, i64_w, i32_w]
                      rfl
                    refine pure_ (i := 25) (N := some 42) (v := ?_) (a' := ?_) #[true, true, true, true, true, true, true, true, true, true, true, true, true, true, true, true, true, true, true, true, true, true, true, true, true, true, false, false, false, false, false, false, false, false, false, false, false, false] rfl rfl (any_of HT_.out (by kernel_rfl)) (fun _ _ _ h => h) (Or.inl ⟨by rfl, ?_⟩) ?_ ?_
                    rotate_left
                    · intro w'
                      go_simp
                      with_reducible rfl
                    rotate_left
                    · simp only [Act.put, List.setIfInBounds_toArray, List.set_cons_zero, List.set_cons_succ, i64_w, i32_w]
                      rfl
                    refine pure_ (i := 26) (N := some 43) (v := ?_) (a' := ?_) #[true, true, true, true, true, true, true, true, true, true, true, true, true, true, true, true, true, true, true, true, true, true, true, true, true, true, true, false, false, false, false, false, false, false, false, false, false, false] rfl rfl (any_of HT_.out (by kernel_rfl)) (fun _ _ _ h => h) (Or.inl ⟨by rfl, ?_⟩) ?_ ?_
                    rotate_left
                    · intro w'
                      go_simp
                      with_reducible rfl
                    rotate_left
                    · simp only [Act.put, List.setIfInBounds_toArray, List.set_cons_zero, List.set_cons_succ, i64_w, i32_w]
                      rfl
                    refine pure_ (i := 27) (N := some 44) (v := ?_) (a' := ?_) #[true, true, true, true, true, true, true, true, true, true, true, true, true, true, true, true, true, true, true, true, true, true, true, true, true, true, true, true, false, false, false, false, false, false, false, false, false, false] rfl rfl (any_of HT_.out (by kernel_rfl)) (fun _ _ _ h => h) (Or.inl ⟨by rfl, ?_⟩) ?_ ?_
                    rotate_left
                    · intro w'
                      go_simp
                      with_reducible rfl
                    rotate_left
                    · simp only [Act.put, List.setIfInBounds_toArray, List.set_cons_zero, List.set_cons_succ, i64_w, i32_w]
                      rfl
                    refine pure_ (i := 28) (N := some 45) (v := ?_) (a' := ?_) #[true, true, true, true, true, true, true, true, true, true, true, true, true, true, true, true, true, true, true, true, true, true, true, true, true, true, true, true, true, false, false, false, false, false, false, false, false, false] rfl rfl (any_of HT_.out (by kernel_rfl)) (fun _ _ _ h => h) (Or.inl ⟨by rfl, ?_⟩) ?_ ?_
                    rotate_left
                    · intro w'
                      go_simp
                      with_reducible rfl
                    rotate_left
                    · simp only [Act.put, List.setIfInBounds_toArray, List.set_cons_zero, List.set_cons_succ, i64_w, i32_w]
                      rfl
                    refine pure_ (i := 30) (N := some 47) (v := ?_) (a' := ?_) #[true, true, true, true, true, true, true, true, true, true, true, true, true, true, true, true, true, true, true, true, true, true, true, true, true, true, true, true, true, false, true, false, false, false, false, false, false, false] rfl rfl (any_of HT_.out (by kernel_rfl)) (fun _ _ _ h => h) (Or.inl ⟨by rfl, ?_⟩) ?_ ?_
                    rotate_left
                    · intro w'
                      go_simp
                      with_reducible rfl
                    rotate_left
                    · simp only [Act.put, List.setIfInBounds_toArray, List.set_cons_zero, List.set_cons_succ, i64_w, i32_w]
                      rfl
                    refine pure_ (i := 31) (N := some 48) (v := ?_) (a' := ?_) #[true, true, true, true, true, true, true, true, true, true, true, true, true, true, true, true, true, true, true, true, true, true, true, true, true, true, true, true, true, false, true, true, false, false, false, false, false, false] rfl rfl (any_of HT_.out (by kernel_rfl)) (fun _ _ _ h => h) (Or.inl ⟨by rfl, ?_⟩) ?_ ?_
                    rotate_left
                    · intro w'
                      go_simp
                      with_reducible rfl
                    rotate_left
                    · simp only [Act.put, List.setIfInBounds_toArray, List.set_cons_zero, List.set_cons_succ, i64_w, i32_w]
                      rfl
                    refine pure_ (i := 32) (N := some 49) (v := ?_) (a' := ?_) #[true, true, true, true, true, true, true, true, true, true, true, true, true, true, true, true, true, true, true, true, true, true, true, true, true, true, true, true, true, false, true, true, true, false, false, false, false, false] rfl rfl (any_of HT_.out (by kernel_rfl)) (fun _ _ _ h => h) (Or.inl ⟨by rfl, ?_⟩) ?_ ?_
                    rotate_left
                    · intro w'
                      go_simp
                      with_reducible rfl
                    rotate_left
                    · simp only [Act.put, List.setIfInBounds_toArray, List.set_cons_zero, List.set_cons_succ, i64_w, i32_w]
                      rfl
                    refine pure_ (i := 33) (N := some 50) (v := ?_) (a' := ?_) #[true, true, true, true, true, true, true, true, true, true, true, true, true, true, true, true, true, true, true, true, true, true, true, true, true, true, true, true, true, false, true, true, true, true, false, false, false, false] rfl rfl (any_of HT_.out (by kernel_rfl)) (fun _ _ _ h => h) (Or.inl ⟨by rfl, ?_⟩) ?_ ?_
                    rotate_left
                    · intro w'
                      go_simp
                      with_reducible rfl
                    rotate_left
                    · simp only [Act.put, List.setIfInBounds_toArray, List.set_cons_zero, List.set_cons_succ, i64_w, i32_w]
                      rfl
                    refine take_ (i := 29) (N := some 46) (v := ?_) (a' := ?_) #[true, true, true, true, true, true, true, true, true, true, true, true, true, true, true, true, true, true, true, true, true, true, true, true, true, true, true, true, true, true, true, true, true, true, false, false, false, false] rfl rfl (take_ofW HT_.out HW_.out (by kernel_rfl)) (fun _ _ _ h => h) (Or.inl ⟨by rfl, ?_⟩) hHeld ?_ ?_
                    rotate_left
                    · rintro w' ⟨s0, s1, s2, s3, s4, s5, s6, s7, s8, s9, s10, s11, s12, s13, s14, s15, s16, s17⟩
                      go_simp
                      with_reducible rfl
                    rotate_left
                    · simp only [Act.put, List.setIfInBounds_toArray, List.set_cons_zero, List.set_cons_succ, i64_w, i32_w]
                      rfl
                    refine take_ (i := 34) (N := some 51) (v := ?_) (a' := ?_) #[true, true, true, true, true, true, true, true, true, true, true, true, true, true, true, true, true, true, true, true, true, true, true, true, true, true, true, true, true, true, true, true, true, true, true, false, false, false] rfl rfl (take_ofW HT_.out HW_.out (by kernel_rfl)) (fun _ _ _ h => h) (Or.inl ⟨by rfl, ?_⟩) hHeld ?_ ?_
                    rotate_left
                    · rintro w' ⟨s0, s1, s2, s3, s4, s5, s6, s7, s8, s9, s10, s11, s12, s13, s14, s15, s16, s17⟩
                      go_simp
                      with_reducible rfl
                    rotate_left
                    · simp only [Act.put, List.setIfInBounds_toArray, List.set_cons_zero, List.set_cons_succ, i64_w, i32_w]
                      rfl
                    refine one_ (i := 35) (N := some 52) #[true, true, true, true, true, true, true, true, true, true, true, true, true, true, true, true, true, true, true, true, true, true, true, true, true, true, true, true, true, true, true, true, true, true, true, true, false, false] rfl rfl (one_of HT_.out (by kernel_rfl)) (by decide) (fun K hK => ?_)
                    refine goes_ Tryd.func28 (by kernel_rfl) rfl #[.slice A43001_1 ((rd_T81 l0 x5_1).f1).length c43001_1, .slice A43002_1 ((rd_T81 l1 x5_1).f1).length c43002_1] (by rfl) rfl rfl (by (try simp only [List.map_toArray, List.map_cons, List.map_nil]); first | done | rfl | (simp only [List.length_drop, List.length_take]; rfl)) ?_
                    with_reducible refine (tinderref03_Same.calls k1 _ _ ((rd_T81 l0 x5_1).f1) _ _ ((rd_T81 l1 x5_1).f1) true _ ?side1 ?side2 ?side3 ?side4 A9.out).mono ?_
                    (case side1 => repeat (first | exact (Kd.C_below HR43005_1.out HB.out) | (with_reducible refine Kd.C_alloc ?_ _) | (with_reducible refine Kd.C_drewN ?_ _) | (with_reducible refine Kd.C_drew ?_)))
                    (case side2 => exact HC43005_1.out)
                    (case side3 => repeat (first | exact (Kd.C_below HR43006_1.out HB.out) | (with_reducible refine Kd.C_alloc ?_ _) | (with_reducible refine Kd.C_drewN ?_ _) | (with_reducible refine Kd.C_drew ?_)))
                    (case side4 => exact HC43006_1.out)
                    rintro e w' ⟨rfl, ⟨nd, rfl⟩⟩
                    refine ⟨_, rfl, ?_⟩
                    refine hK.out _ _ ⟨((HB.out.cell (World.block_lt_of_cell? w _ hw43001_0)).trans hw43001_0), ((HB.out.cell (World.block_lt_of_cell? w _ hw43001_1)).trans hw43001_1), ((HB.out.cell (World.block_lt_of_cell? w _ hw43001_2)).trans hw43001_2), ((HB.out.cell (World.block_lt_of_cell? w _ hw43002_0)).trans hw43002_0), ((HB.out.cell (World.block_lt_of_cell? w _ hw43002_1)).trans hw43002_1), ((HB.out.cell (World.block_lt_of_cell? w _ hw43002_2)).trans hw43002_2), ((HB.out.cell (World.block_lt_of_cell? w _ hw43003_0)).trans hw43003_0), ((HB.out.cell (World.block_lt_of_cell? w _ hw43003_1)).trans hw43003_1), ((HB.out.cell (World.block_lt_of_cell? w _ hw43003_2)).trans hw43003_2), ((HB.out.cell (World.block_lt_of_cell? w _ hw43004_0)).trans hw43004_0), ((HB.out.cell (World.block_lt_of_cell? w _ hw43004_1)).trans hw43004_1), ((HB.out.cell (World.block_lt_of_cell? w _ hw43004_2)).trans hw43004_2), ((HB.out.cell (World.block_lt_of_cell? w _ hw43005_0)).trans hw43005_0), ((HB.out.cell (World.block_lt_of_cell? w _ hw43005_1)).trans hw43005_1), ((HB.out.cell (World.block_lt_of_cell? w _ hw43005_2)).trans hw43005_2), ((HB.out.cell (World.block_lt_of_cell? w _ hw43006_0)).trans hw43006_0), ((HB.out.cell (World.block_lt_of_cell? w _ hw43006_1)).trans hw43006_1), ((HB.out.cell (World.block_lt_of_cell? w _ hw43006_2)).trans hw43006_2)⟩ (fun hHeld => ?_)
                    clear hK K
                    refine norm_ (a' := ?_) ?_ ?_
                    rotate_left
                    · show Act.put _ (some 52) _ = _
                      simp only [Act.put, List.setIfInBounds_toArray, List.set_cons_zero, List.set_cons_succ, i64_w, i32_w]
                      rfl
                    refine pure_ (i := 36) (N := some 53) (v := ?_) (a' := ?_) #[true, true, true, true, true, true, true, true, true, true, true, true, true, true, true, true, true, true, true, true, true, true, true, true, true, true, true, true, true, true, true, true, true, true, true, true, true, false] rfl rfl (any_of HT_.out (by kernel_rfl)) (fun _ _ _ h => h) (Or.inl ⟨by rfl, ?_⟩) ?_ ?_
                    rotate_left
                    · intro w'
                      go_simp
                      with_reducible rfl
                    rotate_left
                    · simp only [Act.put, List.setIfInBounds_toArray, List.set_cons_zero, List.set_cons_succ, i64_w, i32_w]
                      rfl
                    refine pure_ (i := 37) (N := some 54) (v := ?_) (a' := ?_) #[true, true, true, true, true, true, true, true, true, true, true, true, true, true, true, true, true, true, true, true, true, true, true, true, true, true, true, true, true, true, true, true, true, true, true, true, true, true] rfl rfl (any_of HT_.out (by kernel_rfl)) (fun _ _ _ h => h) (Or.inl ⟨by rfl, ?_⟩) ?_ ?_
                    rotate_left
                    · intro w'
                      go_simp
                      with_reducible rfl
                    rotate_left
                    · simp only [Act.put, List.setIfInBounds_toArray, List.set_cons_zero, List.set_cons_succ, i64_w, i32_w]
                      rfl
                    refine done_ (done_of HT_.out (by kernel_rfl)) ?_
                    try go_wp2
                    go_roundg k1
                    case measure => have := HK1.out; omega
                    case rel => exact ⟨(wrap64 (x5_1 + 1)), (by first | rfl | (simp; done) | (simp [*]; done)), H', ⟨by have := HK1.out; omega⟩, ⟨by repeat (first | (with_reducible first | exact HB.out | apply below_alloc | apply pw_below_drewN | apply below_drew1) | exact HB.out)⟩⟩
                  · replace c10 := Bool.eq_false_iff.mpr c10
                    subst c10
                    have H1 : (some false) = some r := by rw [if_neg (show ¬ (false = true) by decide)] at H; exact H
                    clear H
                    have H := H1
                    clear H1
                    obtain rfl := Option.some.inj H
                    try go_wp2
                    have n0_ := Aside0.mk (below_drew1 HB.out)
                    clear HB
                    have HB := n0_
                    clear n0_
                    have p43001 : 0 ≤ (x5_1 : Int) := of_decide_eq_true (by first | (with_reducible assumption) | assumption)
                    have q43001 : x5_1 < (l0.length : Int) := of_decide_eq_true (by first | (with_reducible assumption) | assumption)
                    obtain ⟨ad43001, A43001_1, c43001_1, e43001, hx43001_0, hx43001_1, hx43001_2, hl43001_1, hi43001_1⟩ := at_T81 HR0.out x5_1 p43001 q43001
                    have hw43001_2 := hx43001_2
                    have hw43001_1 := hx43001_1
                    have hw43001_0 := hx43001_0
                    cases e43001
                    replace hx43001_0 := (HB.out.cell (World.block_lt_of_cell? w _ hx43001_0)).trans hx43001_0
                    replace hx43001_1 := (HB.out.cell (World.block_lt_of_cell? w _ hx43001_1)).trans hx43001_1
                    replace hx43001_2 := (HB.out.cell (World.block_lt_of_cell? w _ hx43001_2)).trans hx43001_2
                    have HR43001_1 := Aside0.mk hi43001_1
                    have HC43001_1 := Aside0.mk hl43001_1
                    clear hi43001_1 hl43001_1
                    replace p43001 := eq_true p43001
                    replace q43001 := eq_true q43001
                    have p43002 : 0 ≤ (x5_1 : Int) := of_decide_eq_true (by first | (with_reducible assumption) | assumption)
                    have q43002 : x5_1 < (l1.length : Int) := of_decide_eq_true (by first | (with_reducible assumption) | assumption)
                    obtain ⟨ad43002, A43002_1, c43002_1, e43002, hx43002_0, hx43002_1, hx43002_2, hl43002_1, hi43002_1⟩ := at_T81 HR1.out x5_1 p43002 q43002
                    have hw43002_2 := hx43002_2
                    have hw43002_1 := hx43002_1
                    have hw43002_0 := hx43002_0
                    cases e43002
                    replace hx43002_0 := (HB.out.cell (World.block_lt_of_cell? w _ hx43002_0)).trans hx43002_0
                    replace hx43002_1 := (HB.out.cell (World.block_lt_of_cell? w _ hx43002_1)).trans hx43002_1
                    replace hx43002_2 := (HB.out.cell (World.block_lt_of_cell? w _ hx43002_2)).trans hx43002_2
                    have HR43002_1 := Aside0.mk hi43002_1
                    have HC43002_1 := Aside0.mk hl43002_1
                    clear hi43002_1 hl43002_1
                    replace p43002 := eq_true p43002
                    replace q43002 := eq_true q43002
                    have p43003 : 0 ≤ (x5_1 : Int) := of_decide_eq_true (by first | (with_reducible assumption) | assumption)
                    have q43003 : x5_1 < (l0.length : Int) := of_decide_eq_true (by first | (with_reducible assumption) | assumption)
                    obtain ⟨ad43003, A43003_1, c43003_1, e43003, hx43003_0, hx43003_1, hx43003_2, hl43003_1, hi43003_1⟩ := at_T81 HR0.out x5_1 p43003 q43003
                    have hw43003_2 := hx43003_2
                    have hw43003_1 := hx43003_1
                    have hw43003_0 := hx43003_0
                    obtain rfl : ad43001 = ad43003 := (by injection e43003)
                    replace hx43003_0 := (HB.out.cell (World.block_lt_of_cell? w _ hx43003_0)).trans hx43003_0
                    replace hx43003_1 := (HB.out.cell (World.block_lt_of_cell? w _ hx43003_1)).trans hx43003_1
                    replace hx43003_2 := (HB.out.cell (World.block_lt_of_cell? w _ hx43003_2)).trans hx43003_2
                    have HR43003_1 := Aside0.mk hi43003_1
                    have HC43003_1 := Aside0.mk hl43003_1
                    clear hi43003_1 hl43003_1
                    replace p43003 := eq_true p43003
                    replace q43003 := eq_true q43003
                    have ea_ := Option.some.inj (hx43001_1.symm.trans hx43003_1)
                    injection ea_ with ea_ en_ ec_
                    subst ea_
                    subst ec_
                    clear en_
                    have p43004 : 0 ≤ (x5_1 : Int) := of_decide_eq_true (by first | (with_reducible assumption) | assumption)
                    have q43004 : x5_1 < (l1.length : Int) := of_decide_eq_true (by first | (with_reducible assumption) | assumption)
                    obtain ⟨ad43004, A43004_1, c43004_1, e43004, hx43004_0, hx43004_1, hx43004_2, hl43004_1, hi43004_1⟩ := at_T81 HR1.out x5_1 p43004 q43004
                    have hw43004_2 := hx43004_2
                    have hw43004_1 := hx43004_1
                    have hw43004_0 := hx43004_0
                    obtain rfl : ad43002 = ad43004 := (by injection e43004)
                    replace hx43004_0 := (HB.out.cell (World.block_lt_of_cell? w _ hx43004_0)).trans hx43004_0
                    replace hx43004_1 := (HB.out.cell (World.block_lt_of_cell? w _ hx43004_1)).trans hx43004_1
                    replace hx43004_2 := (HB.out.cell (World.block_lt_of_cell? w _ hx43004_2)).trans hx43004_2
                    have HR43004_1 := Aside0.mk hi43004_1
                    have HC43004_1 := Aside0.mk hl43004_1
                    clear hi43004_1 hl43004_1
                    replace p43004 := eq_true p43004
                    replace q43004 := eq_true q43004
                    have ea_ := Option.some.inj (hx43002_1.symm.trans hx43004_1)
                    injection ea_ with ea_ en_ ec_
                    subst ea_
                    subst ec_
                    clear en_
                    have p43005 : 0 ≤ (x5_1 : Int) := of_decide_eq_true (by first | (with_reducible assumption) | assumption)
                    have q43005 : x5_1 < (l0.length : Int) := of_decide_eq_true (by first | (with_reducible assumption) | assumption)
                    obtain ⟨ad43005, A43005_1, c43005_1, e43005, hx43005_0, hx43005_1, hx43005_2, hl43005_1, hi43005_1⟩ := at_T81 HR0.out x5_1 p43005 q43005
                    have hw43005_2 := hx43005_2
                    have hw43005_1 := hx43005_1
                    have hw43005_0 := hx43005_0
                    obtain rfl : ad43001 = ad43005 := (by injection e43005)
                    replace hx43005_0 := (HB.out.cell (World.block_lt_of_cell? w _ hx43005_0)).trans hx43005_0
                    replace hx43005_1 := (HB.out.cell (World.block_lt_of_cell? w _ hx43005_1)).trans hx43005_1
                    replace hx43005_2 := (HB.out.cell (World.block_lt_of_cell? w _ hx43005_2)).trans hx43005_2
                    have HR43005_1 := Aside0.mk hi43005_1
                    have HC43005_1 := Aside0.mk hl43005_1
                    clear hi43005_1 hl43005_1
                    replace p43005 := eq_true p43005
                    replace q43005 := eq_true q43005
                    have ea_ := Option.some.inj (hx43001_1.symm.trans hx43005_1)
                    injection ea_ with ea_ en_ ec_
                    subst ea_
                    subst ec_
                    clear en_
                    have p43006 : 0 ≤ (x5_1 : Int) := of_decide_eq_true (by first | (with_reducible assumption) | assumption)
                    have q43006 : x5_1 < (l1.length : Int) := of_decide_eq_true (by first | (with_reducible assumption) | assumption)
                    obtain ⟨ad43006, A43006_1, c43006_1, e43006, hx43006_0, hx43006_1, hx43006_2, hl43006_1, hi43006_1⟩ := at_T81 HR1.out x5_1 p43006 q43006
                    have hw43006_2 := hx43006_2
                    have hw43006_1 := hx43006_1
                    have hw43006_0 := hx43006_0
                    obtain rfl : ad43002 = ad43006 := (by injection e43006)
                    replace hx43006_0 := (HB.out.cell (World.block_lt_of_cell? w _ hx43006_0)).trans hx43006_0
                    replace hx43006_1 := (HB.out.cell (World.block_lt_of_cell? w _ hx43006_1)).trans hx43006_1
                    replace hx43006_2 := (HB.out.cell (World.block_lt_of_cell? w _ hx43006_2)).trans hx43006_2
                    have HR43006_1 := Aside0.mk hi43006_1
                    have HC43006_1 := Aside0.mk hl43006_1
                    clear hi43006_1 hl43006_1
                    replace p43006 := eq_true p43006
                    replace q43006 := eq_true q43006
                    have ea_ := Option.some.inj (hx43002_1.symm.trans hx43006_1)
                    injection ea_ with ea_ en_ ec_
                    subst ea_
                    subst ec_
                    clear en_
                    refine start_ (n := 38) (S := fun w' => w'.cell? (ad43001.add ((x5_1).toNat * 3)) = some (.string ((rd_T81 l0 x5_1).f0)) ∧ w'.cell? ⟨(ad43001.add ((x5_1).toNat * 3)).block, (ad43001.add ((x5_1).toNat * 3)).off + 1, none⟩ = some (.slice A43001_1 ((rd_T81 l0 x5_1).f1).length c43001_1) ∧ w'.cell? ⟨(ad43001.add ((x5_1).toNat * 3)).block, (ad43001.add ((x5_1).toNat * 3)).off + 2, none⟩ = some (.string ((rd_T81 l0 x5_1).f2)) ∧ w'.cell? (ad43002.add ((x5_1).toNat * 3)) = some (.string ((rd_T81 l1 x5_1).f0)) ∧ w'.cell? ⟨(ad43002.add ((x5_1).toNat * 3)).block, (ad43002.add ((x5_1).toNat * 3)).off + 1, none⟩ = some (.slice A43002_1 ((rd_T81 l1 x5_1).f1).length c43002_1) ∧ w'.cell? ⟨(ad43002.add ((x5_1).toNat * 3)).block, (ad43002.add ((x5_1).toNat * 3)).off + 2, none⟩ = some (.string ((rd_T81 l1 x5_1).f2)) ∧ w'.cell? (ad43001.add ((x5_1).toNat * 3)) = some (.string ((rd_T81 l0 x5_1).f0)) ∧ w'.cell? ⟨(ad43001.add ((x5_1).toNat * 3)).block, (ad43001.add ((x5_1).toNat * 3)).off + 1, none⟩ = some (.slice A43001_1 ((rd_T81 l0 x5_1).f1).length c43001_1) ∧ w'.cell? ⟨(ad43001.add ((x5_1).toNat * 3)).block, (ad43001.add ((x5_1).toNat * 3)).off + 2, none⟩ = some (.string ((rd_T81 l0 x5_1).f2)) ∧ w'.cell? (ad43002.add ((x5_1).toNat * 3)) = some (.string ((rd_T81 l1 x5_1).f0)) ∧ w'.cell? ⟨(ad43002.add ((x5_1).toNat * 3)).block, (ad43002.add ((x5_1).toNat * 3)).off + 1, none⟩ = some (.slice A43002_1 ((rd_T81 l1 x5_1).f1).length c43002_1) ∧ w'.cell? ⟨(ad43002.add ((x5_1).toNat * 3)).block, (ad43002.add ((x5_1).toNat * 3)).off + 2, none⟩ = some (.string ((rd_T81 l1 x5_1).f2)) ∧ w'.cell? (ad43001.add ((x5_1).toNat * 3)) = some (.string ((rd_T81 l0 x5_1).f0)) ∧ w'.cell? ⟨(ad43001.add ((x5_1).toNat * 3)).block, (ad43001.add ((x5_1).toNat * 3)).off + 1, none⟩ = some (.slice A43001_1 ((rd_T81 l0 x5_1).f1).length c43001_1) ∧ w'.cell? ⟨(ad43001.add ((x5_1).toNat * 3)).block, (ad43001.add ((x5_1).toNat * 3)).off + 2, none⟩ = some (.string ((rd_T81 l0 x5_1).f2)) ∧ w'.cell? (ad43002.add ((x5_1).toNat * 3)) = some (.string ((rd_T81 l1 x5_1).f0)) ∧ w'.cell? ⟨(ad43002.add ((x5_1).toNat * 3)).block, (ad43002.add ((x5_1).toNat * 3)).off + 1, none⟩ = some (.slice A43002_1 ((rd_T81 l1 x5_1).f1).length c43002_1) ∧ w'.cell? ⟨(ad43002.add ((x5_1).toNat * 3)).block, (ad43002.add ((x5_1).toNat * 3)).off + 2, none⟩ = some (.string ((rd_T81 l1 x5_1).f2))) (ds := []) #[false, false, false, false, false, false, false, false, false, false, false, false, false, false, false, false, false, false, false, false, false, false, false, false, false, false, false, false, false, false, false, false, false, false, false, false, false, false] (by kernel_rfl) rfl rfl ⟨((HB.out.cell (World.block_lt_of_cell? w _ hw43001_0)).trans hw43001_0), ((HB.out.cell (World.block_lt_of_cell? w _ hw43001_1)).trans hw43001_1), ((HB.out.cell (World.block_lt_of_cell? w _ hw43001_2)).trans hw43001_2), ((HB.out.cell (World.block_lt_of_cell? w _ hw43002_0)).trans hw43002_0), ((HB.out.cell (World.block_lt_of_cell? w _ hw43002_1)).trans hw43002_1), ((HB.out.cell (World.block_lt_of_cell? w _ hw43002_2)).trans hw43002_2), ((HB.out.cell (World.block_lt_of_cell? w _ hw43003_0)).trans hw43003_0), ((HB.out.cell (World.block_lt_of_cell? w _ hw43003_1)).trans hw43003_1), ((HB.out.cell (World.block_lt_of_cell? w _ hw43003_2)).trans hw43003_2), ((HB.out.cell (World.block_lt_of_cell? w _ hw43004_0)).trans hw43004_0), ((HB.out.cell (World.block_lt_of_cell? w _ hw43004_1)).trans hw43004_1), ((HB.out.cell (World.block_lt_of_cell? w _ hw43004_2)).trans hw43004_2), ((HB.out.cell (World.block_lt_of_cell? w _ hw43005_0)).trans hw43005_0), ((HB.out.cell (World.block_lt_of_cell? w _ hw43005_1)).trans hw43005_1), ((HB.out.cell (World.block_lt_of_cell? w _ hw43005_2)).trans hw43005_2), ((HB.out.cell (World.block_lt_of_cell? w _ hw43006_0)).trans hw43006_0), ((HB.out.cell (World.block_lt_of_cell? w _ hw43006_1)).trans hw43006_1), ((HB.out.cell (World.block_lt_of_cell? w _ hw43006_2)).trans hw43006_2)⟩ (fun hHeld => ?_); refine with_tabW tinderref07_Same.tab6 tinderref07_Same.bits6 (fun HT_ HW_ => ?_)
                    generalize wr.drew = w12 at HB HR43001_1 HR43002_1 HR43003_1 HR43004_1 HR43005_1 HR43006_1 hx43001_0 hx43001_1 hx43001_2 hx43002_0 hx43002_1 hx43002_2 hx43003_0 hx43003_1 hx43003_2 hx43004_0 hx43004_1 hx43004_2 hx43005_0 hx43005_1 hx43005_2 hx43006_0 hx43006_1 hx43006_2 hHeld ⊢
                    refine pure_ (i := 0) (N := some 17) (v := ?_) (a' := ?_) #[true, false, false, false, false, false, false, false, false, false, false, false, false, false, false, false, false, false, false, false, false, false, false, false, false, false, false, false, false, false, false, false, false, false, false, false, false, false] rfl rfl (any_of HT_.out (by kernel_rfl)) (fun _ _ _ h => h) (Or.inl ⟨by rfl, ?_⟩) ?_ ?_
                    rotate_left
                    · intro w'
                      go_simp
                      with_reducible rfl
                    rotate_left
                    · simp only [Act.put, List.setIfInBounds_toArray, List.set_cons_zero, List.set_cons_succ, i64_w, i32_w]
                      rfl
                    refine pure_ (i := 1) (N := some 18) (v := ?_) (a' := ?_) #[true, true, false, false, false, false, false, false, false, false, false, false, false, false, false, false, false, false, false, false, false, false, false, false, false, false, false, false, false, false, false, false, false, false, false, false, false, false] rfl rfl (any_of HT_.out (by kernel_rfl)) (fun _ _ _ h => h) (Or.inl ⟨by rfl, ?_⟩) ?_ ?_
                    rotate_left
                    · intro w'
                      go_simp
                      with_reducible rfl
                    rotate_left
                    · simp only [Act.put, List.setIfInBounds_toArray, List.set_cons_zero, List.set_cons_succ, i64_w, i32_w]
                      rfl
                    refine pure_ (i := 2) (N := some 19) (v := ?_) (a' := ?_) #[true, true, true, false, false, false, false, false, false, false, false, false, false, false, false, false, false, false, false, false, false, false, false, false, false, false, false, false, false, false, false, false, false, false, false, false, false, false] rfl rfl (any_of HT_.out (by kernel_rfl)) (fun _ _ _ h => h) (Or.inl ⟨by rfl, ?_⟩) ?_ ?_
                    rotate_left
                    · intro w'
                      go_simp
                      with_reducible rfl
                    rotate_left
                    · simp only [Act.put, List.setIfInBounds_toArray, List.set_cons_zero, List.set_cons_succ, i64_w, i32_w]
                      rfl
                    refine pure_ (i := 3) (N := some 20) (v := ?_) (a' := ?_) #[true, true, true, true, false, false, false, false, false, false, false, false, false, false, false, false, false, false, false, false, false, false, false, false, false, false, false, false, false, false, false, false, false, false, false, false, false, false] rfl rfl (any_of HT_.out (by kernel_rfl)) (fun _ _ _ h => h) (Or.inl ⟨by rfl, ?_⟩) ?_ ?_
                    rotate_left
                    · intro w'
                      go_simp
                      with_reducible rfl
                    rotate_left
                    · simp only [Act.put, List.setIfInBounds_toArray, List.set_cons_zero, List.set_cons_succ, i64_w, i32_w]
                      rfl
                    refine pure_ (i := 5) (N := some 22) (v := ?_) (a' := ?_) #[true, true, true, true, false, true, false, false, false, false, false, false, false, false, false, false, false, false, false, false, false, false, false, false, false, false, false, false, false, false, false, false, false, false, false, false, false, false] rfl rfl (any_of HT_.out (by kernel_rfl)) (fun _ _ _ h => h) (Or.inl ⟨by rfl, ?_⟩) ?_ ?_
                    rotate_left
                    · intro w'
                      go_simp
                      with_reducible rfl
                    rotate_left
                    · simp only [Act.put, List.setIfInBounds_toArray, List.set_cons_zero, List.set_cons_succ, i64_w, i32_w]
                      rfl
                    refine pure_ (i := 6) (N := some 23) (v := ?_) (a' := ?_) #[true, true, true, true, false, true, true, false, false, false, false, false, false, false, false, false, false, false, false, false, false, false, false, false, false, false, false, false, false, false, false, false, false, false, false, false, false, false] rfl rfl (any_of HT_.out (by kernel_rfl)) (fun _ _ _ h => h) (Or.inl ⟨by rfl, ?_⟩) ?_ ?_
                    rotate_left
                    · intro w'
                      go_simp
                      with_reducible rfl
                    rotate_left
                    · simp only [Act.put, List.setIfInBounds_toArray, List.set_cons_zero, List.set_cons_succ, i64_w, i32_w]
                      rfl
                    refine pure_ (i := 7) (N := some 24) (v := ?_) (a' := ?_) #[true, true, true, true, false, true, true, true, false, false, false, false, false, false, false, false, false, false, false, false, false, false, false, false, false, false, false, false, false, false, false, false, false, false, false, false, false, false] rfl rfl (any_of HT_.out (by kernel_rfl)) (fun _ _ _ h => h) (Or.inl ⟨by rfl, ?_⟩) ?_ ?_
                    rotate_left
                    · intro w'
                      go_simp
                      with_reducible rfl
                    rotate_left
                    · simp only [Act.put, List.setIfInBounds_toArray, List.set_cons_zero, List.set_cons_succ, i64_w, i32_w]
                      rfl
                    refine pure_ (i := 8) (N := some 25) (v := ?_) (a' := ?_) #[true, true, true, true, false, true, true, true, true, false, false, false, false, false, false, false, false, false, false, false, false, false, false, false, false, false, false, false, false, false, false, false, false, false, false, false, false, false] rfl rfl (any_of HT_.out (by kernel_rfl)) (fun _ _ _ h => h) (Or.inl ⟨by rfl, ?_⟩) ?_ ?_
                    rotate_left
                    · intro w'
                      go_simp
                      with_reducible rfl
                    rotate_left
                    · simp only [Act.put, List.setIfInBounds_toArray, List.set_cons_zero, List.set_cons_succ, i64_w, i32_w]
                      rfl
                    refine take_ (i := 4) (N := some 21) (v := ?_) (a' := ?_) #[true, true, true, true, true, true, true, true, true, false, false, false, false, false, false, false, false, false, false, false, false, false, false, false, false, false, false, false, false, false, false, false, false, false, false, false, false, false] rfl rfl (take_ofW HT_.out HW_.out (by kernel_rfl)) (fun _ _ _ h => h) (Or.inl ⟨by rfl, ?_⟩) hHeld ?_ ?_
                    rotate_left
                    · rintro w' ⟨s0, s1, s2, s3, s4, s5, s6, s7, s8, s9, s10, s11, s12, s13, s14, s15, s16, s17⟩
                      go_simp
                      with_reducible rfl
                    rotate_left
                    · simp only [Act.put, List.setIfInBounds_toArray, List.set_cons_zero, List.set_cons_succ, i64_w, i32_w]
                      rfl
                    refine take_ (i := 9) (N := some 26) (v := ?_) (a' := ?_) #[true, true, true, true, true, true, true, true, true, true, false, false, false, false, false, false, false, false, false, false, false, false, false, false, false, false, false, false, false, false, false, false, false, false, false, false, false, false] rfl rfl (take_ofW HT_.out HW_.out (by kernel_rfl)) (fun _ _ _ h => h) (Or.inl ⟨by rfl, ?_⟩) hHeld ?_ ?_
                    rotate_left
                    · rintro w' ⟨s0, s1, s2, s3, s4, s5, s6, s7, s8, s9, s10, s11, s12, s13, s14, s15, s16, s17⟩
                      go_simp
                      with_reducible rfl
                    rotate_left
                    · simp only [Act.put, List.setIfInBounds_toArray, List.set_cons_zero, List.set_cons_succ, i64_w, i32_w]
                      rfl
                    refine pure_ (i := 10) (N := some 27) (v := ?_) (a' := ?_) #[true, true, true, true, true, true, true, true, true, true, true, false, false, false, false, false, false, false, false, false, false, false, false, false, false, false, false, false, false, false, false, false, false, false, false, false, false, false] rfl rfl (any_of HT_.out (by kernel_rfl)) (fun _ _ _ h => h) (Or.inl ⟨by rfl, ?_⟩) ?_ ?_
                    rotate_left
                    · intro w'
                      go_simp
                      with_reducible rfl
                    rotate_left
                    · simp only [Act.put, List.setIfInBounds_toArray, List.set_cons_zero, List.set_cons_succ, i64_w, i32_w]
                      rfl
                    refine pure_ (i := 11) (N := some 28) (v := ?_) (a' := ?_) #[true, true, true, true, true, true, true, true, true, true, true, true, false, false, false, false, false, false, false, false, false, false, false, false, false, false, false, false, false, false, false, false, false, false, false, false, false, false] rfl rfl (any_of HT_.out (by kernel_rfl)) (fun _ _ _ h => h) (Or.inl ⟨by rfl, ?_⟩) ?_ ?_
                    rotate_left
                    · intro w'
                      go_simp
                      with_reducible rfl
                    rotate_left
                    · simp only [Act.put, List.setIfInBounds_toArray, List.set_cons_zero, List.set_cons_succ, i64_w, i32_w]
                      rfl
                    refine pure_ (i := 12) (N := some 29) (v := ?_) (a' := ?_) #[true, true, true, true, true, true, true, true, true, true, true, true, true, false, false, false, false, false, false, false, false, false, false, false, false, false, false, false, false, false, false, false, false, false, false, false, false, false] rfl rfl (any_of HT_.out (by kernel_rfl)) (fun _ _ _ h => h) (Or.inl ⟨by rfl, ?_⟩) ?_ ?_
                    rotate_left
                    · intro w'
                      go_simp
                      with_reducible rfl
                    rotate_left
                    · simp only [Act.put, List.setIfInBounds_toArray, List.set_cons_zero, List.set_cons_succ, i64_w, i32_w]
                      rfl
                    refine pure_ (i := 13) (N := some 30) (v := ?_) (a' := ?_) #[true, true, true, true, true, true, true, true, true, true, true, true, true, true, false, false, false, false, false, false, false, false, false, false, false, false, false, false, false, false, false, false, false, false, false, false, false, false] rfl rfl (any_of HT_.out (by kernel_rfl)) (fun _ _ _ h => h) (Or.inl ⟨by rfl, ?_⟩) ?_ ?_
                    rotate_left
                    · intro w'
                      go_simp
                      with_reducible rfl
                    rotate_left
                    · simp only [Act.put, List.setIfInBounds_toArray, List.set_cons_zero, List.set_cons_succ, i64_w, i32_w]
                      rfl
                    refine pure_ (i := 14) (N := some 31) (v := ?_) (a' := ?_) #[true, true, true, true, true, true, true, true, true, true, true, true, true, true, true, false, false, false, false, false, false, false, false, false, false, false, false, false, false, false, false, false, false, false, false, false, false, false] rfl rfl (any_of HT_.out (by kernel_rfl)) (fun _ _ _ h => h) (Or.inl ⟨by rfl, ?_⟩) ?_ ?_
                    rotate_left
                    · intro w'
                      go_simp
                      with_reducible rfl
                    rotate_left
                    · simp only [Act.put, List.setIfInBounds_toArray, List.set_cons_zero, List.set_cons_succ, i64_w, i32_w]
                      rfl
                    refine pure_ (i := 15) (N := some 32) (v := ?_) (a' := ?_) #[true, true, true, true, true, true, true, true, true, true, true, true, true, true, true, true, false, false, false, false, false, false, false, false, false, false, false, false, false, false, false, false, false, false, false, false, false, false] rfl rfl (any_of HT_.out (by kernel_rfl)) (fun _ _ _ h => h) (Or.inl ⟨by rfl, ?_⟩) ?_ ?_
                    rotate_left
                    · intro w'
                      go_simp
                      with_reducible rfl
                    rotate_left
                    · simp only [Act.put, List.setIfInBounds_toArray, List.set_cons_zero, List.set_cons_succ, i64_w, i32_w]
                      rfl
                    refine pure_ (i := 17) (N := some 34) (v := ?_) (a' := ?_) #[true, true, true, true, true, true, true, true, true, true, true, true, true, true, true, true, false, true, false, false, false, false, false, false, false, false, false, false, false, false, false, false, false, false, false, false, false, false] rfl rfl (any_of HT_.out (by kernel_rfl)) (fun _ _ _ h => h) (Or.inl ⟨by rfl, ?_⟩) ?_ ?_
                    rotate_left
                    · intro w'
                      go_simp
                      with_reducible rfl
                    rotate_left
                    · simp only [Act.put, List.setIfInBounds_toArray, List.set_cons_zero, List.set_cons_succ, i64_w, i32_w]
                      rfl
                    refine pure_ (i := 18) (N := some 35) (v := ?_) (a' := ?_) #[true, true, true, true, true, true, true, true, true, true, true, true, true, true, true, true, false, true, true, false, false, false, false, false, false, false, false, false, false, false, false, false, false, false, false, false, false, false] rfl rfl (any_of HT_.out (by kernel_rfl)) (fun _ _ _ h => h) (Or.inl ⟨by rfl, ?_⟩) ?_ ?_
                    rotate_left
                    · intro w'
                      go_simp
                      with_reducible rfl
                    rotate_left
                    · simp only [Act.put, List.setIfInBounds_toArray, List.set_cons_zero, List.set_cons_succ, i64_w, i32_w]
                      rfl
                    refine pure_ (i := 19) (N := some 36) (v := ?_) (a' := ?_) #[true, true, true, true, true, true, true, true, true, true, true, true, true, true, true, true, false, true, true, true, false, false, false, false, false, false, false, false, false, false, false, false, false, false, false, false, false, false] rfl rfl (any_of HT_.out (by kernel_rfl)) (fun _ _ _ h => h) (Or.inl ⟨by rfl, ?_⟩) ?_ ?_
                    rotate_left
                    · intro w'
                      go_simp
                      with_reducible rfl
                    rotate_left
                    · simp only [Act.put, List.setIfInBounds_toArray, List.set_cons_zero, List.set_cons_succ, i64_w, i32_w]
                      rfl
                    refine pure_ (i := 20) (N := some 37) (v := ?_) (a' := ?_) #[true, true, true, true, true, true, true, true, true, true, true, true, true, true, true, true, false, true, true, true, true, false, false, false, false, false, false, false, false, false, false, false, false, false, false, false, false, false] rfl rfl (any_of HT_.out (by kernel_rfl)) (fun _ _ _ h => h) (Or.inl ⟨by rfl, ?_⟩) ?_ ?_
                    rotate_left
                    · intro w'
                      go_simp
                      with_reducible rfl
                    rotate_left
                    · simp only [Act.put, List.setIfInBounds_toArray, List.set_cons_zero, List.set_cons_succ, i64_w, i32_w]
                      rfl
                    refine take_ (i := 16) (N := some 33) (v := ?_) (a' := ?_) #[true, true, true, true, true, true, true, true, true, true, true, true, true, true, true, true, true, true, true, true, true, false, false, false, false, false, false, false, false, false, false, false, false, false, false, false, false, false] rfl rfl (take_ofW HT_.out HW_.out (by kernel_rfl)) (fun _ _ _ h => h) (Or.inl ⟨by rfl, ?_⟩) hHeld ?_ ?_
                    rotate_left
                    · rintro w' ⟨s0, s1, s2, s3, s4, s5, s6, s7, s8, s9, s10, s11, s12, s13, s14, s15, s16, s17⟩
                      go_simp
                      with_reducible rfl
                    rotate_left
                    · simp only [Act.put, List.setIfInBounds_toArray, List.set_cons_zero, List.set_cons_succ, i64_w, i32_w]
                      rfl
                    refine take_ (i := 21) (N := some 38) (v := ?_) (a' := ?_) #[true, true, true, true, true, true, true, true, true, true, true, true, true, true, true, true, true, true, true, true, true, true, false, false, false, false, false, false, false, false, false, false, false, false, false, false, false, false] rfl rfl (take_ofW HT_.out HW_.out (by kernel_rfl)) (fun _ _ _ h => h) (Or.inl ⟨by rfl, ?_⟩) hHeld ?_ ?_
                    rotate_left
                    · rintro w' ⟨s0, s1, s2, s3, s4, s5, s6, s7, s8, s9, s10, s11, s12, s13, s14, s15, s16, s17⟩
                      go_simp
                      with_reducible rfl
                    rotate_left
                    · simp only [Act.put, List.setIfInBounds_toArray, List.set_cons_zero, List.set_cons_succ, i64_w, i32_w]
                      rfl
                    refine pure_ (i := 22) (N := some 39) (v := ?_) (a' := ?_) #[true, true, true, true, true, true, true, true, true, true, true, true, true, true, true, true, true, true, true, true, true, true, true, false, false, false, false, false, false, false, false, false, false, false, false, false, false, false] rfl rfl (any_of HT_.out (by kernel_rfl)) (fun _ _ _ h => h) (Or.inl ⟨by rfl, ?_⟩) ?_ ?_
                    rotate_left
                    · intro w'
                      go_simp
                      with_reducible rfl
                    rotate_left
                    · simp only [Act.put, List.setIfInBounds_toArray, List.set_cons_zero, List.set_cons_succ, i64_w, i32_w]
                      rfl
                    refine pure_ (i := 23) (N := some 40) (v := ?_) (a' := ?_) #[true, true, true, true, true, true, true, true, true, true, true, true, true, true, true, true, true, true, true, true, true, true, true, true, false, false, false, false, false, false, false, false, false, false, false, false, false, false] rfl rfl (any_of HT_.out (by kernel_rfl)) (fun _ _ _ h => h) (Or.inl ⟨by rfl, ?_⟩) ?_ ?_
                    rotate_left
                    · intro w'
                      go_simp
                      with_reducible rfl
                    rotate_left
                    · simp only [Act.put, List.setIfInBounds_toArray, List.set_cons_zero, List.set_cons_succ, i64_w, i32_w]
                      rfl
                    refine pure_ (i := 24) (N := some 41) (v := ?_) (a' := ?_) #[true, true, true, true, true, true, true, true, true, true, true, true, true, true, true, true, true, true, true, true, true, true, true, true, true, false, false, false, false, false, false, false, false, false, false, false, false, false] rfl rfl (any_of HT_.out (by kernel_rfl)) (fun _ _ _ h => h) (Or.inl ⟨by rfl, ?_⟩) ?_ ?_
                    rotate_left
                    · intro w'
                      go_simp
                      with_reducible rfl
                    rotate_left
                    · simp only [Act.put, List.setIfInBounds_toArray, List.set_cons_zero, List.set_cons_succ, i64_w, i32_w]
                      rfl
                    refine pure_ (i := 25) (N := some 42) (v := ?_) (a' := ?_) #[true, true, true, true, true, true, true, true, true, true, true, true, true, true, true, true, true, true, true, true, true, true, true, true, true, true, false, false, false, false, false, false, false, false, false, false, false, false] rfl rfl (any_of HT_.out (by kernel_rfl)) (fun _ _ _ h => h) (Or.inl ⟨by rfl, ?_⟩) ?_ ?_
                    rotate_left
                    · intro w'
                      go_simp
                      with_reducible rfl
                    rotate_left
                    · simp only [Act.put, List.setIfInBounds_toArray, List.set_cons_zero, List.set_cons_succ, i64_w, i32_w]
                      rfl
                    refine pure_ (i := 26) (N := some 43) (v := ?_) (a' := ?_) #[true, true, true, true, true, true, true, true, true, true, true, true, true, true, true, true, true, true, true, true, true, true, true, true, true, true, true, false, false, false, false, false, false, false, false, false, false, false] rfl rfl (any_of HT_.out (by kernel_rfl)) (fun _ _ _ h => h) (Or.inl ⟨by rfl, ?_⟩) ?_ ?_
                    rotate_left
                    · intro w'
                      go_simp
                      with_reducible rfl
                    rotate_left
                    · simp only [Act.put, List.setIfInBounds_toArray, List.set_cons_zero, List.set_cons_succ, i64_w, i32_w]
                      rfl
                    refine pure_ (i := 27) (N := some 44) (v := ?_) (a' := ?_) #[true, true, true, true, true, true, true, true, true, true, true, true, true, true, true, true, true, true, true, true, true, true, true, true, true, true, true, true, false, false, false, false, false, false, false, false, false, false] rfl rfl (any_of HT_.out (by kernel_rfl)) (fun _ _ _ h => h) (Or.inl ⟨by rfl, ?_⟩) ?_ ?_
                    rotate_left
                    · intro w'
                      go_simp
                      with_reducible rfl
                    rotate_left
                    · simp only [Act.put, List.setIfInBounds_toArray, List.set_cons_zero, List.set_cons_succ, i64_w, i32_w]
                      rfl
                    refine pure_ (i := 28) (N := some 45) (v := ?_) (a' := ?_) #[true, true, true, true, true, true, true, true, true, true, true, true, true, true, true, true, true, true, true, true, true, true, true, true, true, true, true, true, true, false, false, false, false, false, false, false, false, false] rfl rfl (any_of HT_.out (by kernel_rfl)) (fun _ _ _ h => h) (Or.inl ⟨by rfl, ?_⟩) ?_ ?_
                    rotate_left
                    · intro w'
                      go_simp
                      with_reducible rfl
                    rotate_left
                    · simp only [Act.put, List.setIfInBounds_toArray, List.set_cons_zero, List.set_cons_succ, i64_w, i32_w]
                      rfl
                    refine pure_ (i := 30) (N := some 47) (v := ?_) (a' := ?_) #[true, true, true, true, true, true, true, true, true, true, true, true, true, true, true, true, true, true, true, true, true, true, true, true, true, true, true, true, true, false, true, false, false, false, false, false, false, false] rfl rfl (any_of HT_.out (by kernel_rfl)) (fun _ _ _ h => h) (Or.inl ⟨by rfl, ?_⟩) ?_ ?_
                    rotate_left
                    · intro w'
                      go_simp
                      with_reducible rfl
                    rotate_left
                    · simp only [Act.put, List.setIfInBounds_toArray, List.set_cons_zero, List.set_cons_succ, i64_w, i32_w]
                      rfl
                    refine pure_ (i := 31) (N := some 48) (v := ?_) (a' := ?_) #[true, true, true, true, true, true, true, true, true, true, true, true, true, true, true, true, true, true, true, true, true, true, true, true, true, true, true, true, true, false, true, true, false, false, false, false, false, false] rfl rfl (any_of HT_.out (by kernel_rfl)) (fun _ _ _ h => h) (Or.inl ⟨by rfl, ?_⟩) ?_ ?_
                    rotate_left
                    · intro w'
                      go_simp
                      with_reducible rfl
                    rotate_left
                    · simp only [Act.put, List.setIfInBounds_toArray, List.set_cons_zero, List.set_cons_succ, i64_w, i32_w]
                      rfl
                    refine pure_ (i := 32) (N := some 49) (v := ?_) (a' := ?_) #[true, true, true, true, true, true, true, true, true, true, true, true, true, true, true, true, true, true, true, true, true, true, true, true, true, true, true, true, true, false, true, true, true, false, false, false, false, false] rfl rfl (any_of HT_.out (by kernel_rfl)) (fun _ _ _ h => h) (Or.inl ⟨by rfl, ?_⟩) ?_ ?_
                    rotate_left
                    · intro w'
                      go_simp
                      with_reducible rfl
                    rotate_left
                    · simp only [Act.put, List.setIfInBounds_toArray, List.set_cons_zero, List.set_cons_succ, i64_w, i32_w]
                      rfl
                    refine pure_ (i := 33) (N := some 50) (v := ?_) (a' := ?_) #[true, true, true, true, true, true, true, true, true, true, true, true, true, true, true, true, true, true, true, true, true, true, true, true, true, true, true, true, true, false, true, true, true, true, false, false, false, false] rfl rfl (any_of HT_.out (by kernel_rfl)) (fun _ _ _ h => h) (Or.inl ⟨by rfl, ?_⟩) ?_ ?_
                    rotate_left
                    · intro w'
                      go_simp
                      with_reducible rfl
                    rotate_left
                    · simp only [Act.put, List.setIfInBounds_toArray, List.set_cons_zero, List.set_cons_succ, i64_w, i32_w]
                      rfl
                    refine take_ (i := 29) (N := some 46) (v := ?_) (a' := ?_) #[true, true, true, true, true, true, true, true, true, true, true, true, true, true, true, true, true, true, true, true, true, true, true, true, true, true, true, true, true, true, true, true, true, true, false, false, false, false] rfl rfl (take_ofW HT_.out HW_.out (by kernel_rfl)) (fun _ _ _ h => h) (Or.inl ⟨by rfl, ?_⟩) hHeld ?_ ?_
                    rotate_left
                    · rintro w' ⟨s0, s1, s2, s3, s4, s5, s6, s7, s8, s9, s10, s11, s12, s13, s14, s15, s16, s17⟩
                      go_simp
                      with_reducible rfl
                    rotate_left
                    · simp only [Act.put, List.setIfInBounds_toArray, List.set_cons_zero, List.set_cons_succ, i64_w, i32_w]
                      rfl
                    refine take_ (i := 34) (N := some 51) (v := ?_) (a' := ?_) #[true, true, true, true, true, true, true, true, true, true, true, true, true, true, true, true, true, true, true, true, true, true, true, true, true, true, true, true, true, true, true, true, true, true, true, false, false, false] rfl rfl (take_ofW HT_.out HW_.out (by kernel_rfl)) (fun _ _ _ h => h) (Or.inl ⟨by rfl, ?_⟩) hHeld ?_ ?_
                    rotate_left
                    · rintro w' ⟨s0, s1, s2, s3, s4, s5, s6, s7, s8, s9, s10, s11, s12, s13, s14, s15, s16, s17⟩
                      go_simp
                      with_reducible rfl
                    rotate_left
                    · simp only [Act.put, List.setIfInBounds_toArray, List.set_cons_zero, List.set_cons_succ, i64_w, i32_w]
                      rfl
                    refine one_ (i := 35) (N := some 52) #[true, true, true, true, true, true, true, true, true, true, true, true, true, true, true, true, true, true, true, true, true, true, true, true, true, true, true, true, true, true, true, true, true, true, true, true, false, false] rfl rfl (one_of HT_.out (by kernel_rfl)) (by decide) (fun K hK => ?_)
                    refine goes_ Tryd.func28 (by kernel_rfl) rfl #[.slice A43001_1 ((rd_T81 l0 x5_1).f1).length c43001_1, .slice A43002_1 ((rd_T81 l1 x5_1).f1).length c43002_1] (by rfl) rfl rfl (by (try simp only [List.map_toArray, List.map_cons, List.map_nil]); first | done | rfl | (simp only [List.length_drop, List.length_take]; rfl)) ?_
                    with_reducible refine (tinderref03_Same.calls k1 _ _ ((rd_T81 l0 x5_1).f1) _ _ ((rd_T81 l1 x5_1).f1) false _ ?side1 ?side2 ?side3 ?side4 A9.out).mono ?_
                    (case side1 => repeat (first | exact (Kd.C_below HR43005_1.out HB.out) | (with_reducible refine Kd.C_alloc ?_ _) | (with_reducible refine Kd.C_drewN ?_ _) | (with_reducible refine Kd.C_drew ?_)))
                    (case side2 => exact HC43005_1.out)
                    (case side3 => repeat (first | exact (Kd.C_below HR43006_1.out HB.out) | (with_reducible refine Kd.C_alloc ?_ _) | (with_reducible refine Kd.C_drewN ?_ _) | (with_reducible refine Kd.C_drew ?_)))
                    (case side4 => exact HC43006_1.out)
                    rintro e w' ⟨rfl, ⟨nd, rfl⟩⟩
                    refine ⟨_, rfl, ?_⟩
                    refine hK.out _ _ ⟨((HB.out.cell (World.block_lt_of_cell? w _ hw43001_0)).trans hw43001_0), ((HB.out.cell (World.block_lt_of_cell? w _ hw43001_1)).trans hw43001_1), ((HB.out.cell (World.block_lt_of_cell? w _ hw43001_2)).trans hw43001_2), ((HB.out.cell (World.block_lt_of_cell? w _ hw43002_0)).trans hw43002_0), ((HB.out.cell (World.block_lt_of_cell? w _ hw43002_1)).trans hw43002_1), ((HB.out.cell (World.block_lt_of_cell? w _ hw43002_2)).trans hw43002_2), ((HB.out.cell (World.block_lt_of_cell? w _ hw43003_0)).trans hw43003_0), ((HB.out.cell (World.block_lt_of_cell? w _ hw43003_1)).trans hw43003_1), ((HB.out.cell (World.block_lt_of_cell? w _ hw43003_2)).trans hw43003_2), ((HB.out.cell (World.block_lt_of_cell? w _ hw43004_0)).trans hw43004_0), ((HB.out.cell (World.block_lt_of_cell? w _ hw43004_1)).trans hw43004_1), ((HB.out.cell (World.block_lt_of_cell? w _ hw43004_2)).trans hw43004_2), ((HB.out.cell (World.block_lt_of_cell? w _ hw43005_0)).trans hw43005_0), ((HB.out.cell (World.block_lt_of_cell? w _ hw43005_1)).trans hw43005_1), ((HB.out.cell (World.block_lt_of_cell? w _ hw43005_2)).trans hw43005_2), ((HB.out.cell (World.block_lt_of_cell? w _ hw43006_0)).trans hw43006_0), ((HB.out.cell (World.block_lt_of_cell? w _ hw43006_1)).trans hw43006_1), ((HB.out.cell (World.block_lt_of_cell? w _ hw43006_2)).trans hw43006_2)⟩ (fun hHeld => ?_)
                    clear hK K
                    refine norm_ (a' := ?_) ?_ ?_
                    rotate_left
                    · show Act.put _ (some 52) _ = _
                      simp only [Act.put, List.setIfInBounds_toArray, List.set_cons_zero, List.set_cons_succ, i64_w, i32_w]
                      rfl
                    refine pure_ (i := 36) (N := some 53) (v := ?_) (a' := ?_) #[true, true, true, true, true, true, true, true, true, true, true, true, true, true, true, true, true, true, true, true, true, true, true, true, true, true, true, true, true, true, true, true, true, true, true, true, true, false] rfl rfl (any_of HT_.out (by kernel_rfl)) (fun _ _ _ h => h) (Or.inl ⟨by rfl, ?_⟩) ?_ ?_
                    rotate_left
                    · intro w'
                      go_simp
                      with_reducible rfl
                    rotate_left
                    · simp only [Act.put, List.setIfInBounds_toArray, List.set_cons_zero, List.set_cons_succ, i64_w, i32_w]
                      rfl
                    refine pure_ (i := 37) (N := some 54) (v := ?_) (a' := ?_) #[true, true, true, true, true, true, true, true, true, true, true, true, true, true, true, true, true, true, true, true, true, true, true, true, true, true, true, true, true, true, true, true, true, true, true, true, true, true] rfl rfl (any_of HT_.out (by kernel_rfl)) (fun _ _ _ h => h) (Or.inl ⟨by rfl, ?_⟩) ?_ ?_
                    rotate_left
                    · intro w'
                      go_simp
                      with_reducible rfl
                    rotate_left
                    · simp only [Act.put, List.setIfInBounds_toArray, List.set_cons_zero, List.set_cons_succ, i64_w, i32_w]
                      rfl
                    refine done_ (done_of HT_.out (by kernel_rfl)) ?_
                    try go_wp2
                    go_ret
                    exact ⟨by first | rfl | (simp [errW_none, errW_some] <;> rfl) | (simp [*, errW_none, errW_some] <;> rfl), by repeat (first | (with_reducible first | exact HB.out | apply below_alloc | apply pw_below_drewN | apply below_drew1) | exact HB.out)⟩
                · rw [if_neg c8] at H
                  have c8b0 : (((rd_T81 l0 x5_1).f2).toList == ((rd_T81 l1 x5_1).f2).toList) = false := beq_eq_false_iff_ne.mpr c8
                  have c8b1 : (((rd_T81 l0 x5_1).f2).toList != ((rd_T81 l1 x5_1).f2).toList) = true := bne_iff_ne.mpr c8
                  obtain rfl := Option.some.inj H
                  try go_wp2
                  have n0_ := Aside0.mk (below_drew1 HB.out)
                  clear HB
                  have HB := n0_
                  clear n0_
                  have p43001 : 0 ≤ (x5_1 : Int) := of_decide_eq_true (by first | (with_reducible assumption) | assumption)
                  have q43001 : x5_1 < (l0.length : Int) := of_decide_eq_true (by first | (with_reducible assumption) | assumption)
                  obtain ⟨ad43001, A43001_1, c43001_1, e43001, hx43001_0, hx43001_1, hx43001_2, hl43001_1, hi43001_1⟩ := at_T81 HR0.out x5_1 p43001 q43001
                  have hw43001_2 := hx43001_2
                  have hw43001_1 := hx43001_1
                  have hw43001_0 := hx43001_0
                  cases e43001
                  replace hx43001_0 := (HB.out.cell (World.block_lt_of_cell? w _ hx43001_0)).trans hx43001_0
                  replace hx43001_1 := (HB.out.cell (World.block_lt_of_cell? w _ hx43001_1)).trans hx43001_1
                  replace hx43001_2 := (HB.out.cell (World.block_lt_of_cell? w _ hx43001_2)).trans hx43001_2
                  have HR43001_1 := Aside0.mk hi43001_1
                  have HC43001_1 := Aside0.mk hl43001_1
                  clear hi43001_1 hl43001_1
                  replace p43001 := eq_true p43001
                  replace q43001 := eq_true q43001
                  have p43002 : 0 ≤ (x5_1 : Int) := of_decide_eq_true (by first | (with_reducible assumption) | assumption)
                  have q43002 : x5_1 < (l1.length : Int) := of_decide_eq_true (by first | (with_reducible assumption) | assumption)
                  obtain ⟨ad43002, A43002_1, c43002_1, e43002, hx43002_0, hx43002_1, hx43002_2, hl43002_1, hi43002_1⟩ := at_T81 HR1.out x5_1 p43002 q43002
                  have hw43002_2 := hx43002_2
                  have hw43002_1 := hx43002_1
                  have hw43002_0 := hx43002_0
                  cases e43002
                  replace hx43002_0 := (HB.out.cell (World.block_lt_of_cell? w _ hx43002_0)).trans hx43002_0
                  replace hx43002_1 := (HB.out.cell (World.block_lt_of_cell? w _ hx43002_1)).trans hx43002_1
                  replace hx43002_2 := (HB.out.cell (World.block_lt_of_cell? w _ hx43002_2)).trans hx43002_2
                  have HR43002_1 := Aside0.mk hi43002_1
                  have HC43002_1 := Aside0.mk hl43002_1
                  clear hi43002_1 hl43002_1
                  replace p43002 := eq_true p43002
                  replace q43002 := eq_true q43002
                  have p43003 : 0 ≤ (x5_1 : Int) := of_decide_eq_true (by first | (with_reducible assumption) | assumption)
                  have q43003 : x5_1 < (l0.length : Int) := of_decide_eq_true (by first | (with_reducible assumption) | assumption)
                  obtain ⟨ad43003, A43003_1, c43003_1, e43003, hx43003_0, hx43003_1, hx43003_2, hl43003_1, hi43003_1⟩ := at_T81 HR0.out x5_1 p43003 q43003
                  have hw43003_2 := hx43003_2
                  have hw43003_1 := hx43003_1
                  have hw43003_0 := hx43003_0
                  obtain rfl : ad43001 = ad43003 := (by injection e43003)
                  replace hx43003_0 := (HB.out.cell (World.block_lt_of_cell? w _ hx43003_0)).trans hx43003_0
                  replace hx43003_1 := (HB.out.cell (World.block_lt_of_cell? w _ hx43003_1)).trans hx43003_1
                  replace hx43003_2 := (HB.out.cell (World.block_lt_of_cell? w _ hx43003_2)).trans hx43003_2
                  have HR43003_1 := Aside0.mk hi43003_1
                  have HC43003_1 := Aside0.mk hl43003_1
                  clear hi43003_1 hl43003_1
                  replace p43003 := eq_true p43003
                  replace q43003 := eq_true q43003
                  have ea_ := Option.some.inj (hx43001_1.symm.trans hx43003_1)
                  injection ea_ with ea_ en_ ec_
                  subst ea_
                  subst ec_
                  clear en_
                  have p43004 : 0 ≤ (x5_1 : Int) := of_decide_eq_true (by first | (with_reducible assumption) | assumption)
                  have q43004 : x5_1 < (l1.length : Int) := of_decide_eq_true (by first | (with_reducible assumption) | assumption)
                  obtain ⟨ad43004, A43004_1, c43004_1, e43004, hx43004_0, hx43004_1, hx43004_2, hl43004_1, hi43004_1⟩ := at_T81 HR1.out x5_1 p43004 q43004
                  have hw43004_2 := hx43004_2
                  have hw43004_1 := hx43004_1
                  have hw43004_0 := hx43004_0
                  obtain rfl : ad43002 = ad43004 := (by injection e43004)
                  replace hx43004_0 := (HB.out.cell (World.block_lt_of_cell? w _ hx43004_0)).trans hx43004_0
                  replace hx43004_1 := (HB.out.cell (World.block_lt_of_cell? w _ hx43004_1)).trans hx43004_1
                  replace hx43004_2 := (HB.out.cell (World.block_lt_of_cell? w _ hx43004_2)).trans hx43004_2
                  have HR43004_1 := Aside0.mk hi43004_1
                  have HC43004_1 := Aside0.mk hl43004_1
                  clear hi43004_1 hl43004_1
                  replace p43004 := eq_true p43004
                  replace q43004 := eq_true q43004
                  have ea_ := Option.some.inj (hx43002_1.symm.trans hx43004_1)
                  injection ea_ with ea_ en_ ec_
                  subst ea_
                  subst ec_
                  clear en_
                  refine start_ (n := 38) (S := fun w' => w'.cell? (ad43001.add ((x5_1).toNat * 3)) = some (.string ((rd_T81 l0 x5_1).f0)) ∧ w'.cell? ⟨(ad43001.add ((x5_1).toNat * 3)).block, (ad43001.add ((x5_1).toNat * 3)).off + 1, none⟩ = some (.slice A43001_1 ((rd_T81 l0 x5_1).f1).length c43001_1) ∧ w'.cell? ⟨(ad43001.add ((x5_1).toNat * 3)).block, (ad43001.add ((x5_1).toNat * 3)).off + 2, none⟩ = some (.string ((rd_T81 l0 x5_1).f2)) ∧ w'.cell? (ad43002.add ((x5_1).toNat * 3)) = some (.string ((rd_T81 l1 x5_1).f0)) ∧ w'.cell? ⟨(ad43002.add ((x5_1).toNat * 3)).block, (ad43002.add ((x5_1).toNat * 3)).off + 1, none⟩ = some (.slice A43002_1 ((rd_T81 l1 x5_1).f1).length c43002_1) ∧ w'.cell? ⟨(ad43002.add ((x5_1).toNat * 3)).block, (ad43002.add ((x5_1).toNat * 3)).off + 2, none⟩ = some (.string ((rd_T81 l1 x5_1).f2)) ∧ w'.cell? (ad43001.add ((x5_1).toNat * 3)) = some (.string ((rd_T81 l0 x5_1).f0)) ∧ w'.cell? ⟨(ad43001.add ((x5_1).toNat * 3)).block, (ad43001.add ((x5_1).toNat * 3)).off + 1, none⟩ = some (.slice A43001_1 ((rd_T81 l0 x5_1).f1).length c43001_1) ∧ w'.cell? ⟨(ad43001.add ((x5_1).toNat * 3)).block, (ad43001.add ((x5_1).toNat * 3)).off + 2, none⟩ = some (.string ((rd_T81 l0 x5_1).f2)) ∧ w'.cell? (ad43002.add ((x5_1).toNat * 3)) = some (.string ((rd_T81 l1 x5_1).f0)) ∧ w'.cell? ⟨(ad43002.add ((x5_1).toNat * 3)).block, (ad43002.add ((x5_1).toNat * 3)).off + 1, none⟩ = some (.slice A43002_1 ((rd_T81 l1 x5_1).f1).length c43002_1) ∧ w'.cell? ⟨(ad43002.add ((x5_1).toNat * 3)).block, (ad43002.add ((x5_1).toNat * 3)).off + 2, none⟩ = some (.string ((rd_T81 l1 x5_1).f2))) (ds := []) #[false, false, false, false, false, false, false, false, false, false, false, false, false, false, false, false, false, false, false, false, false, false, false, false, false, false, false, false, false, false, false, false, false, false, false, false, false, false] (by kernel_rfl) rfl rfl ⟨((HB.out.cell (World.block_lt_of_cell? w _ hw43001_0)).trans hw43001_0), ((HB.out.cell (World.block_lt_of_cell? w _ hw43001_1)).trans hw43001_1), ((HB.out.cell (World.block_lt_of_cell? w _ hw43001_2)).trans hw43001_2), ((HB.out.cell (World.block_lt_of_cell? w _ hw43002_0)).trans hw43002_0), ((HB.out.cell (World.block_lt_of_cell? w _ hw43002_1)).trans hw43002_1), ((HB.out.cell (World.block_lt_of_cell? w _ hw43002_2)).trans hw43002_2), ((HB.out.cell (World.block_lt_of_cell? w _ hw43003_0)).trans hw43003_0), ((HB.out.cell (World.block_lt_of_cell? w _ hw43003_1)).trans hw43003_1), ((HB.out.cell (World.block_lt_of_cell? w _ hw43003_2)).trans hw43003_2), ((HB.out.cell (World.block_lt_of_cell? w _ hw43004_0)).trans hw43004_0), ((HB.out.cell (World.block_lt_of_cell? w _ hw43004_1)).trans hw43004_1), ((HB.out.cell (World.block_lt_of_cell? w _ hw43004_2)).trans hw43004_2)⟩ (fun hHeld => ?_); refine with_tabW tinderref07_Same.tab6 tinderref07_Same.bits6 (fun HT_ HW_ => ?_)
                  generalize wr.drew = w13 at HB HR43001_1 HR43002_1 HR43003_1 HR43004_1 hx43001_0 hx43001_1 hx43001_2 hx43002_0 hx43002_1 hx43002_2 hx43003_0 hx43003_1 hx43003_2 hx43004_0 hx43004_1 hx43004_2 hHeld ⊢
                  refine pure_ (i := 0) (N := some 17) (v := ?_) (a' := ?_) #[true, false, false, false, false, false, false, false, false, false, false, false, false, false, false, false, false, false, false, false, false, false, false, false, false, false, false, false, false, false, false, false, false, false, false, false, false, false] rfl rfl (any_of HT_.out (by kernel_rfl)) (fun _ _ _ h => h) (Or.inl ⟨by rfl, ?_⟩) ?_ ?_
                  rotate_left
                  · intro w'
                    go_simp
                    with_reducible rfl
                  rotate_left
                  · simp only [Act.put, List.setIfInBounds_toArray, List.set_cons_zero, List.set_cons_succ, i64_w, i32_w]
                    rfl
                  refine pure_ (i := 1) (N := some 18) (v := ?_) (a' := ?_) #[true, true, false, false, false, false, false, false, false, false, false, false, false, false, false, false, false, false, false, false, false, false, false, false, false, false, false, false, false, false, false, false, false, false, false, false, false, false] rfl rfl (any_of HT_.out (by kernel_rfl)) (fun _ _ _ h => h) (Or.inl ⟨by rfl, ?_⟩) ?_ ?_
                  rotate_left
                  · intro w'
                    go_simp
                    with_reducible rfl
                  rotate_left
                  · simp only [Act.put, List.setIfInBounds_toArray, List.set_cons_zero, List.set_cons_succ, i64_w, i32_w]
                    rfl
                  refine pure_ (i := 2) (N := some 19) (v := ?_) (a' := ?_) #[true, true, true, false, false, false, false, false, false, false, false, false, false, false, false, false, false, false, false, false, false, false, false, false, false, false, false, false, false, false, false, false, false, false, false, false, false, false] rfl rfl (any_of HT_.out (by kernel_rfl)) (fun _ _ _ h => h) (Or.inl ⟨by rfl, ?_⟩) ?_ ?_
                  rotate_left
                  · intro w'
                    go_simp
                    with_reducible rfl
                  rotate_left
                  · simp only [Act.put, List.setIfInBounds_toArray, List.set_cons_zero, List.set_cons_succ, i64_w, i32_w]
                    rfl
                  refine pure_ (i := 3) (N := some 20) (v := ?_) (a' := ?_) #[true, true, true, true, false, false, false, false, false, false, false, false, false, false, false, false, false, false, false, false, false, false, false, false, false, false, false, false, false, false, false, false, false, false, false, false, false, false] rfl rfl (any_of HT_.out (by kernel_rfl)) (fun _ _ _ h => h) (Or.inl ⟨by rfl, ?_⟩) ?_ ?_
                  rotate_left
                  · intro w'
                    go_simp
                    with_reducible rfl
                  rotate_left
                  · simp only [Act.put, List.setIfInBounds_toArray, List.set_cons_zero, List.set_cons_succ, i64_w, i32_w]
                    rfl
                  refine pure_ (i := 5) (N := some 22) (v := ?_) (a' := ?_) #[true, true, true, true, false, true, false, false, false, false, false, false, false, false, false, false, false, false, false, false, false, false, false, false, false, false, false, false, false, false, false, false, false, false, false, false, false, false] rfl rfl (any_of HT_.out (by kernel_rfl)) (fun _ _ _ h => h) (Or.inl ⟨by rfl, ?_⟩) ?_ ?_
                  rotate_left
                  · intro w'
                    go_simp
                    with_reducible rfl
                  rotate_left
                  · simp only [Act.put, List.setIfInBounds_toArray, List.set_cons_zero, List.set_cons_succ, i64_w, i32_w]
                    rfl
                  refine pure_ (i := 6) (N := some 23) (v := ?_) (a' := ?_) #[true, true, true, true, false, true, true, false, false, false, false, false, false, false, false, false, false, false, false, false, false, false, false, false, false, false, false, false, false, false, false, false, false, false, false, false, false, false] rfl rfl (any_of HT_.out (by kernel_rfl)) (fun _ _ _ h => h) (Or.inl ⟨by rfl, ?_⟩) ?_ ?_
                  rotate_left
                  · intro w'
                    go_simp
                    with_reducible rfl
                  rotate_left
                  · simp only [Act.put, List.setIfInBounds_toArray, List.set_cons_zero, List.set_cons_succ, i64_w, i32_w]
                    rfl
                  refine pure_ (i := 7) (N := some 24) (v := ?_) (a' := ?_) #[true, true, true, true, false, true, true, true, false, false, false, false, false, false, false, false, false, false, false, false, false, false, false, false, false, false, false, false, false, false, false, false, false, false, false, false, false, false] rfl rfl (any_of HT_.out (by kernel_rfl)) (fun _ _ _ h => h) (Or.inl ⟨by rfl, ?_⟩) ?_ ?_
                  rotate_left
                  · intro w'
                    go_simp
                    with_reducible rfl
                  rotate_left
                  · simp only [Act.put, List.setIfInBounds_toArray, List.set_cons_zero, List.set_cons_succ, i64_w, i32_w]
                    rfl
                  refine pure_ (i := 8) (N := some 25) (v := ?_) (a' := ?_) #[true, true, true, true, false, true, true, true, true, false, false, false, false, false, false, false, false, false, false, false, false, false, false, false, false, false, false, false, false, false, false, false, false, false, false, false, false, false] rfl rfl (any_of HT_.out (by kernel_rfl)) (fun _ _ _ h => h) (Or.inl ⟨by rfl, ?_⟩) ?_ ?_
                  rotate_left
                  · intro w'
                    go_simp
                    with_reducible rfl
                  rotate_left
                  · simp only [Act.put, List.setIfInBounds_toArray, List.set_cons_zero, List.set_cons_succ, i64_w, i32_w]
                    rfl
                  refine take_ (i := 4) (N := some 21) (v := ?_) (a' := ?_) #[true, true, true, true, true, true, true, true, true, false, false, false, false, false, false, false, false, false, false, false, false, false, false, false, false, false, false, false, false, false, false, false, false, false, false, false, false, false] rfl rfl (take_ofW HT_.out HW_.out (by kernel_rfl)) (fun _ _ _ h => h) (Or.inl ⟨by rfl, ?_⟩) hHeld ?_ ?_
                  rotate_left
                  · rintro w' ⟨s0, s1, s2, s3, s4, s5, s6, s7, s8, s9, s10, s11⟩
                    go_simp
                    with_reducible rfl
                  rotate_left
                  · simp only [Act.put, List.setIfInBounds_toArray, List.set_cons_zero, List.set_cons_succ, i64_w, i32_w]
                    rfl
                  refine take_ (i := 9) (N := some 26) (v := ?_) (a' := ?_) #[true, true, true, true, true, true, true, true, true, true, false, false, false, false, false, false, false, false, false, false, false, false, false, false, false, false, false, false, false, false, false, false, false, false, false, false, false, false] rfl rfl (take_ofW HT_.out HW_.out (by kernel_rfl)) (fun _ _ _ h => h) (Or.inl ⟨by rfl, ?_⟩) hHeld ?_ ?_
                  rotate_left
                  · rintro w' ⟨s0, s1, s2, s3, s4, s5, s6, s7, s8, s9, s10, s11⟩
                    go_simp
                    with_reducible rfl
                  rotate_left
                  · simp only [Act.put, List.setIfInBounds_toArray, List.set_cons_zero, List.set_cons_succ, i64_w, i32_w]
                    rfl
                  refine pure_ (i := 10) (N := some 27) (v := ?_) (a' := ?_) #[true, true, true, true, true, true, true, true, true, true, true, false, false, false, false, false, false, false, false, false, false, false, false, false, false, false, false, false, false, false, false, false, false, false, false, false, false, false] rfl rfl (any_of HT_.out (by kernel_rfl)) (fun _ _ _ h => h) (Or.inl ⟨by rfl, ?_⟩) ?_ ?_
                  rotate_left
                  · intro w'
                    go_simp
                    with_reducible rfl
                  rotate_left
                  · simp only [Act.put, List.setIfInBounds_toArray, List.set_cons_zero, List.set_cons_succ, i64_w, i32_w]
                    rfl
                  refine pure_ (i := 11) (N := some 28) (v := ?_) (a' := ?_) #[true, true, true, true, true, true, true, true, true, true, true, true, false, false, false, false, false, false, false, false, false, false, false, false, false, false, false, false, false, false, false, false, false, false, false, false, false, false] rfl rfl (any_of HT_.out (by kernel_rfl)) (fun _ _ _ h => h) (Or.inl ⟨by rfl, ?_⟩) ?_ ?_
                  rotate_left
                  · intro w'
                    go_simp
                    with_reducible rfl
                  rotate_left
                  · simp only [Act.put, List.setIfInBounds_toArray, List.set_cons_zero, List.set_cons_succ, i64_w, i32_w]
                    rfl
                  refine pure_ (i := 12) (N := some 29) (v := ?_) (a' := ?_) #[true, true, true, true, true, true, true, true, true, true, true, true, true, false, false, false, false, false, false, false, false, false, false, false, false, false, false, false, false, false, false, false, false, false, false, false, false, false] rfl rfl (any_of HT_.out (by kernel_rfl)) (fun _ _ _ h => h) (Or.inl ⟨by rfl, ?_⟩) ?_ ?_
                  rotate_left
                  · intro w'
                    go_simp
                    with_reducible rfl
                  rotate_left
                  · simp only [Act.put, List.setIfInBounds_toArray, List.set_cons_zero, List.set_cons_succ, i64_w, i32_w]
                    rfl
                  refine pure_ (i := 13) (N := some 30) (v := ?_) (a' := ?_) #[true, true, true, true, true, true, true, true, true, true, true, true, true, true, false, false, false, false, false, false, false, false, false, false, false, false, false, false, false, false, false, false, false, false, false, false, false, false] rfl rfl (any_of HT_.out (by kernel_rfl)) (fun _ _ _ h => h) (Or.inl ⟨by rfl, ?_⟩) ?_ ?_
                  rotate_left
                  · intro w'
                    go_simp
                    with_reducible rfl
                  rotate_left
                  · simp only [Act.put, List.setIfInBounds_toArray, List.set_cons_zero, List.set_cons_succ, i64_w, i32_w]
                    rfl
                  refine pure_ (i := 14) (N := some 31) (v := ?_) (a' := ?_) #[true, true, true, true, true, true, true, true, true, true, true, true, true, true, true, false, false, false, false, false, false, false, false, false, false, false, false, false, false, false, false, false, false, false, false, false, false, false] rfl rfl (any_of HT_.out (by kernel_rfl)) (fun _ _ _ h => h) (Or.inl ⟨by rfl, ?_⟩) ?_ ?_
                  rotate_left
                  · intro w'
                    go_simp
                    with_reducible rfl
                  rotate_left
                  · simp only [Act.put, List.setIfInBounds_toArray, List.set_cons_zero, List.set_cons_succ, i64_w, i32_w]
                    rfl
                  refine pure_ (i := 15) (N := some 32) (v := ?_) (a' := ?_) #[true, true, true, true, true, true, true, true, true, true, true, true, true, true, true, true, false, false, false, false, false, false, false, false, false, false, false, false, false, false, false, false, false, false, false, false, false, false] rfl rfl (any_of HT_.out (by kernel_rfl)) (fun _ _ _ h => h) (Or.inl ⟨by rfl, ?_⟩) ?_ ?_
                  rotate_left
                  · intro w'
                    go_simp
                    with_reducible rfl
                  rotate_left
                  · simp only [Act.put, List.setIfInBounds_toArray, List.set_cons_zero, List.set_cons_succ, i64_w, i32_w]
                    rfl
                  refine pure_ (i := 17) (N := some 34) (v := ?_) (a' := ?_) #[true, true, true, true, true, true, true, true, true, true, true, true, true, true, true, true, false, true, false, false, false, false, false, false, false, false, false, false, false, false, false, false, false, false, false, false, false, false] rfl rfl (any_of HT_.out (by kernel_rfl)) (fun _ _ _ h => h) (Or.inl ⟨by rfl, ?_⟩) ?_ ?_
                  rotate_left
                  · intro w'
                    go_simp
                    with_reducible rfl
                  rotate_left
                  · simp only [Act.put, List.setIfInBounds_toArray, List.set_cons_zero, List.set_cons_succ, i64_w, i32_w]
                    rfl
                  refine pure_ (i := 18) (N := some 35) (v := ?_) (a' := ?_) #[true, true, true, true, true, true, true, true, true, true, true, true, true, true, true, true, false, true, true, false, false, false, false, false, false, false, false, false, false, false, false, false, false, false, false, false, false, false] rfl rfl (any_of HT_.out (by kernel_rfl)) (fun _ _ _ h => h) (Or.inl ⟨by rfl, ?_⟩) ?_ ?_
                  rotate_left
                  · intro w'
                    go_simp
                    with_reducible rfl
                  rotate_left
                  · simp only [Act.put, List.setIfInBounds_toArray, List.set_cons_zero, List.set_cons_succ, i64_w, i32_w]
                    rfl
                  refine pure_ (i := 19) (N := some 36) (v := ?_) (a' := ?_) #[true, true, true, true, true, true, true, true, true, true, true, true, true, true, true, true, false, true, true, true, false, false, false, false, false, false, false, false, false, false, false, false, false, false, false, false, false, false] rfl rfl (any_of HT_.out (by kernel_rfl)) (fun _ _ _ h => h) (Or.inl ⟨by rfl, ?_⟩) ?_ ?_
                  rotate_left
                  · intro w'
                    go_simp
                    with_reducible rfl
                  rotate_left
                  · simp only [Act.put, List.setIfInBounds_toArray, List.set_cons_zero, List.set_cons_succ, i64_w, i32_w]
                    rfl
                  refine pure_ (i := 20) (N := some 37) (v := ?_) (a' := ?_) #[true, true, true, true, true, true, true, true, true, true, true, true, true, true, true, true, false, true, true, true, true, false, false, false, false, false, false, false, false, false, false, false, false, false, false, false, false, false] rfl rfl (any_of HT_.out (by kernel_rfl)) (fun _ _ _ h => h) (Or.inl ⟨by rfl, ?_⟩) ?_ ?_
                  rotate_left
                  · intro w'
                    go_simp
                    with_reducible rfl
                  rotate_left
                  · simp only [Act.put, List.setIfInBounds_toArray, List.set_cons_zero, List.set_cons_succ, i64_w, i32_w]
                    rfl
                  refine take_ (i := 16) (N := some 33) (v := ?_) (a' := ?_) #[true, true, true, true, true, true, true, true, true, true, true, true, true, true, true, true, true, true, true, true, true, false, false, false, false, false, false, false, false, false, false, false, false, false, false, false, false, false] rfl rfl (take_ofW HT_.out HW_.out (by kernel_rfl)) (fun _ _ _ h => h) (Or.inl ⟨by rfl, ?_⟩) hHeld ?_ ?_
                  rotate_left
                  · rintro w' ⟨s0, s1, s2, s3, s4, s5, s6, s7, s8, s9, s10, s11⟩
                    go_simp
                    with_reducible rfl
                  rotate_left
                  · simp only [Act.put, List.setIfInBounds_toArray, List.set_cons_zero, List.set_cons_succ, i64_w, i32_w]
                    rfl
                  refine take_ (i := 21) (N := some 38) (v := ?_) (a' := ?_) #[true, true, true, true, true, true, true, true, true, true, true, true, true, true, true, true, true, true, true, true, true, true, false, false, false, false, false, false, false, false, false, false, false, false, false, false, false, false] rfl rfl (take_ofW HT_.out HW_.out (by kernel_rfl)) (fun _ _ _ h => h) (Or.inl ⟨by rfl, ?_⟩) hHeld ?_ ?_
                  rotate_left
                  · rintro w' ⟨s0, s1, s2, s3, s4, s5, s6, s7, s8, s9, s10, s11⟩
                    go_simp
                    with_reducible rfl
                  rotate_left
                  · simp only [Act.put, List.setIfInBounds_toArray, List.set_cons_zero, List.set_cons_succ, i64_w, i32_w]
                    rfl
                  refine pure_ (i := 22) (N := some 39) (v := ?_) (a' := ?_) #[true, true, true, true, true, true, true, true, true, true, true, true, true, true, true, true, true, true, true, true, true, true, true, false, false, false, false, false, false, false, false, false, false, false, false, false, false, false] rfl rfl (any_of HT_.out (by kernel_rfl)) (fun _ _ _ h => h) (Or.inl ⟨by rfl, ?_⟩) ?_ ?_
                  rotate_left
                  · intro w'
                    go_simp
                    with_reducible rfl
                  rotate_left
                  · simp only [Act.put, List.setIfInBounds_toArray, List.set_cons_zero, List.set_cons_succ, i64_w, i32_w]
                    rfl
                  refine pure_ (i := 23) (N := some 40) (v := ?_) (a' := ?_) #[true, true, true, true, true, true, true, true, true, true, true, true, true, true, true, true, true, true, true, true, true, true, true, true, false, false, false, false, false, false, false, false, false, false, false, false, false, false] rfl rfl (any_of HT_.out (by kernel_rfl)) (fun _ _ _ h => h) (Or.inl ⟨by rfl, ?_⟩) ?_ ?_
                  rotate_left
                  · intro w'
                    go_simp
                    with_reducible rfl
                  rotate_left
                  · simp only [Act.put, List.setIfInBounds_toArray, List.set_cons_zero, List.set_cons_succ, i64_w, i32_w]
                    rfl
                  refine pure_ (i := 24) (N := some 41) (v := ?_) (a' := ?_) #[true, true, true, true, true, true, true, true, true, true, true, true, true, true, true, true, true, true, true, true, true, true, true, true, true, false, false, false, false, false, false, false, false, false, false, false, false, false] rfl rfl (any_of HT_.out (by kernel_rfl)) (fun _ _ _ h => h) (Or.inl ⟨by rfl, ?_⟩) ?_ ?_
                  rotate_left
                  · intro w'
                    go_simp
                    with_reducible rfl
                  rotate_left
                  · simp only [Act.put, List.setIfInBounds_toArray, List.set_cons_zero, List.set_cons_succ, i64_w, i32_w]
                    rfl
                  refine pure_ (i := 25) (N := some 42) (v := undef) (a' := ?_) #[true, true, true, true, true, true, true, true, true, true, true, true, true, true, true, true, true, true, true, true, true, true, true, true, true, true, false, false, false, false, false, false, false, false, false, false, false, false] rfl rfl (any_of HT_.out (by kernel_rfl)) (fun _ _ _ h => h) (Or.inr ⟨by rfl, rfl⟩) ?_ ?_
                  rotate_left
                  · simp only [Act.put, List.setIfInBounds_toArray, List.set_cons_zero, List.set_cons_succ, i64_w, i32_w]
                    rfl
                  refine pure_ (i := 26) (N := some 43) (v := undef) (a' := ?_) #[true, true, true, true, true, true, true, true, true, true, true, true, true, true, true, true, true, true, true, true, true, true, true, true, true, true, true, false, false, false, false, false, false, false, false, false, false, false] rfl rfl (any_of HT_.out (by kernel_rfl)) (fun _ _ _ h => h) (Or.inr ⟨by rfl, rfl⟩) ?_ ?_
                  rotate_left
                  · simp only [Act.put, List.setIfInBounds_toArray, List.set_cons_zero, List.set_cons_succ, i64_w, i32_w]
                    rfl
                  refine pure_ (i := 27) (N := some 44) (v := undef) (a' := ?_) #[true, true, true, true, true, true, true, true, true, true, true, true, true, true, true, true, true, true, true, true, true, true, true, true, true, true, true, true, false, false, false, false, false, false, false, false, false, false] rfl rfl (any_of HT_.out (by kernel_rfl)) (fun _ _ _ h => h) (Or.inr ⟨by rfl, rfl⟩) ?_ ?_
                  rotate_left
                  · simp only [Act.put, List.setIfInBounds_toArray, List.set_cons_zero, List.set_cons_succ, i64_w, i32_w]
                    rfl
                  refine pure_ (i := 28) (N := some 45) (v := undef) (a' := ?_) #[true, true, true, true, true, true, true, true, true, true, true, true, true, true, true, true, true, true, true, true, true, true, true, true, true, true, true, true, true, false, false, false, false, false, false, false, false, false] rfl rfl (any_of HT_.out (by kernel_rfl)) (fun _ _ _ h => h) (Or.inr ⟨by rfl, rfl⟩) ?_ ?_
                  rotate_left
                  · simp only [Act.put, List.setIfInBounds_toArray, List.set_cons_zero, List.set_cons_succ, i64_w, i32_w]
                    rfl
                  refine pure_ (i := 29) (N := some 46) (v := undef) (a' := ?_) #[true, true, true, true, true, true, true, true, true, true, true, true, true, true, true, true, true, true, true, true, true, true, true, true, true, true, true, true, true, true, false, false, false, false, false, false, false, false] rfl rfl (any_of HT_.out (by kernel_rfl)) (fun _ _ _ h => h) (Or.inr ⟨by rfl, rfl⟩) ?_ ?_
                  rotate_left
                  · simp only [Act.put, List.setIfInBounds_toArray, List.set_cons_zero, List.set_cons_succ, i64_w, i32_w]
                    rfl
                  refine pure_ (i := 30) (N := some 47) (v := undef) (a' := ?_) #[true, true, true, true, true, true, true, true, true, true, true, true, true, true, true, true, true, true, true, true, true, true, true, true, true, true, true, true, true, true, true, false, false, false, false, false, false, false] rfl rfl (any_of HT_.out (by kernel_rfl)) (fun _ _ _ h => h) (Or.inr ⟨by rfl, rfl⟩) ?_ ?_
                  rotate_left
                  · simp only [Act.put, List.setIfInBounds_toArray, List.set_cons_zero, List.set_cons_succ, i64_w, i32_w]
                    rfl
                  refine pure_ (i := 31) (N := some 48) (v := undef) (a' := ?_) #[true, true, true, true, true, true, true, true, true, true, true, true, true, true, true, true, true, true, true, true, true, true, true, true, true, true, true, true, true, true, true, true, false, false, false, false, false, false] rfl rfl (any_of HT_.out (by kernel_rfl)) (fun _ _ _ h => h) (Or.inr ⟨by rfl, rfl⟩) ?_ ?_
                  rotate_left
                  · simp only [Act.put, List.setIfInBounds_toArray, List.set_cons_zero, List.set_cons_succ, i64_w, i32_w]
                    rfl
                  refine pure_ (i := 32) (N := some 49) (v := undef) (a' := ?_) #[true, true, true, true, true, true, true, true, true, true, true, true, true, true, true, true, true, true, true, true, true, true, true, true, true, true, true, true, true, true, true, true, true, false, false, false, false, false] rfl rfl (any_of HT_.out (by kernel_rfl)) (fun _ _ _ h => h) (Or.inr ⟨by rfl, rfl⟩) ?_ ?_
                  rotate_left
                  · simp only [Act.put, List.setIfInBounds_toArray, List.set_cons_zero, List.set_cons_succ, i64_w, i32_w]
                    rfl
                  refine pure_ (i := 33) (N := some 50) (v := undef) (a' := ?_) #[true, true, true, true, true, true, true, true, true, true, true, true, true, true, true, true, true, true, true, true, true, true, true, true, true, true, true, true, true, true, true, true, true, true, false, false, false, false] rfl rfl (any_of HT_.out (by kernel_rfl)) (fun _ _ _ h => h) (Or.inr ⟨by rfl, rfl⟩) ?_ ?_
                  rotate_left
                  · simp only [Act.put, List.setIfInBounds_toArray, List.set_cons_zero, List.set_cons_succ, i64_w, i32_w]
                    rfl
                  refine pure_ (i := 34) (N := some 51) (v := undef) (a' := ?_) #[true, true, true, true, true, true, true, true, true, true, true, true, true, true, true, true, true, true, true, true, true, true, true, true, true, true, true, true, true, true, true, true, true, true, true, false, false, false] rfl rfl (any_of HT_.out (by kernel_rfl)) (fun _ _ _ h => h) (Or.inr ⟨by rfl, rfl⟩) ?_ ?_
                  rotate_left
                  · simp only [Act.put, List.setIfInBounds_toArray, List.set_cons_zero, List.set_cons_succ, i64_w, i32_w]
                    rfl
                  refine pure_ (i := 35) (N := some 52) (v := undef) (a' := ?_) #[true, true, true, true, true, true, true, true, true, true, true, true, true, true, true, true, true, true, true, true, true, true, true, true, true, true, true, true, true, true, true, true, true, true, true, true, false, false] rfl rfl (any_of HT_.out (by kernel_rfl)) (fun _ _ _ h => h) (Or.inr ⟨by rfl, rfl⟩) ?_ ?_
                  rotate_left
                  · simp only [Act.put, List.setIfInBounds_toArray, List.set_cons_zero, List.set_cons_succ, i64_w, i32_w]
                    rfl
                  refine pure_ (i := 36) (N := some 53) (v := undef) (a' := ?_) #[true, true, true, true, true, true, true, true, true, true, true, true, true, true, true, true, true, true, true, true, true, true, true, true, true, true, true, true, true, true, true, true, true, true, true, true, true, false] rfl rfl (any_of HT_.out (by kernel_rfl)) (fun _ _ _ h => h) (Or.inr ⟨by rfl, rfl⟩) ?_ ?_
                  rotate_left
                  · simp only [Act.put, List.setIfInBounds_toArray, List.set_cons_zero, List.set_cons_succ, i64_w, i32_w]
                    rfl
                  refine pure_ (i := 37) (N := some 54) (v := ?_) (a' := ?_) #[true, true, true, true, true, true, true, true, true, true, true, true, true, true, true, true, true, true, true, true, true, true, true, true, true, true, true, true, true, true, true, true, true, true, true, true, true, true] rfl rfl (any_of HT_.out (by kernel_rfl)) (fun _ _ _ h => h) (Or.inl ⟨by rfl, ?_⟩) ?_ ?_
                  rotate_left
                  · intro w'
                    go_simp
                    with_reducible rfl
                  rotate_left
                  · simp only [Act.put, List.setIfInBounds_toArray, List.set_cons_zero, List.set_cons_succ, i64_w, i32_w]
                    rfl
                  refine done_ (done_of HT_.out (by kernel_rfl)) ?_
                  try go_wp2
                  go_ret
                  exact ⟨by first | rfl | (simp [errW_none, errW_some] <;> rfl) | (simp [*, errW_none, errW_some] <;> rfl), by repeat (first | (with_reducible first | exact HB.out | apply below_alloc | apply pw_below_drewN | apply below_drew1) | exact HB.out)⟩
              · rw [if_neg c7] at H
                have c7b0 : (((rd_T81 l0 x5_1).f0).toList == ((rd_T81 l1 x5_1).f0).toList) = false := beq_eq_false_iff_ne.mpr c7
                have c7b1 : (((rd_T81 l0 x5_1).f0).toList != ((rd_T81 l1 x5_1).f0).toList) = true := bne_iff_ne.mpr c7
                obtain rfl := Option.some.inj H
                try go_wp2
                have n0_ := Aside0.mk (below_drew1 HB.out)
                clear HB
                have HB := n0_
                clear n0_
                have p43001 : 0 ≤ (x5_1 : Int) := of_decide_eq_true (by first | (with_reducible assumption) | assumption)
                have q43001 : x5_1 < (l0.length : Int) := of_decide_eq_true (by first | (with_reducible assumption) | assumption)
                obtain ⟨ad43001, A43001_1, c43001_1, e43001, hx43001_0, hx43001_1, hx43001_2, hl43001_1, hi43001_1⟩ := at_T81 HR0.out x5_1 p43001 q43001
                have hw43001_2 := hx43001_2
                have hw43001_1 := hx43001_1
                have hw43001_0 := hx43001_0
                cases e43001
                replace hx43001_0 := (HB.out.cell (World.block_lt_of_cell? w _ hx43001_0)).trans hx43001_0
                replace hx43001_1 := (HB.out.cell (World.block_lt_of_cell? w _ hx43001_1)).trans hx43001_1
                replace hx43001_2 := (HB.out.cell (World.block_lt_of_cell? w _ hx43001_2)).trans hx43001_2
                have HR43001_1 := Aside0.mk hi43001_1
                have HC43001_1 := Aside0.mk hl43001_1
                clear hi43001_1 hl43001_1
                replace p43001 := eq_true p43001
                replace q43001 := eq_true q43001
                have p43002 : 0 ≤ (x5_1 : Int) := of_decide_eq_true (by first | (with_reducible assumption) | assumption)
                have q43002 : x5_1 < (l1.length : Int) := of_decide_eq_true (by first | (with_reducible assumption) | assumption)
                obtain ⟨ad43002, A43002_1, c43002_1, e43002, hx43002_0, hx43002_1, hx43002_2, hl43002_1, hi43002_1⟩ := at_T81 HR1.out x5_1 p43002 q43002
                have hw43002_2 := hx43002_2
                have hw43002_1 := hx43002_1
                have hw43002_0 := hx43002_0
                cases e43002
                replace hx43002_0 := (HB.out.cell (World.block_lt_of_cell? w _ hx43002_0)).trans hx43002_0
                replace hx43002_1 := (HB.out.cell (World.block_lt_of_cell? w _ hx43002_1)).trans hx43002_1
                replace hx43002_2 := (HB.out.cell (World.block_lt_of_cell? w _ hx43002_2)).trans hx43002_2
                have HR43002_1 := Aside0.mk hi43002_1
                have HC43002_1 := Aside0.mk hl43002_1
                clear hi43002_1 hl43002_1
                replace p43002 := eq_true p43002
                replace q43002 := eq_true q43002
                refine start_ (n := 38) (S := fun w' => w'.cell? (ad43001.add ((x5_1).toNat * 3)) = some (.string ((rd_T81 l0 x5_1).f0)) ∧ w'.cell? ⟨(ad43001.add ((x5_1).toNat * 3)).block, (ad43001.add ((x5_1).toNat * 3)).off + 1, none⟩ = some (.slice A43001_1 ((rd_T81 l0 x5_1).f1).length c43001_1) ∧ w'.cell? ⟨(ad43001.add ((x5_1).toNat * 3)).block, (ad43001.add ((x5_1).toNat * 3)).off + 2, none⟩ = some (.string ((rd_T81 l0 x5_1).f2)) ∧ w'.cell? (ad43002.add ((x5_1).toNat * 3)) = some (.string ((rd_T81 l1 x5_1).f0)) ∧ w'.cell? ⟨(ad43002.add ((x5_1).toNat * 3)).block, (ad43002.add ((x5_1).toNat * 3)).off + 1, none⟩ = some (.slice A43002_1 ((rd_T81 l1 x5_1).f1).length c43002_1) ∧ w'.cell? ⟨(ad43002.add ((x5_1).toNat * 3)).block, (ad43002.add ((x5_1).toNat * 3)).off + 2, none⟩ = some (.string ((rd_T81 l1 x5_1).f2))) (ds := []) #[false, false, false, false, false, false, false, false, false, false, false, false, false, false, false, false, false, false, false, false, false, false, false, false, false, false, false, false, false, false, false, false, false, false, false, false, false, false] (by kernel_rfl) rfl rfl ⟨((HB.out.cell (World.block_lt_of_cell? w _ hw43001_0)).trans hw43001_0), ((HB.out.cell (World.block_lt_of_cell? w _ hw43001_1)).trans hw43001_1), ((HB.out.cell (World.block_lt_of_cell? w _ hw43001_2)).trans hw43001_2), ((HB.out.cell (World.block_lt_of_cell? w _ hw43002_0)).trans hw43002_0), ((HB.out.cell (World.block_lt_of_cell? w _ hw43002_1)).trans hw43002_1), ((HB.out.cell (World.block_lt_of_cell? w _ hw43002_2)).trans hw43002_2)⟩ (fun hHeld => ?_); refine with_tabW tinderref07_Same.tab6 tinderref07_Same.bits6 (fun HT_ HW_ => ?_)
                generalize wr.drew = w14 at HB HR43001_1 HR43002_1 hx43001_0 hx43001_1 hx43001_2 hx43002_0 hx43002_1 hx43002_2 hHeld ⊢
                refine pure_ (i := 0) (N := some 17) (v := ?_) (a' := ?_) #[true, false, false, false, false, false, false, false, false, false, false, false, false, false, false, false, false, false, false, false, false, false, false, false, false, false, false, false, false, false, false, false, false, false, false, false, false, false] rfl rfl (any_of HT_.out (by kernel_rfl)) (fun _ _ _ h => h) (Or.inl ⟨by rfl, ?_⟩) ?_ ?_
                rotate_left
                · intro w'
                  go_simp
                  with_reducible rfl
                rotate_left
                · simp only [Act.put, List.setIfInBounds_toArray, List.set_cons_zero, List.set_cons_succ, i64_w, i32_w]
                  rfl
                refine pure_ (i := 1) (N := some 18) (v := ?_) (a' := ?_) #[true, true, false, false, false, false, false, false, false, false, false, false, false, false, false, false, false, false, false, false, false, false, false, false, false, false, false, false, false, false, false, false, false, false, false, false, false, false] rfl rfl (any_of HT_.out (by kernel_rfl)) (fun _ _ _ h => h) (Or.inl ⟨by rfl, ?_⟩) ?_ ?_
                rotate_left
                · intro w'
                  go_simp
                  with_reducible rfl
                rotate_left
                · simp only [Act.put, List.setIfInBounds_toArray, List.set_cons_zero, List.set_cons_succ, i64_w, i32_w]
                  rfl
                refine pure_ (i := 2) (N := some 19) (v := ?_) (a' := ?_) #[true, true, true, false, false, false, false, false, false, false, false, false, false, false, false, false, false, false, false, false, false, false, false, false, false, false, false, false, false, false, false, false, false, false, false, false, false, false] rfl rfl (any_of HT_.out (by kernel_rfl)) (fun _ _ _ h => h) (Or.inl ⟨by rfl, ?_⟩) ?_ ?_
                rotate_left
                · intro w'
                  go_simp
                  with_reducible rfl
                rotate_left
                · simp only [Act.put, List.setIfInBounds_toArray, List.set_cons_zero, List.set_cons_succ, i64_w, i32_w]
                  rfl
                refine pure_ (i := 3) (N := some 20) (v := ?_) (a' := ?_) #[true, true, true, true, false, false, false, false, false, false, false, false, false, false, false, false, false, false, false, false, false, false, false, false, false, false, false, false, false, false, false, false, false, false, false, false, false, false] rfl rfl (any_of HT_.out (by kernel_rfl)) (fun _ _ _ h => h) (Or.inl ⟨by rfl, ?_⟩) ?_ ?_
                rotate_left
                · intro w'
                  go_simp
                  with_reducible rfl
                rotate_left
                · simp only [Act.put, List.setIfInBounds_toArray, List.set_cons_zero, List.set_cons_succ, i64_w, i32_w]
                  rfl
                refine pure_ (i := 5) (N := some 22) (v := ?_) (a' := ?_) #[true, true, true, true, false, true, false, false, false, false, false, false, false, false, false, false, false, false, false, false, false, false, false, false, false, false, false, false, false, false, false, false, false, false, false, false, false, false] rfl rfl (any_of HT_.out (by kernel_rfl)) (fun _ _ _ h => h) (Or.inl ⟨by rfl, ?_⟩) ?_ ?_
                rotate_left
                · intro w'
                  go_simp
                  with_reducible rfl
                rotate_left
                · simp only [Act.put, List.setIfInBounds_toArray, List.set_cons_zero, List.set_cons_succ, i64_w, i32_w]
                  rfl
                refine pure_ (i := 6) (N := some 23) (v := ?_) (a' := ?_) #[true, true, true, true, false, true, true, false, false, false, false, false, false, false, false, false, false, false, false, false, false, false, false, false, false, false, false, false, false, false, false, false, false, false, false, false, false, false] rfl rfl (any_of HT_.out (by kernel_rfl)) (fun _ _ _ h => h) (Or.inl ⟨by rfl, ?_⟩) ?_ ?_
                rotate_left
                · intro w'
                  go_simp
                  with_reducible rfl
                rotate_left
                · simp only [Act.put, List.setIfInBounds_toArray, List.set_cons_zero, List.set_cons_succ, i64_w, i32_w]
                  rfl
                refine pure_ (i := 7) (N := some 24) (v := ?_) (a' := ?_) #[true, true, true, true, false, true, true, true, false, false, false, false, false, false, false, false, false, false, false, false, false, false, false, false, false, false, false, false, false, false, false, false, false, false, false, false, false, false] rfl rfl (any_of HT_.out (by kernel_rfl)) (fun _ _ _ h => h) (Or.inl ⟨by rfl, ?_⟩) ?_ ?_
                rotate_left
                · intro w'
                  go_simp
                  with_reducible rfl
                rotate_left
                · simp only [Act.put, List.setIfInBounds_toArray, List.set_cons_zero, List.set_cons_succ, i64_w, i32_w]
                  rfl
                refine pure_ (i := 8) (N := some 25) (v := ?_) (a' := ?_) #[true, true, true, true, false, true, true, true, true, false, false, false, false, false, false, false, false, false, false, false, false, false, false, false, false, false, false, false, false, false, false, false, false, false, false, false, false, false] rfl rfl (any_of HT_.out (by kernel_rfl)) (fun _ _ _ h => h) (Or.inl ⟨by rfl, ?_⟩) ?_ ?_
                rotate_left
                · intro w'
                  go_simp
                  with_reducible rfl
                rotate_left
                · simp only [Act.put, List.setIfInBounds_toArray, List.set_cons_zero, List.set_cons_succ, i64_w, i32_w]
                  rfl
                refine take_ (i := 4) (N := some 21) (v := ?_) (a' := ?_) #[true, true, true, true, true, true, true, true, true, false, false, false, false, false, false, false, false, false, false, false, false, false, false, false, false, false, false, false, false, false, false, false, false, false, false, false, false, false] rfl rfl (take_ofW HT_.out HW_.out (by kernel_rfl)) (fun _ _ _ h => h) (Or.inl ⟨by rfl, ?_⟩) hHeld ?_ ?_
                rotate_left
                · rintro w' ⟨s0, s1, s2, s3, s4, s5⟩
                  go_simp
                  with_reducible rfl
                rotate_left
                · simp only [Act.put, List.setIfInBounds_toArray, List.set_cons_zero, List.set_cons_succ, i64_w, i32_w]
                  rfl
                refine take_ (i := 9) (N := some 26) (v := ?_) (a' := ?_) #[true, true, true, true, true, true, true, true, true, true, false, false, false, false, false, false, false, false, false, false, false, false, false, false, false, false, false, false, false, false, false, false, false, false, false, false, false, false] rfl rfl (take_ofW HT_.out HW_.out (by kernel_rfl)) (fun _ _ _ h => h) (Or.inl ⟨by rfl, ?_⟩) hHeld ?_ ?_
                rotate_left
                · rintro w' ⟨s0, s1, s2, s3, s4, s5⟩
                  go_simp
                  with_reducible rfl
                rotate_left
                · simp only [Act.put, List.setIfInBounds_toArray, List.set_cons_zero, List.set_cons_succ, i64_w, i32_w]
                  rfl
                refine pure_ (i := 10) (N := some 27) (v := ?_) (a' := ?_) #[true, true, true, true, true, true, true, true, true, true, true, false, false, false, false, false, false, false, false, false, false, false, false, false, false, false, false, false, false, false, false, false, false, false, false, false, false, false] rfl rfl (any_of HT_.out (by kernel_rfl)) (fun _ _ _ h => h) (Or.inl ⟨by rfl, ?_⟩) ?_ ?_
                rotate_left
                · intro w'
                  go_simp
                  with_reducible rfl
                rotate_left
                · simp only [Act.put, List.setIfInBounds_toArray, List.set_cons_zero, List.set_cons_succ, i64_w, i32_w]
                  rfl
                refine pure_ (i := 11) (N := some 28) (v := ?_) (a' := ?_) #[true, true, true, true, true, true, true, true, true, true, true, true, false, false, false, false, false, false, false, false, false, false, false, false, false, false, false, false, false, false, false, false, false, false, false, false, false, false] rfl rfl (any_of HT_.out (by kernel_rfl)) (fun _ _ _ h => h) (Or.inl ⟨by rfl, ?_⟩) ?_ ?_
                rotate_left
                · intro w'
                  go_simp
                  with_reducible rfl
                rotate_left
                · simp only [Act.put, List.setIfInBounds_toArray, List.set_cons_zero, List.set_cons_succ, i64_w, i32_w]
                  rfl
                refine pure_ (i := 12) (N := some 29) (v := undef) (a' := ?_) #[true, true, true, true, true, true, true, true, true, true, true, true, true, false, false, false, false, false, false, false, false, false, false, false, false, false, false, false, false, false, false, false, false, false, false, false, false, false] rfl rfl (any_of HT_.out (by kernel_rfl)) (fun _ _ _ h => h) (Or.inr ⟨by rfl, rfl⟩) ?_ ?_
                rotate_left
                · simp only [Act.put, List.setIfInBounds_toArray, List.set_cons_zero, List.set_cons_succ, i64_w, i32_w]
                  rfl
                refine pure_ (i := 13) (N := some 30) (v := undef) (a' := ?_) #[true, true, true, true, true, true, true, true, true, true, true, true, true, true, false, false, false, false, false, false, false, false, false, false, false, false, false, false, false, false, false, false, false, false, false, false, false, false] rfl rfl (any_of HT_.out (by kernel_rfl)) (fun _ _ _ h => h) (Or.inr ⟨by rfl, rfl⟩) ?_ ?_
                rotate_left
                · simp only [Act.put, List.setIfInBounds_toArray, List.set_cons_zero, List.set_cons_succ, i64_w, i32_w]
                  rfl
                refine pure_ (i := 14) (N := some 31) (v := undef) (a' := ?_) #[true, true, true, true, true, true, true, true, true, true, true, true, true, true, true, false, false, false, false, false, false, false, false, false, false, false, false, false, false, false, false, false, false, false, false, false, false, false] rfl rfl (any_of HT_.out (by kernel_rfl)) (fun _ _ _ h => h) (Or.inr ⟨by rfl, rfl⟩) ?_ ?_
                rotate_left
                · simp only [Act.put, List.setIfInBounds_toArray, List.set_cons_zero, List.set_cons_succ, i64_w, i32_w]
                  rfl
                refine pure_ (i := 15) (N := some 32) (v := undef) (a' := ?_) #[true, true, true, true, true, true, true, true, true, true, true, true, true, true, true, true, false, false, false, false, false, false, false, false, false, false, false, false, false, false, false, false, false, false, false, false, false, false] rfl rfl (any_of HT_.out (by kernel_rfl)) (fun _ _ _ h => h) (Or.inr ⟨by rfl, rfl⟩) ?_ ?_
                rotate_left
                · simp only [Act.put, List.setIfInBounds_toArray, List.set_cons_zero, List.set_cons_succ, i64_w, i32_w]
                  rfl
                refine pure_ (i := 16) (N := some 33) (v := undef) (a' := ?_) #[true, true, true, true, true, true, true, true, true, true, true, true, true, true, true, true, true, false, false, false, false, false, false, false, false, false, false, false, false, false, false, false, false, false, false, false, false, false] rfl rfl (any_of HT_.out (by kernel_rfl)) (fun _ _ _ h => h) (Or.inr ⟨by rfl, rfl⟩) ?_ ?_
                rotate_left
                · simp only [Act.put, List.setIfInBounds_toArray, List.set_cons_zero, List.set_cons_succ, i64_w, i32_w]
                  rfl
                refine pure_ (i := 17) (N := some 34) (v := undef) (a' := ?_) #[true, true, true, true, true, true, true, true, true, true, true, true, true, true, true, true, true, true, false, false, false, false, false, false, false, false, false, false, false, false, false, false, false, false, false, false, false, false] rfl rfl (any_of HT_.out (by kernel_rfl)) (fun _ _ _ h => h) (Or.inr ⟨by rfl, rfl⟩) ?_ ?_
                rotate_left
                · simp only [Act.put, List.setIfInBounds_toArray, List.set_cons_zero, List.set_cons_succ, i64_w, i32_w]
                  rfl
                refine pure_ (i := 18) (N := some 35) (v := undef) (a' := ?_) #[true, true, true, true, true, true, true, true, true, true, true, true, true, true, true, true, true, true, true, false, false, false, false, false, false, false, false, false, false, false, false, false, false, false, false, false, false, false] rfl rfl (any_of HT_.out (by kernel_rfl)) (fun _ _ _ h => h) (Or.inr ⟨by rfl, rfl⟩) ?_ ?_
                rotate_left
                · simp only [Act.put, List.setIfInBounds_toArray, List.set_cons_zero, List.set_cons_succ, i64_w, i32_w]
                  rfl
                refine pure_ (i := 19) (N := some 36) (v := undef) (a' := ?_) #[true, true, true, true, true, true, true, true, true, true, true, true, true, true, true, true, true, true, true, true, false, false, false, false, false, false, false, false, false, false, false, false, false, false, false, false, false, false] rfl rfl (any_of HT_.out (by kernel_rfl)) (fun _ _ _ h => h) (Or.inr ⟨by rfl, rfl⟩) ?_ ?_
                rotate_left
                · simp only [Act.put, List.setIfInBounds_toArray, List.set_cons_zero, List.set_cons_succ, i64_w, i32_w]
                  rfl
                refine pure_ (i := 20) (N := some 37) (v := undef) (a' := ?_) #[true, true, true, true, true, true, true, true, true, true, true, true, true, true, true, true, true, true, true, true, true, false, false, false, false, false, false, false, false, false, false, false, false, false, false, false, false, false] rfl rfl (any_of HT_.out (by kernel_rfl)) (fun _ _ _ h => h) (Or.inr ⟨by rfl, rfl⟩) ?_ ?_
                rotate_left
                · simp only [Act.put, List.setIfInBounds_toArray, List.set_cons_zero, List.set_cons_succ, i64_w, i32_w]
                  rfl
                refine pure_ (i := 21) (N := some 38) (v := undef) (a' := ?_) #[true, true, true, true, true, true, true, true, true, true, true, true, true, true, true, true, true, true, true, true, true, true, false, false, false, false, false, false, false, false, false, false, false, false, false, false, false, false] rfl rfl (any_of HT_.out (by kernel_rfl)) (fun _ _ _ h => h) (Or.inr ⟨by rfl, rfl⟩) ?_ ?_
                rotate_left
                · simp only [Act.put, List.setIfInBounds_toArray, List.set_cons_zero, List.set_cons_succ, i64_w, i32_w]
                  rfl
                refine pure_ (i := 22) (N := some 39) (v := undef) (a' := ?_) #[true, true, true, true, true, true, true, true, true, true, true, true, true, true, true, true, true, true, true, true, true, true, true, false, false, false, false, false, false, false, false, false, false, false, false, false, false, false] rfl rfl (any_of HT_.out (by kernel_rfl)) (fun _ _ _ h => h) (Or.inr ⟨by rfl, rfl⟩) ?_ ?_
                rotate_left
                · simp only [Act.put, List.setIfInBounds_toArray, List.set_cons_zero, List.set_cons_succ, i64_w, i32_w]
                  rfl
                refine pure_ (i := 23) (N := some 40) (v := ?_) (a' := ?_) #[true, true, true, true, true, true, true, true, true, true, true, true, true, true, true, true, true, true, true, true, true, true, true, true, false, false, false, false, false, false, false, false, false, false, false, false, false, false] rfl rfl (any_of HT_.out (by kernel_rfl)) (fun _ _ _ h => h) (Or.inl ⟨by rfl, ?_⟩) ?_ ?_
                rotate_left
                · intro w'
                  go_simp
                  with_reducible rfl
                rotate_left
                · simp only [Act.put, List.setIfInBounds_toArray, List.set_cons_zero, List.set_cons_succ, i64_w, i32_w]
                  rfl
                refine pure_ (i := 24) (N := some 41) (v := ?_) (a' := ?_) #[true, true, true, true, true, true, true, true, true, true, true, true, true, true, true, true, true, true, true, true, true, true, true, true, true, false, false, false, false, false, false, false, false, false, false, false, false, false] rfl rfl (any_of HT_.out (by kernel_rfl)) (fun _ _ _ h => h) (Or.inl ⟨by rfl, ?_⟩) ?_ ?_
                rotate_left
                · intro w'
                  go_simp
                  with_reducible rfl
                rotate_left
                · simp only [Act.put, List.setIfInBounds_toArray, List.set_cons_zero, List.set_cons_succ, i64_w, i32_w]
                  rfl
                refine pure_ (i := 25) (N := some 42) (v := undef) (a' := ?_) #[true, true, true, true, true, true, true, true, true, true, true, true, true, true, true, true, true, true, true, true, true, true, true, true, true, true, false, false, false, false, false, false, false, false, false, false, false, false] rfl rfl (any_of HT_.out (by kernel_rfl)) (fun _ _ _ h => h) (Or.inr ⟨by rfl, rfl⟩) ?_ ?_
                rotate_left
                · simp only [Act.put, List.setIfInBounds_toArray, List.set_cons_zero, List.set_cons_succ, i64_w, i32_w]
                  rfl
                refine pure_ (i := 26) (N := some 43) (v := undef) (a' := ?_) #[true, true, true, true, true, true, true, true, true, true, true, true, true, true, true, true, true, true, true, true, true, true, true, true, true, true, true, false, false, false, false, false, false, false, false, false, false, false] rfl rfl (any_of HT_.out (by kernel_rfl)) (fun _ _ _ h => h) (Or.inr ⟨by rfl, rfl⟩) ?_ ?_
                rotate_left
                · simp only [Act.put, List.setIfInBounds_toArray, List.set_cons_zero, List.set_cons_succ, i64_w, i32_w]
                  rfl
                refine pure_ (i := 27) (N := some 44) (v := undef) (a' := ?_) #[true, true, true, true, true, true, true, true, true, true, true, true, true, true, true, true, true, true, true, true, true, true, true, true, true, true, true, true, false, false, false, false, false, false, false, false, false, false] rfl rfl (any_of HT_.out (by kernel_rfl)) (fun _ _ _ h => h) (Or.inr ⟨by rfl, rfl⟩) ?_ ?_
                rotate_left
                · simp only [Act.put, List.setIfInBounds_toArray, List.set_cons_zero, List.set_cons_succ, i64_w, i32_w]
                  rfl
                refine pure_ (i := 28) (N := some 45) (v := undef) (a' := ?_) #[true, true, true, true, true, true, true, true, true, true, true, true, true, true, true, true, true, true, true, true, true, true, true, true, true, true, true, true, true, false, false, false, false, false, false, false, false, false] rfl rfl (any_of HT_.out (by kernel_rfl)) (fun _ _ _ h => h) (Or.inr ⟨by rfl, rfl⟩) ?_ ?_
                rotate_left
                · simp only [Act.put, List.setIfInBounds_toArray, List.set_cons_zero, List.set_cons_succ, i64_w, i32_w]
                  rfl
                refine pure_ (i := 29) (N := some 46) (v := undef) (a' := ?_) #[true, true, true, true, true, true, true, true, true, true, true, true, true, true, true, true, true, true, true, true, true, true, true, true, true, true, true, true, true, true, false, false, false, false, false, false, false, false] rfl rfl (any_of HT_.out (by kernel_rfl)) (fun _ _ _ h => h) (Or.inr ⟨by rfl, rfl⟩) ?_ ?_
                rotate_left
                · simp only [Act.put, List.setIfInBounds_toArray, List.set_cons_zero, List.set_cons_succ, i64_w, i32_w]
                  rfl
                refine pure_ (i := 30) (N := some 47) (v := undef) (a' := ?_) #[true, true, true, true, true, true, true, true, true, true, true, true, true, true, true, true, true, true, true, true, true, true, true, true, true, true, true, true, true, true, true, false, false, false, false, false, false, false] rfl rfl (any_of HT_.out (by kernel_rfl)) (fun _ _ _ h => h) (Or.inr ⟨by rfl, rfl⟩) ?_ ?_
                rotate_left
                · simp only [Act.put, List.setIfInBounds_toArray, List.set_cons_zero, List.set_cons_succ, i64_w, i32_w]
                  rfl
                refine pure_ (i := 31) (N := some 48) (v := undef) (a' := ?_) #[true, true, true, true, true, true, true, true, true, true, true, true, true, true, true, true, true, true, true, true, true, true, true, true, true, true, true, true, true, true, true, true, false, false, false, false, false, false] rfl rfl (any_of HT_.out (by kernel_rfl)) (fun _ _ _ h => h) (Or.inr ⟨by rfl, rfl⟩) ?_ ?_
                rotate_left
                · simp only [Act.put, List.setIfInBounds_toArray, List.set_cons_zero, List.set_cons_succ, i64_w, i32_w]
                  rfl
                refine pure_ (i := 32) (N := some 49) (v := undef) (a' := ?_) #[true, true, true, true, true, true, true, true, true, true, true, true, true, true, true, true, true, true, true, true, true, true, true, true, true, true, true, true, true, true, true, true, true, false, false, false, false, false] rfl rfl (any_of HT_.out (by kernel_rfl)) (fun _ _ _ h => h) (Or.inr ⟨by rfl, rfl⟩) ?_ ?_
                rotate_left
                · simp only [Act.put, List.setIfInBounds_toArray, List.set_cons_zero, List.set_cons_succ, i64_w, i32_w]
                  rfl
                refine pure_ (i := 33) (N := some 50) (v := undef) (a' := ?_) #[true, true, true, true, true, true, true, true, true, true, true, true, true, true, true, true, true, true, true, true, true, true, true, true, true, true, true, true, true, true, true, true, true, true, false, false, false, false] rfl rfl (any_of HT_.out (by kernel_rfl)) (fun _ _ _ h => h) (Or.inr ⟨by rfl, rfl⟩) ?_ ?_
                rotate_left
                · simp only [Act.put, List.setIfInBounds_toArray, List.set_cons_zero, List.set_cons_succ, i64_w, i32_w]
                  rfl
                refine pure_ (i := 34) (N := some 51) (v := undef) (a' := ?_) #[true, true, true, true, true, true, true, true, true, true, true, true, true, true, true, true, true, true, true, true, true, true, true, true, true, true, true, true, true, true, true, true, true, true, true, false, false, false] rfl rfl (any_of HT_.out (by kernel_rfl)) (fun _ _ _ h => h) (Or.inr ⟨by rfl, rfl⟩) ?_ ?_
                rotate_left
                · simp only [Act.put, List.setIfInBounds_toArray, List.set_cons_zero, List.set_cons_succ, i64_w, i32_w]
                  rfl
                refine pure_ (i := 35) (N := some 52) (v := undef) (a' := ?_) #[true, true, true, true, true, true, true, true, true, true, true, true, true, true, true, true, true, true, true, true, true, true, true, true, true, true, true, true, true, true, true, true, true, true, true, true, false, false] rfl rfl (any_of HT_.out (by kernel_rfl)) (fun _ _ _ h => h) (Or.inr ⟨by rfl, rfl⟩) ?_ ?_
                rotate_left
                · simp only [Act.put, List.setIfInBounds_toArray, List.set_cons_zero, List.set_cons_succ, i64_w, i32_w]
                  rfl
                refine pure_ (i := 36) (N := some 53) (v := undef) (a' := ?_) #[true, true, true, true, true, true, true, true, true, true, true, true, true, true, true, true, true, true, true, true, true, true, true, true, true, true, true, true, true, true, true, true, true, true, true, true, true, false] rfl rfl (any_of HT_.out (by kernel_rfl)) (fun _ _ _ h => h) (Or.inr ⟨by rfl, rfl⟩) ?_ ?_
                rotate_left
                · simp only [Act.put, List.setIfInBounds_toArray, List.set_cons_zero, List.set_cons_succ, i64_w, i32_w]
                  rfl
                refine pure_ (i := 37) (N := some 54) (v := ?_) (a' := ?_) #[true, true, true, true, true, true, true, true, true, true, true, true, true, true, true, true, true, true, true, true, true, true, true, true, true, true, true, true, true, true, true, true, true, true, true, true, true, true] rfl rfl (any_of HT_.out (by kernel_rfl)) (fun _ _ _ h => h) (Or.inl ⟨by rfl, ?_⟩) ?_ ?_
                rotate_left
                · intro w'
                  go_simp
                  with_reducible rfl
                rotate_left
                · simp only [Act.put, List.setIfInBounds_toArray, List.set_cons_zero, List.set_cons_succ, i64_w, i32_w]
                  rfl
                refine done_ (done_of HT_.out (by kernel_rfl)) ?_
                try go_wp2
                go_ret
                exact ⟨by first | rfl | (simp [errW_none, errW_some] <;> rfl) | (simp [*, errW_none, errW_some] <;> rfl), by repeat (first | (with_reducible first | exact HB.out | apply below_alloc | apply pw_below_drewN | apply below_drew1) | exact HB.out)⟩
            · rw [if_neg c6] at H
              exact absurd H (by simp)
          · rw [if_neg c5] at H
            exact absurd H (by simp)
        · rw [if_neg c4] at H
          have c4b0 : decide (x5_1 < (l0.length : Int)) = false := decide_eq_false c4
          clear c4
          obtain rfl := Option.some.inj H
          go_wp2
          go_ret
          exact ⟨by first | rfl | (simp [errW_none, errW_some] <;> rfl) | (simp [*, errW_none, errW_some] <;> rfl), by repeat (first | (with_reducible first | exact HB.out | apply below_alloc | apply pw_below_drewN | apply below_drew1) | exact HB.out)⟩
  · rw [if_neg c3] at H
    have c3b0 : ((l0.length : Int) == (l1.length : Int)) = false := beq_eq_false_iff_ne.mpr c3
    have c3b1 : ((l0.length : Int) != (l1.length : Int)) = true := bne_iff_ne.mpr c3
    have c3b2 : (l0.length == l1.length) = false := by first | simpa using c3 | (simp at c3 ⊢; omega)
    obtain rfl := Option.some.inj H
    go_enter Tryd.func42, Tryd.ntmps42
    go_wp2
    go_ret
    exact ⟨by first | rfl | (simp [errW_none, errW_some] <;> rfl) | (simp [*, errW_none, errW_some] <;> rfl), by repeat (first | (with_reducible first | exact HB.out | apply below_alloc | apply pw_below_drewN | apply below_drew1) | exact HB.out)⟩

end Go.Proofs.YtlhnaplmphdhlaaDoor.Q
end
section
set_option linter.unusedSimpArgs false
set_option linter.unusedVariables false
namespace Go.Proofs.YtlhnaplmphdhlaaDoor.Q
open Go.RowKit Go.Proofs.YtlhnaplmphdhlaaDoorW.PrintWords Go.Proofs.YtlhnaplmphdhlaaDoorW.PrintLast
/-- How many bytes stand ahead of the first c. -/
def nextB (c : UInt8) : List UInt8 → Nat
  | [] => 0
  | a :: l => if a = c then 0 else nextB c l + 1
theorem nextB_le (c : UInt8) : ∀ l : List UInt8, nextB c l ≤ l.length
  | [] => Nat.le_refl _
  | a :: l => by
    have := nextB_le c l
    rw [nextB]
    split
    · exact Nat.zero_le _
    · rw [List.length_cons]; omega
theorem nextB_none (c : UInt8) : ∀ (l : List UInt8) (j : Nat), j < nextB c l → l[j]? ≠ some c
  | [], j, h => absurd h (by simp [nextB])
  | a :: l, j, h => by
    rw [nextB] at h
    split at h
    · omega
    · rename_i ha
      cases j with
      | zero => simpa using ha
      | succ j => rw [List.getElem?_cons_succ]; exact nextB_none c l j (by omega)
theorem nextB_at (c : UInt8) : ∀ l : List UInt8, nextB c l < l.length → l[nextB c l]? = some c
  | [], h => absurd h (by simp)
  | a :: l, h => by
    rw [nextB] at h ⊢
    split
    · rename_i ha; simp [ha]
    · rename_i ha
      rw [if_neg ha, List.length_cons] at h
      rw [List.getElem?_cons_succ]
      exact nextB_at c l (by omega)
theorem index_next (c : UInt8) : ∀ l : List UInt8, Lib.indexByte l c = if nextB c l < l.length then (nextB c l : Int) else -1
  | [] => by rw [Lib.indexByte]; rfl
  | a :: l => by
    have ih := index_next c l
    have hle := nextB_le c l
    rw [Lib.indexByte, nextB]
    by_cases ha : a = c
    · rw [if_pos ha, if_pos (beq_iff_eq.2 ha), if_pos (by simp)]
      rfl
    · rw [if_neg ha, if_neg (by simpa using ha), ih]
      by_cases hl : nextB c l < l.length
      · rw [if_pos hl, if_neg (show ¬ (((nextB c l : Nat) : Int) == -1) = true by simp), if_pos (by rw [List.length_cons]; omega)]
        omega
      · rw [if_neg hl, if_pos (show ((-1 : Int) == -1) = true by decide), if_neg (by rw [List.length_cons]; omega)]
theorem cuts_next (c : UInt8) (l : List UInt8) : cuts c l = if nextB c l < l.length then l.take (nextB c l) :: cuts c (l.drop (nextB c l + 1)) else [l] := by
  by_cases h : nextB c l < l.length
  · rw [if_pos h]
    exact cuts_at c _ l (nextB_none c l) (nextB_at c l h)
  · rw [if_neg h]
    refine cuts_end c l (fun j hj => ?_)
    have hlt := (List.getElem?_eq_some_iff.1 hj).1
    have hle := nextB_le c l
    exact nextB_none c l j (by omega) hj
theorem bytes_len (s : ByteArray) : s.data.toList.length = s.size := Array.length_toList
theorem byte_btc (s : ByteArray) (c : UInt8) (j : Nat) (h : j < s.size) : s.data.toList[j]? = some c ↔ bt s (j : Int) = (c.toNat : Int) := by
  unfold bt
  rw [dif_pos (show ((j : Int)).toNat < s.size from h)]
  rw [List.getElem?_eq_getElem (by rw [Array.length_toList]; exact h), Option.some.injEq, Array.getElem_toList]
  show s.data[j] = c ↔ ((s.data[j]).toNat : Int) = (c.toNat : Int)
  constructor
  · intro e; rw [e]
  · intro e
    apply UInt8.toNat_inj.1
    omega
theorem place_go (s : ByteArray) (c : UInt8) (hs : s.size ≤ 1000000000) : ∀ (d k i : Nat), i + d = s.size → d + 1 ≤ k → tinderref07_Place.l0 k s (i : Int) (c.toNat : Int) = some ((i + nextB c (s.data.toList.drop i) : Nat) : Int)
  | 0, k, i, hi, hk => by
    obtain ⟨k, rfl⟩ : ∃ m, k = m + 1 := ⟨k - 1, by omega⟩
    unfold tinderref07_Place.l0
    rw [if_neg (by omega), List.drop_eq_nil_of_le (by rw [bytes_len]; omega)]
    rfl
  | d + 1, k, i, hi, hk => by
    obtain ⟨k, rfl⟩ : ∃ m, k = m + 1 := ⟨k - 1, by omega⟩
    have hl : i < s.data.toList.length := by rw [bytes_len]; omega
    unfold tinderref07_Place.l0
    rw [if_pos (by omega), if_pos (by omega), List.drop_eq_getElem_cons hl, nextB]
    have hb := byte_btc s c i (by omega)
    rw [List.getElem?_eq_getElem hl, Option.some.injEq] at hb
    by_cases he : bt s (i : Int) = (c.toNat : Int)
    · rw [if_pos he, if_pos (hb.2 he)]
      rfl
    · rw [if_neg he, if_neg (fun h => he (hb.1 h)), show wrap64 ((i : Int) + 1) = ((i + 1 : Nat) : Int) by unfold wrap64; omega, place_go s c hs d k (i + 1) (by omega) (by omega)]
      congr 2
      omega
theorem place_eq (k : Nat) (s : ByteArray) (c : UInt8) (i : Nat) (hs : s.size ≤ 1000000000) (hi : i ≤ s.size) (hk : s.size + 1 ≤ k) : tinderref07_Place.f k s (i : Int) (c.toNat : Int) = some ((i + nextB c (s.data.toList.drop i) : Nat) : Int) :=
  place_go s c hs (s.size - i) k i (by omega) (by omega)
theorem head_next (c : UInt8) (s : ByteArray) : headC c s = s.extract 0 (nextB c s.data.toList) ∧ (0 ≤ ixC c s ↔ nextB c s.data.toList < s.size) ∧ tailC c s = if nextB c s.data.toList < s.size then s.extract (nextB c s.data.toList + 1) s.size else ⟨#[]⟩ := by
  have hle := nextB_le c s.data.toList
  have e := index_next c s.data.toList
  rw [bytes_len] at hle e
  unfold headC tailC ixC
  rw [e]
  by_cases h : nextB c s.data.toList < s.size
  · rw [if_pos h, if_pos (by omega), if_pos (by omega), if_pos h]
    exact ⟨rfl, ⟨fun _ => h, fun _ => by omega⟩, rfl⟩
  · rw [if_neg h, if_neg (by decide), if_neg (by decide), if_neg h]
    refine ⟨?_, ⟨fun h2 => absurd h2 (by decide), fun h2 => absurd h2 h⟩, rfl⟩
    rw [show nextB c s.data.toList = s.size by omega]
    simp
theorem ext_list (s : ByteArray) (a b : Nat) : (s.extract a b).data.toList = (s.data.toList.drop a).take (b - a) := by
  rw [ByteArray.data_extract, Array.toList_extract, List.extract_eq_take_drop]
theorem refstep_eq (k : Nat) (s : ByteArray) (hs : s.size ≤ 1000000) (hk : s.size + 500 ≤ k) : ∃ nm U ar, tinderref07_step.f k s = some (nm, U, ar, (stepF s).2) ∧ ((stepF s).2 = true → nm = (stepF s).1.f0 ∧ U = (stepF s).1.f1 ∧ ar = (stepF s).1.f2) := by
  obtain ⟨k, rfl⟩ : ∃ m, k = m + 1 := ⟨k - 1, by omega⟩
  obtain ⟨h1, h2, h3⟩ := head_next 58 s
  have hl1 := nextB_le 58 s.data.toList
  rw [bytes_len] at hl1
  have e1 : tinderref07_Place.f (k + 1) s 0 58 = some ((nextB 58 s.data.toList : Nat) : Int) := by
    have := place_eq (k + 1) s 58 0 (by omega) (by omega) (by omega)
    rw [Nat.zero_add, List.drop_zero] at this
    exact this
  obtain ⟨n, hn⟩ : ∃ n, n = nextB 58 s.data.toList := ⟨_, rfl⟩
  rw [← hn] at h1 h2 h3 hl1 e1
  obtain ⟨s1, hs1⟩ : ∃ s1, s1 = s.extract 0 n := ⟨_, rfl⟩
  rw [← hs1] at h1
  have hsz : s1.size = n := by rw [hs1, ByteArray.size_extract]; omega
  obtain ⟨g1, g2, g3⟩ := head_next 64 s1
  have hl2 := nextB_le 64 s1.data.toList
  rw [bytes_len] at hl2
  have e2 : tinderref07_Place.f k s1 0 64 = some ((nextB 64 s1.data.toList : Nat) : Int) := by
    have := place_eq k s1 64 0 (by omega) (by omega) (by omega)
    rw [Nat.zero_add, List.drop_zero] at this
    exact this
  obtain ⟨m, hm⟩ : ∃ m, m = nextB 64 s1.data.toList := ⟨_, rfl⟩
  rw [← hm] at g1 g2 g3 hl2 e2
  have key : ∀ ar : ByteArray, ar = tailC 58 s → ∃ nm U ar', tinderref07_step.j0 (k + 1) s (n : Int) ⟨#[]⟩ ar = some (nm, U, ar', (stepF s).2) ∧ ((stepF s).2 = true → nm = (stepF s).1.f0 ∧ U = (stepF s).1.f1 ∧ ar' = (stepF s).1.f2) := by
    intro ar har
    rw [tinderref07_step.j0]
    rw [if_pos (by omega), if_pos (by omega), Int.toNat_natCast, ← hs1, e2, Option.bind_some]
    unfold stepF
    rw [h1]
    by_cases hu : m < s1.size
    · have w1 : wrap64 ((m : Int) + 1) = ((m + 1 : Nat) : Int) := by unfold wrap64; omega
      rw [if_pos (by omega), w1, if_pos (by omega), if_pos (by omega), Int.toNat_natCast, Int.toNat_natCast]
      have ht : tailC 64 s1 = s1.extract (m + 1) s1.size := by rw [g3, if_pos hu]
      rw [← ht, ← g1]
      have hts := tailC_size 64 s1
      have eu : tinderref05_ParseUnit.f (tailC 64 s1) = some (unitF (tailC 64 s1)) := by unfold tinderref05_ParseUnit.f; rw [if_pos (by omega)]
      rw [eu, Option.bind_some, if_pos (g2.2 (by omega)), refnamed_eq k (by omega)]
      by_cases hz : (unitF (tailC 64 s1)).2 = 0
      · rw [if_pos hz, if_pos hz, if_pos (by omega), if_pos (by omega), Option.bind_some]
        by_cases hnm : namedF (headC 64 s1) = true
        · rw [if_pos hnm, hnm]
          exact ⟨_, _, _, rfl, fun _ => ⟨rfl, rfl, har⟩⟩
        · rw [if_neg hnm, Bool.eq_false_iff.2 hnm]
          exact ⟨_, _, _, rfl, fun h => by cases h⟩
      · rw [if_neg hz, if_neg hz]
        by_cases hnm : namedF (headC 64 s1) = true
        · rw [if_pos hnm]
          exact ⟨_, _, _, rfl, fun h => by cases h⟩
        · rw [if_neg hnm]
          exact ⟨_, _, _, rfl, fun h => by cases h⟩
    · rw [if_neg (by omega), if_pos (by omega), if_pos (by omega), Int.toNat_natCast, ← g1, if_neg (show ¬ 0 ≤ ixC 64 s1 from fun h => hu (by have := g2.1 h; omega)), refnamed_eq k (by omega), Option.bind_some]
      by_cases hnm : namedF (headC 64 s1) = true
      · rw [if_pos hnm, hnm]
        exact ⟨_, _, _, rfl, fun _ => ⟨rfl, rfl, har⟩⟩
      · rw [if_neg hnm, Bool.eq_false_iff.2 hnm]
        exact ⟨_, _, _, rfl, fun h => by cases h⟩
  unfold tinderref07_step.f
  rw [e1, Option.bind_some]
  by_cases hc : n < s.size
  · have w1 : wrap64 ((n : Int) + 1) = ((n + 1 : Nat) : Int) := by unfold wrap64; omega
    rw [if_pos (by omega), w1, if_pos (by omega), if_pos (by omega), Int.toNat_natCast]
    exact key _ (by rw [h3, if_pos hc])
  · rw [if_neg (by omega)]
    exact key _ (by rw [h3, if_neg hc])
theorem refparse_go2 (s : ByteArray) (hs : s.size ≤ 256) : ∀ (n k i : Nat) (acc : List S81), s.size - i < n → n + 2000 ≤ k → i < s.size → acc.length ≤ i →
    tinderref07_Parse.l0 k s acc (i : Int) = some (if (cuts 47 (s.data.toList.drop (i + 1))).all okS = true then (acc ++ (cuts 47 (s.data.toList.drop (i + 1))).map stepV, 0) else ([], 15))
  | 0, _, _, _, h, _, _, _ => absurd h (by omega)
  | n + 1, k, i, acc, h, hk, hi, ha => by
    obtain ⟨k, rfl⟩ : ∃ m, k = m + 1 := ⟨k - 1, by omega⟩
    have w1 : wrap64 ((i : Int) + 1) = ((i + 1 : Nat) : Int) := by unfold wrap64; omega
    have e1 := place_eq k s 47 (i + 1) (by omega) (by omega) (by omega)
    have hle := nextB_le 47 (s.data.toList.drop (i + 1))
    rw [List.length_drop, bytes_len] at hle
    have hcut := cuts_next 47 (s.data.toList.drop (i + 1))
    rw [List.length_drop, bytes_len, List.drop_drop] at hcut
    obtain ⟨q, hq⟩ : ∃ q, q = nextB 47 (s.data.toList.drop (i + 1)) := ⟨_, rfl⟩
    rw [← hq] at e1 hle hcut
    obtain ⟨p, hp⟩ : ∃ p, p = (s.data.toList.drop (i + 1)).take q := ⟨_, rfl⟩
    have hpb : s.extract (i + 1) (i + 1 + q) = bOf p := by
      rw [extract_bOf, hp, show i + 1 + q - (i + 1) = q by omega]
    have hps : (bOf p).size ≤ 256 := by rw [bOf_size, hp, List.length_take, List.length_drop, bytes_len]; omega
    obtain ⟨nm, U, ar, e2, e3⟩ := refstep_eq k (bOf p) (by omega) (by omega)
    have hlast : ¬ q < s.size - (i + 1) → s.data.toList.drop (i + 1) = p := fun hh => by
      rw [hp, List.take_of_length_le (by rw [List.length_drop, bytes_len]; omega)]
    rw [← hp] at hcut
    have hcut2 : cuts 47 (s.data.toList.drop (i + 1)) = if q < s.size - (i + 1) then p :: cuts 47 (s.data.toList.drop (i + 1 + q + 1)) else [p] := by
      rw [hcut]
      by_cases hh : q < s.size - (i + 1)
      · rw [if_pos hh, if_pos hh, show i + 1 + (q + 1) = i + 1 + q + 1 by omega]
      · rw [if_neg hh, if_neg hh, hlast hh]
    unfold tinderref07_Parse.l0
    rw [if_pos (by omega), w1, show (47 : Int) = (((47 : UInt8).toNat : Nat) : Int) from rfl, e1, Option.bind_some, if_pos (by omega), if_pos (by omega), if_pos (by omega), Int.toNat_natCast, Int.toNat_natCast, hpb, e2, Option.bind_some]
    dsimp only
    have hokp : okS p = (stepF (bOf p)).2 := rfl
    have hvp : stepV p = (stepF (bOf p)).1 := rfl
    by_cases hok : (stepF (bOf p)).2 = true
    · obtain ⟨f0, f1, f2⟩ := e3 hok
      have hx : (⟨nm, U, ar⟩ : S81) = stepV p := by rw [hvp, f0, f1, f2]
      rw [if_pos hok, if_pos (by omega), hx, hcut2]
      by_cases hh : q < s.size - (i + 1)
      · rw [if_pos hh, refparse_go2 s hs n k (i + 1 + q) (acc ++ [stepV p]) (by omega) (by omega) (by omega) (by rw [List.length_append, List.length_singleton]; omega)]
        rw [List.all_cons, hokp, hok, Bool.true_and, List.map_cons]
        congr 1
        by_cases hall : (cuts 47 (s.data.toList.drop (i + 1 + q + 1))).all okS = true
        · rw [if_pos hall, if_pos hall, List.append_assoc]; rfl
        · rw [if_neg hall, if_neg hall]
      · rw [if_neg hh]
        obtain ⟨k, rfl⟩ : ∃ m, k = m + 1 := ⟨k - 1, by omega⟩
        unfold tinderref07_Parse.l0
        rw [if_neg (by omega), List.all_cons, hokp, hok, Bool.true_and, List.all_nil, if_pos rfl, List.map_cons, List.map_nil]
    · rw [if_neg hok, hcut2]
      have hf := Bool.eq_false_iff.2 hok
      by_cases hh : q < s.size - (i + 1)
      · rw [if_pos hh, List.all_cons, hokp, hf, Bool.false_and, if_neg (by decide)]
      · rw [if_neg hh, List.all_cons, hokp, hf, Bool.false_and, if_neg (by decide)]
theorem refParse_eq (k : Nat) (s : ByteArray) (hk : 3000 ≤ k) : tinderref07_Parse.f k s = some (parseF s) := by
  obtain ⟨k, rfl⟩ : ∃ m, k = m + 1 := ⟨k - 1, by omega⟩
  have hsz : s.data.toList.length = s.size := bytes_len s
  unfold tinderref07_Parse.f parseF
  by_cases hs : 256 < s.size
  · rw [if_pos (by omega), if_pos hs]
  · rw [if_neg (by omega), if_neg hs, ByteArray.toList_eq]
    cases hd : s.data.toList with
    | nil =>
      rw [if_neg (by decide), if_pos rfl, tinderref07_Parse.j0, if_pos rfl]
    | cons a r =>
      rw [hd, List.length_cons] at hsz
      dsimp only
      have hb := byte_btc s 47 0 (by omega)
      rw [hd, List.getElem?_cons_zero, Option.some.injEq] at hb
      have hb0 : bt s 0 = bt s ((0 : Nat) : Int) := rfl
      by_cases ha : a = 47
      · have hb47 : bt s 0 = 47 := hb.1 ha
        by_cases hr : r = []
        · rw [if_pos (by rw [ha, hr]), if_pos ha, if_pos hr]
        · have hl : 0 < r.length := by
            cases r with
            | nil => exact absurd rfl hr
            | cons b r => simp
          have hgo := refparse_go2 s (by omega) (s.size + 1) k 0 [] (by omega) (by omega) (by omega) (by simp)
          rw [hd] at hgo
          rw [if_neg (fun h => hr (List.cons.inj h).2), if_neg (by simp), if_pos (by omega), hb47, tinderref07_Parse.j0, if_neg (by decide), if_pos ha, if_neg hr]
          exact hgo
      · rw [if_neg (fun h => ha (List.cons.inj h).1), if_neg (by simp), if_pos (by omega), tinderref07_Parse.j0, if_pos (by
          rw [bne_iff_ne]
          exact fun h => ha (hb.2 h)), if_neg ha]
theorem sameu_l0p (L : List Int) (hl : L.length ≤ 1000000000) : ∀ (k : Nat) (i : Int), 0 ≤ i → i ≤ L.length → L.length + 1 ≤ k + i → tinderref03_Same.l0 k L L i = some true := by
  intro k
  induction k with
  | zero => intro i h0 hi hk; exact absurd hk (by omega)
  | succ k ih =>
    intro i h0 hi hk
    unfold tinderref03_Same.l0
    by_cases h : i < (L.length : Int)
    · rw [if_pos h, if_pos h0, if_pos h, if_pos rfl, show wrap64 (i + 1) = i + 1 by unfold wrap64; omega]
      exact ih (i + 1) (by omega) (by omega) (by omega)
    · rw [if_neg h]
theorem sameu_eqp (k : Nat) (L : List Int) (hl : L.length ≤ 1000000000) (hk : L.length + 1 ≤ k) : tinderref03_Same.f k L L = some true := by
  unfold tinderref03_Same.f
  rw [if_pos rfl]
  exact sameu_l0p L hl k 0 (Int.le_refl _) (by omega) (by omega)
theorem samep_l0 (X : List S81) (hl : X.length ≤ 1000000000) (m : Nat) (hm : m ≤ 1000000000) (hu : ∀ x ∈ X, x.f1.length ≤ m) : ∀ (d k i : Nat), i + d = X.length → d + m + 2 ≤ k → tinderref07_Same.l0 k X X (i : Int) = some true
  | 0, k, i, hi, hk => by
    obtain ⟨k, rfl⟩ : ∃ m, k = m + 1 := ⟨k - 1, by omega⟩
    unfold tinderref07_Same.l0
    rw [if_neg (by omega)]
  | d + 1, k, i, hi, hk => by
    obtain ⟨k, rfl⟩ : ∃ m, k = m + 1 := ⟨k - 1, by omega⟩
    have hx : (rd_T81 X (i : Int)) ∈ X := by
      unfold rd_T81
      rw [Int.toNat_natCast, List.getD_eq_getElem?_getD, List.getElem?_eq_getElem (by omega)]
      exact List.getElem_mem _
    have hxl := hu _ hx
    unfold tinderref07_Same.l0
    rw [if_pos (by omega), if_pos (by omega), if_pos (by omega), if_pos rfl, if_pos rfl, sameu_eqp k _ (by omega) (by omega), Option.bind_some, if_pos rfl, show wrap64 ((i : Int) + 1) = ((i + 1 : Nat) : Int) by unfold wrap64; omega]
    exact samep_l0 X hl m hm hu d k (i + 1) (by omega) (by omega)
theorem samep_eq (k : Nat) (X : List S81) (m : Nat) (hl : X.length ≤ 1000000000) (hm : m ≤ 1000000000) (hu : ∀ x ∈ X, x.f1.length ≤ m) (hk : X.length + m + 2 ≤ k) : tinderref07_Same.f k X X = some true := by
  unfold tinderref07_Same.f
  rw [if_pos rfl]
  exact samep_l0 X hl m hm hu X.length k 0 (by omega) (by omega)
theorem unitF_len4 (s : ByteArray) : (unitF s).1.length ≤ 4 := by
  unfold unitF
  split
  · split
    · exact Nat.zero_le _
    · rw [List.length_map]; omega
  · exact Nat.zero_le _
theorem stepF_unit (s : ByteArray) : (stepF s).1.f1.length ≤ 4 := by
  unfold stepF
  split
  · split
    · split
      · exact unitF_len4 _
      · exact Nat.zero_le _
    · exact Nat.zero_le _
  · exact Nat.zero_le _
theorem parseF_len (s : ByteArray) : (parseF s).1.length ≤ 300 ∧ ∀ x ∈ (parseF s).1, x.f1.length ≤ 4 := by
  unfold parseF
  split
  · exact ⟨Nat.zero_le _, fun x h => by cases h⟩
  · rename_i hs
    split
    · exact ⟨Nat.zero_le _, fun x h => by cases h⟩
    · rename_i a r hd
      have hl : r.length + 1 = s.size := by rw [← bytes_len, hd]; rfl
      split
      · split
        · exact ⟨Nat.zero_le _, fun x h => by cases h⟩
        · split
          · refine ⟨?_, fun x h => ?_⟩
            · show ((cuts 47 r).map stepV).length ≤ 300
              have := cuts_len 47 r
              rw [List.length_map]
              omega
            · obtain ⟨p, _, rfl⟩ := List.mem_map.1 h
              exact stepF_unit _
          · exact ⟨Nat.zero_le _, fun x h => by cases h⟩
      · exact ⟨Nat.zero_le _, fun x h => by cases h⟩
end Go.Proofs.YtlhnaplmphdhlaaDoor.Q
end
section
set_option linter.unusedSimpArgs false
set_option linter.unusedVariables false
namespace Go.Proofs.YtlhnaplmphdhlaaDoor.Q
open Go.RowKit Go.Shelf Go.Proofs.YtlhnaplmphdhlaaDoorW.PrintWords Go.Proofs.YtlhnaplmphdhlaaDoorW.PrintLast
attribute [local go_sem] Oper.semAt_some
theorem info81i : (Tryd.prog.info? 81).map (fun i => (i.zero, i.size, i.bytes)) = some (some (.agg #[.string ⟨#[]⟩, .slice none 0 0, .string ⟨#[]⟩]), 3, 56) := by kernel_rfl
theorem holdsR_own {α β : Type} (d : Kd α) (e base B : Nat) (t : TypeId) (f : β → List α) (G : β → Prop) : Own (fun s W => ∃ v, Boxed W B t v ∧ d.R e W base (fun _ => True) v (f s) ∧ G s) := by
  rintro s X Y row ⟨v, hv, hr, hG⟩ hg hrow
  refine ⟨v, hv.kept hg (fun e' => ?_), Kd.R_mono (Kd.R_grown (Kd.R_bound hr) hg (fun k hk he => ?_)) (fun _ _ => trivial), hG⟩
  · obtain ⟨o, ho, hc⟩ := hrow B e'.symm
    rw [show X.heap[B]? = _ from hv] at ho; cases ho; cases hc
  · obtain ⟨o, ho, hc⟩ := hrow k he.symm
    obtain ⟨_, _, _, q, _, cells, hh⟩ := hk
    rw [hh] at ho; cases ho; cases hc
theorem someBoxed_own2 {β : Type} (B : Nat) (t : TypeId) : Own (fun (_ : β) W => ∃ v, Boxed W B t v) := fun s X Y row ⟨v, hv⟩ hg hrow => ⟨v, boxed_own (β := β) B t (fun _ => v) s X Y row hv hg hrow⟩
/-- What stands between two rounds. -/
def ParI (w : World) (L : List (List UInt8)) (k : Nat) (W : World) : Prop :=
  ((∃ v, Boxed W (w.heap.size + 1 + 1) 54 v ∧ Kd.R k81 81 W w.heap.size (fun _ => True) v ((L.map stepV).take k) ∧ ∀ p ∈ L.take k, okS p = true) ∧ (Boxed W w.heap.size 54 (.slice none 0 0) ∧ Boxed W (w.heap.size + 1) 26 (.int .i64 0))) ∧
    ((∃ t, Boxed W (w.heap.size + 1 + 1 + 1) 9 t) ∧ (∃ t, Boxed W (w.heap.size + 1 + 1 + 1 + 1) 9 t) ∧ (∃ t, Boxed W (w.heap.size + 1 + 1 + 1 + 1 + 1) 3 t)) ∧ Below w.heap.size w W
def ParX (w : World) (L : List (List UInt8)) (c : Code) (k : Nat) (W : World) : Prop := (c = .ret ∧ ¬ ∀ p ∈ L, okS p = true) ∧ Boxed W w.heap.size 54 (.slice none 0 0) ∧ Boxed W (w.heap.size + 1) 26 (.int .i64 15) ∧ Below w.heap.size w W
theorem parI_own (w : World) (L : List (List UInt8)) (B : Nat) (hB : w.heap.size ≤ B) : OwnFrom B (ParI w L) :=
  OwnFrom.and (OwnFrom.and (Own.from (holdsR_own k81 81 w.heap.size (w.heap.size + 1 + 1) 54 (fun k => (L.map stepV).take k) (fun k => ∀ p ∈ L.take k, okS p = true)) _) (OwnFrom.and (Own.from (boxed_own _ _ _) _) (Own.from (boxed_own _ _ _) _)))
    (OwnFrom.and (OwnFrom.and (Own.from (someBoxed_own2 _ _) _) (OwnFrom.and (Own.from (someBoxed_own2 _ _) _) (Own.from (someBoxed_own2 _ _) _))) (ownFrom_below (Nat.le_refl _) hB))
theorem parX_own (w : World) (L : List (List UInt8)) (c : Code) (B : Nat) (hB : w.heap.size ≤ B) : OwnFrom B (ParX w L c) :=
  OwnFrom.and (fun _ _ _ _ h _ _ => h) (OwnFrom.and (Own.from (boxed_own _ _ _) _) (OwnFrom.and (Own.from (boxed_own _ _ _) _) (ownFrom_below (Nat.le_refl _) hB)))
theorem parI_abs (w : World) (L : List (List UInt8)) (k : Nat) (A B : World) (h : ParI w L k A) (hab : AbS (w.heap.size + 1 + 1 + 1) A B) : ParI w L k B := by
  obtain ⟨u, rfl⟩ := hab
  obtain ⟨⟨⟨v, hv, hR, hok⟩, h1, h2⟩, ⟨⟨t3, h3⟩, ⟨t4, h4⟩, t5, h5⟩, hb⟩ := h
  refine ⟨⟨⟨v, hv.other (by omega) u, Kd.R_set hR h3 (by decide) 0 u, hok⟩, h1.other (by omega) u, h2.other (by omega) u⟩, ⟨⟨u, h3.set u⟩, ⟨t4, h4.other (by omega) u⟩, t5, h5.other (by omega) u⟩, below_set hb (by omega)⟩
theorem parX_abs (w : World) (L : List (List UInt8)) (c : Code) (k : Nat) (A B : World) (h : ParX w L c k A) (hab : AbS (w.heap.size + 1 + 1 + 1) A B) : ParX w L c k B := by
  obtain ⟨u, rfl⟩ := hab
  exact ⟨h.1, h.2.1.other (by omega) u, h.2.2.1.other (by omega) u, below_set h.2.2.2 (by omega)⟩
theorem par_out (w : World) (L : List (List UInt8)) (Kp : World → World → Prop) (k : Nat) (W0 W : World) (a : Act) (h0 : KeepsOthers W0 W) (h1 : Boxed W w.heap.size 54 (.slice none 0 0)) (h2 : Boxed W (w.heap.size + 1) 26 (.int .i64 0)) (hB : Below w.heap.size w W) (hX : ¬ ∀ p ∈ L, okS p = true) :
    RoundPost Kp (ParI w L) (ParX w L) k W0 .ret a ((W.setCell ⟨w.heap.size, 0, none⟩ (.slice none 0 0)).setCell ⟨w.heap.size + 1, 0, none⟩ (.int .i64 15)) :=
  ⟨(h0.trans (KeepsOthers.setCell _ _ _)).trans (KeepsOthers.setCell _ _ _), ⟨rfl, hX⟩, (h1.set _).other (by omega) _, ((h2.other (by omega) _).set _), below_set (below_set hB (Nat.le_refl _)) (by omega)⟩
set_option maxRecDepth 100000 in
theorem par_end (w X : World) (D : Nat) (hD : w.heap.size + 1 < D) (tmps : Array Value) (v : Value) (e0 : Int) (r : List S81) (ht2 : tmps.getD 2 undef = .pointer (some ⟨w.heap.size, 0, none⟩)) (ht3 : tmps.getD 3 undef = .pointer (some ⟨w.heap.size + 1, 0, none⟩))
    (hK : X.heap[D]? = some (.deferred (some []))) (g1 : Boxed X w.heap.size 54 v) (g2 : Boxed X (w.heap.size + 1) 26 (.int .i64 e0)) (hR : Kd.R k81 81 X w.heap.size (fun _ => True) v r) (hB : Below w.heap.size w X) :
    bodyPostM Fence.wide 5 Tryd.prog Tryd.f40 (fun e W' => ∃ v, e = .returned (.tuple #[v, .int .i64 e0]) ∧ Kd.R k81 81 W' w.heap.size (fun _ => True) v r ∧ Below w.heap.size w W') Exit.ret { tmps := tmps, defers := [{ target := .collected D, args := #[] }] } X := by
  refine ⟨by simp, .inl ⟨_, _, rfl, run_takeDeferred hK, ?_⟩⟩
  have k1 : Boxed (X.putObj D (.deferred none)) w.heap.size 54 v := (World.putObj_heap_other (by omega)).trans g1
  have k2 : Boxed (X.putObj D (.deferred none)) (w.heap.size + 1) 26 (.int .i64 e0) := (World.putObj_heap_other (by omega)).trans g2
  have c1 := k1.cell
  have c2 := k2.cell
  have hR2 : Kd.R k81 81 (X.putObj D (.deferred none)) w.heap.size (fun _ => True) v r := by
    refine Kd.R_mono (Kd.R_grown (Kd.R_bound hR) (grownBy_putObj' X D (.deferred none)) (fun k hk he => ?_)) (fun _ _ => trivial)
    injection he with he
    subst he
    obtain ⟨_, _, _, q, _, cells, hh⟩ := hk
    rw [hK] at hh
    cases hh
  refine ⟨_, ?_, v, rfl, hR2, hB.trans (belowK_b (w := w) (Nat.le_refl _) X D _ _ (by omega) hK rfl rfl)⟩
  obtain ⟨A, c, hv⟩ := Kd.R_slice hR2
  subst hv
  rw [Array.getD_eq_getD_getElem?] at ht2 ht3
  simp [results, Tryd.results40, go_sem, ht2, ht3, c1, c2]
end Go.Proofs.YtlhnaplmphdhlaaDoor.Q
end
