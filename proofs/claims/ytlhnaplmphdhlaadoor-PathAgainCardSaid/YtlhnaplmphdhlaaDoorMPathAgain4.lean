/- Contracts of Go functions and plain facts, of several texts, one behind the other; no condition. -/
import Derived.Test.YtlhnaplmphdhlaaDoorMPathAgain2
import Derived.Test.YtlhnaplmphdhlaaDoorMPathAgain3
section
namespace Go.Proofs.YtlhnaplmphdhlaaDoor.Q
open Go.RowKit Go.Proofs.YtlhnaplmphdhlaaDoorW.PrintWords Go.Proofs.YtlhnaplmphdhlaaDoorW.PrintLast Go.Proofs.YtlhnaplmphdhlaaDoorW.PrintMore
set_option linter.unusedVariables false
set_option linter.unusedSimpArgs false

attribute [local go_sem] max2_int min2_int max_two min_two max_three min_three max_four min_four
/-! ### tinderref07_Same: function 42 -/
def tinderref07_Same.l0 : Nat → List (S81) → List (S81) → Int → Option (Bool)
  | 0, _, _, _ => none
  | k + 1, x0, x1, x5 => if x5 < (x0.length : Int) then (if 0 ≤ x5 then (if x5 < (x1.length : Int) then (if ((rd_T81 x0 x5).f0).toList = ((rd_T81 x1 x5).f0).toList then (if ((rd_T81 x0 x5).f2).toList = ((rd_T81 x1 x5).f2).toList then ((tinderref03_Same.f k ((rd_T81 x0 x5).f1) ((rd_T81 x1 x5).f1)).bind fun t43007 => (if t43007 = true then (tinderref07_Same.l0 k x0 x1 (wrap64 (x5 + 1))) else (some false))) else (some false)) else (some false)) else (none)) else (none)) else (some true)
def tinderref07_Same.f (k : Nat) (l0 : List (S81)) (l1 : List (S81)) : Option (Bool) := if (l0.length : Int) = (l1.length : Int) then (tinderref07_Same.l0 k l0 l1 0) else (some false)
def tinderref07_Same.T6 : Bool × List (List Nat × List Nat) := (true, [([], []), ([], []), ([0, 1], [0, 1]), ([2], [2]), ([3], [3]), ([], []), ([], []), ([5, 6], [5, 6]), ([7], [7]), ([8], [8]), ([4, 9], [4, 9]), ([10], [10]), ([11], [11]), ([11], [11]), ([12, 13, 11], [11, 12, 13]), ([14, 11], [11, 14]), ([15, 11], [11, 15]), ([11], [11]), ([11], [11]), ([17, 18, 11], [11, 17, 18]), ([19, 11], [11, 19]), ([20, 11], [11, 20]), ([16, 21, 11], [11, 16, 21]), ([11, 22], [11, 22]), ([23, 11], [23]), ([24], [24]), ([24], [24]), ([25, 26, 24], [24, 25, 26]), ([27, 24], [24, 27]), ([28, 24], [24, 28]), ([24], [24]), ([24], [24]), ([30, 31, 24], [24, 30, 31]), ([32, 24], [24, 32]), ([33, 24], [24, 33]), ([29, 34, 24, 24], [24, 29, 34]), ([35, 24], [24, 35]), ([24, 36], [24, 36])])
def tinderref07_Same.B6 : List Nat := [0, 0, 3, 7, 15, 0, 0, 96, 224, 480, 1023, 2047, 4095, 4095, 16383, 32767, 65535, 4095, 4095, 397311, 921599, 1970175, 4194303, 8388607, 16777215, 33554431, 33554431, 134217727, 268435455, 536870911, 33554431, 33554431, 3254779903, 7549747199, 16139681791, 34359738367, 68719476735, 137438953471]
theorem tinderref07_Same.tab6 : rtab .any (opsOf Tryd.f42 6) = tinderref07_Same.T6 := by kernel_rfl
theorem tinderref07_Same.bits6 : waitsOk tinderref07_Same.T6.2 tinderref07_Same.B6 = true := by kernel_rfl
set_option maxHeartbeats 8000000 in
set_option maxRecDepth 100000 in
theorem tinderref07_Same.calls (k : Nat) (A0 : Option Addr) (c0 : Nat) (l0 : List (S81)) (A1 : Option Addr) (c1 : Nat) (l1 : List (S81)) (r : Bool) (w : World) (hr0 : Kd.C k81 w A0 l0.length l0) (hc0 : l0.length ≤ c0) (hr1 : Kd.C k81 w A1 l1.length l1) (hc1 : l1.length ≤ c1) (h : tinderref07_Same.f k l0 l1 = some r) :
    Calls Tryd.prog 42 #[.slice A0 l0.length c0, .slice A1 l1.length c1] w fun e w' => e = .returned (.bool r) ∧ Below w.heap.size w w' := by
  have HR0 := Aside0.mk hr0
  have HC0 := Aside0.mk hc0
  clear hr0 hc0
  have HR1 := Aside0.mk hr1
  have HC1 := Aside0.mk hc1
  clear hr1 hc1
  have HB := Aside0.mk (Below.refl w.heap.size w)
  have H : (if (l0.length : Int) = (l1.length : Int) then (tinderref07_Same.l0 k l0 l1 0) else (some false)) = some r := h
  clear h
  by_cases c3 : (l0.length : Int) = (l1.length : Int)
  · rw [if_pos c3] at H
    have c3b0 : ((l0.length : Int) == (l1.length : Int)) = true := beq_iff_eq.mpr c3
    have c3b1 : ((l0.length : Int) != (l1.length : Int)) = false := bne_eq_false_iff_eq.mpr c3
    have c3b2 : (l0.length == l1.length) = true := by first | simpa using c3 | (simp at c3 ⊢; omega)
    clear c3
    have H' := Aside0.mk H
    clear H
    go_enter Tryd.func42, Tryd.ntmps42
    go_wp2
    go_loopg [5] k (fun kq v5 w' => ∃ (x5_1 : Int), v5 = .int .i64 x5_1 ∧ Aside0 (tinderref07_Same.l0 kq l0 l1 x5_1 = some r) ∧ Aside0 (kq ≤ k) ∧ Aside0 (Below w.heap.size w w'))
    case atStart => exact ⟨(0), (by first | rfl | (simp; done) | (simp [*]; done)), H', ⟨Nat.le_refl _⟩, ⟨by repeat (first | (with_reducible first | exact HB.out | apply below_alloc | apply pw_below_drewN | apply below_drew1) | exact HB.out)⟩⟩
    case round =>
      clear H'
      try clear c1
      try clear p2
      try clear c3
      try clear c3b0
      try clear c3b1
      try clear c3b2
      obtain ⟨x5_1, rfl, HA, HK1, HB⟩ := hrel
      cases gk with
      | zero => exact absurd HA.out (by simp [tinderref07_Same.l0])
      | succ k1 =>
        have H := HA.out
        clear HA
        simp only [tinderref07_Same.l0] at H
        by_cases c4 : x5_1 < (l0.length : Int)
        · rw [if_pos c4] at H
          have c4b0 : decide (x5_1 < (l0.length : Int)) = true := decide_eq_true c4
          clear c4
          by_cases c5 : 0 ≤ x5_1
          · rw [if_pos c5] at H
            have c5b0 : decide (0 ≤ x5_1) = true := decide_eq_true c5
            clear c5
            by_cases c6 : x5_1 < (l1.length : Int)
            · rw [if_pos c6] at H
              have c6b0 : decide (x5_1 < (l1.length : Int)) = true := decide_eq_true c6
              clear c6
              by_cases c7 : ((rd_T81 l0 x5_1).f0).toList = ((rd_T81 l1 x5_1).f0).toList
              · rw [if_pos c7] at H
                have c7b0 : (((rd_T81 l0 x5_1).f0).toList == ((rd_T81 l1 x5_1).f0).toList) = true := beq_iff_eq.mpr c7
                have c7b1 : (((rd_T81 l0 x5_1).f0).toList != ((rd_T81 l1 x5_1).f0).toList) = false := bne_eq_false_iff_eq.mpr c7
                clear c7
                by_cases c8 : ((rd_T81 l0 x5_1).f2).toList = ((rd_T81 l1 x5_1).f2).toList
                · rw [if_pos c8] at H
                  have c8b0 : (((rd_T81 l0 x5_1).f2).toList == ((rd_T81 l1 x5_1).f2).toList) = true := beq_iff_eq.mpr c8
                  have c8b1 : (((rd_T81 l0 x5_1).f2).toList != ((rd_T81 l1 x5_1).f2).toList) = false := bne_eq_false_iff_eq.mpr c8
                  clear c8
                  replace H := Option.bind_eq_some_iff.mp H
                  obtain ⟨t43007, A90, H⟩ := H
                  replace H : (if t43007 = true then (tinderref07_Same.l0 k1 l0 l1 (wrap64 (x5_1 + 1))) else (some false)) = some r := H
                  have A9 := Aside0.mk A90
                  clear A90
                  by_cases c10 : t43007 = true
                  · subst c10
                    have H1 : (tinderref07_Same.l0 k1 l0 l1 (wrap64 (x5_1 + 1))) = some r := by rw [if_pos rfl] at H; exact H
                    clear H
                    have H := H1
                    clear H1
                    have H' := Aside0.mk H
                    clear H
                    try go_wp2
                    have n0_ := Aside0.mk (below_drew1 HB.out)
                    clear HB
                    have HB := n0_
                    clear n0_
                    have p43001 : 0 ≤ (x5_1 : Int) := of_decide_eq_true (by first | (with_reducible assumption) | assumption)
                    have q43001 : x5_1 < (l0.length : Int) := of_decide_eq_true (by first | (with_reducible assumption) | assumption)
                    obtain ⟨ad43001, A43001_1, c43001_1, e43001, hx43001_0, hx43001_1, hx43001_2, hl43001_1, hi43001_1⟩ := at_T81 HR0.out x5_1 p43001 q43001
                    have hw43001_2 := hx43001_2
                    have hw43001_1 := hx43001_1
                    have hw43001_0 := hx43001_0
                    cases e43001
                    replace hx43001_0 := (HB.out.cell (World.block_lt_of_cell? w _ hx43001_0)).trans hx43001_0
                    replace hx43001_1 := (HB.out.cell (World.block_lt_of_cell? w _ hx43001_1)).trans hx43001_1
                    replace hx43001_2 := (HB.out.cell (World.block_lt_of_cell? w _ hx43001_2)).trans hx43001_2
                    have HR43001_1 := Aside0.mk hi43001_1
                    have HC43001_1 := Aside0.mk hl43001_1
                    clear hi43001_1 hl43001_1
                    replace p43001 := eq_true p43001
                    replace q43001 := eq_true q43001
                    have p43002 : 0 ≤ (x5_1 : Int) := of_decide_eq_true (by first | (with_reducible assumption) | assumption)
                    have q43002 : x5_1 < (l1.length : Int) := of_decide_eq_true (by first | (with_reducible assumption) | assumption)
                    obtain ⟨ad43002, A43002_1, c43002_1, e43002, hx43002_0, hx43002_1, hx43002_2, hl43002_1, hi43002_1⟩ := at_T81 HR1.out x5_1 p43002 q43002
                    have hw43002_2 := hx43002_2
                    have hw43002_1 := hx43002_1
                    have hw43002_0 := hx43002_0
                    cases e43002
                    replace hx43002_0 := (HB.out.cell (World.block_lt_of_cell? w _ hx43002_0)).trans hx43002_0
                    replace hx43002_1 := (HB.out.cell (World.block_lt_of_cell? w _ hx43002_1)).trans hx43002_1
                    replace hx43002_2 := (HB.out.cell (World.block_lt_of_cell? w _ hx43002_2)).trans hx43002_2
                    have HR43002_1 := Aside0.mk hi43002_1
                    have HC43002_1 := Aside0.mk hl43002_1
                    clear hi43002_1 hl43002_1
                    replace p43002 := eq_true p43002
                    replace q43002 := eq_true q43002
                    have p43003 : 0 ≤ (x5_1 : Int) := of_decide_eq_true (by first | (with_reducible assumption) | assumption)
                    have q43003 : x5_1 < (l0.length : Int) := of_decide_eq_true (by first | (with_reducible assumption) | assumption)
                    obtain ⟨ad43003, A43003_1, c43003_1, e43003, hx43003_0, hx43003_1, hx43003_2, hl43003_1, hi43003_1⟩ := at_T81 HR0.out x5_1 p43003 q43003
                    have hw43003_2 := hx43003_2
                    have hw43003_1 := hx43003_1
                    have hw43003_0 := hx43003_0
                    obtain rfl : ad43001 = ad43003 := (by injection e43003)
                    replace hx43003_0 := (HB.out.cell (World.block_lt_of_cell? w _ hx43003_0)).trans hx43003_0
                    replace hx43003_1 := (HB.out.cell (World.block_lt_of_cell? w _ hx43003_1)).trans hx43003_1
                    replace hx43003_2 := (HB.out.cell (World.block_lt_of_cell? w _ hx43003_2)).trans hx43003_2
                    have HR43003_1 := Aside0.mk hi43003_1
                    have HC43003_1 := Aside0.mk hl43003_1
                    clear hi43003_1 hl43003_1
                    replace p43003 := eq_true p43003
                    replace q43003 := eq_true q43003
                    have ea_ := Option.some.inj (hx43001_1.symm.trans hx43003_1)
                    injection ea_ with ea_ en_ ec_
                    subst ea_
                    subst ec_
                    clear en_
                    have p43004 : 0 ≤ (x5_1 : Int) := of_decide_eq_true (by first | (with_reducible assumption) | assumption)
                    have q43004 : x5_1 < (l1.length : Int) := of_decide_eq_true (by first | (with_reducible assumption) | assumption)
                    obtain ⟨ad43004, A43004_1, c43004_1, e43004, hx43004_0, hx43004_1, hx43004_2, hl43004_1, hi43004_1⟩ := at_T81 HR1.out x5_1 p43004 q43004
                    have hw43004_2 := hx43004_2
                    have hw43004_1 := hx43004_1
                    have hw43004_0 := hx43004_0
                    obtain rfl : ad43002 = ad43004 := (by injection e43004)
                    replace hx43004_0 := (HB.out.cell (World.block_lt_of_cell? w _ hx43004_0)).trans hx43004_0
                    replace hx43004_1 := (HB.out.cell (World.block_lt_of_cell? w _ hx43004_1)).trans hx43004_1
                    replace hx43004_2 := (HB.out.cell (World.block_lt_of_cell? w _ hx43004_2)).trans hx43004_2
                    have HR43004_1 := Aside0.mk hi43004_1
                    have HC43004_1 := Aside0.mk hl43004_1
                    clear hi43004_1 hl43004_1
                    replace p43004 := eq_true p43004
                    replace q43004 := eq_true q43004
                    have ea_ := Option.some.inj (hx43002_1.symm.trans hx43004_1)
                    injection ea_ with ea_ en_ ec_
                    subst ea_
                    subst ec_
                    clear en_
                    have p43005 : 0 ≤ (x5_1 : Int) := of_decide_eq_true (by first | (with_reducible assumption) | assumption)
                    have q43005 : x5_1 < (l0.length : Int) := of_decide_eq_true (by first | (with_reducible assumption) | assumption)
                    obtain ⟨ad43005, A43005_1, c43005_1, e43005, hx43005_0, hx43005_1, hx43005_2, hl43005_1, hi43005_1⟩ := at_T81 HR0.out x5_1 p43005 q43005
                    have hw43005_2 := hx43005_2
                    have hw43005_1 := hx43005_1
                    have hw43005_0 := hx43005_0
                    obtain rfl : ad43001 = ad43005 := (by injection e43005)
                    replace hx43005_0 := (HB.out.cell (World.block_lt_of_cell? w _ hx43005_0)).trans hx43005_0
                    replace hx43005_1 := (HB.out.cell (World.block_lt_of_cell? w _ hx43005_1)).trans hx43005_1
                    replace hx43005_2 := (HB.out.cell (World.block_lt_of_cell? w _ hx43005_2)).trans hx43005_2
                    have HR43005_1 := Aside0.mk hi43005_1
                    have HC43005_1 := Aside0.mk hl43005_1
                    clear hi43005_1 hl43005_1
                    replace p43005 := eq_true p43005
                    replace q43005 := eq_true q43005
                    have ea_ := Option.some.inj (hx43001_1.symm.trans hx43005_1)
                    injection ea_ with ea_ en_ ec_
                    subst ea_
                    subst ec_
                    clear en_
                    have p43006 : 0 ≤ (x5_1 : Int) := of_decide_eq_true (by first | (with_reducible assumption) | assumption)
                    have q43006 : x5_1 < (l1.length : Int) := of_decide_eq_true (by first | (with_reducible assumption) | assumption)
                    obtain ⟨ad43006, A43006_1, c43006_1, e43006, hx43006_0, hx43006_1, hx43006_2, hl43006_1, hi43006_1⟩ := at_T81 HR1.out x5_1 p43006 q43006
                    have hw43006_2 := hx43006_2
                    have hw43006_1 := hx43006_1
                    have hw43006_0 := hx43006_0
                    obtain rfl : ad43002 = ad43006 := (by injection e43006)
                    replace hx43006_0 := (HB.out.cell (World.block_lt_of_cell? w _ hx43006_0)).trans hx43006_0
                    replace hx43006_1 := (HB.out.cell (World.block_lt_of_cell? w _ hx43006_1)).trans hx43006_1
                    replace hx43006_2 := (HB.out.cell (World.block_lt_of_cell? w _ hx43006_2)).trans hx43006_2
                    have HR43006_1 := Aside0.mk hi43006_1
                    have HC43006_1 := Aside0.mk hl43006_1
                    clear hi43006_1 hl43006_1
                    replace p43006 := eq_true p43006
                    replace q43006 := eq_true q43006
                    have ea_ := Option.some.inj (hx43002_1.symm.trans hx43006_1)
                    injection ea_ with ea_ en_ ec_
                    subst ea_
                    subst ec_
                    clear en_
                    refine start_ (n := 38) (S := fun w' => w'.cell? (ad43001.add ((x5_1).toNat * 3)) = some (.string ((rd_T81 l0 x5_1).f0)) ∧ w'.cell? ⟨(ad43001.add ((x5_1).toNat * 3)).block, (ad43001.add ((x5_1).toNat * 3)).off + 1, none⟩ = some (.slice A43001_1 ((rd_T81 l0 x5_1).f1).length c43001_1) ∧ w'.cell? ⟨(ad43001.add ((x5_1).toNat * 3)).block, (ad43001.add ((x5_1).toNat * 3)).off + 2, none⟩ = some (.string ((rd_T81 l0 x5_1).f2)) ∧ w'.cell? (ad43002.add ((x5_1).toNat * 3)) = some (.string ((rd_T81 l1 x5_1).f0)) ∧ w'.cell? ⟨(ad43002.add ((x5_1).toNat * 3)).block, (ad43002.add ((x5_1).toNat * 3)).off + 1, none⟩ = some (.slice A43002_1 ((rd_T81 l1 x5_1).f1).length c43002_1) ∧ w'.cell? ⟨(ad43002.add ((x5_1).toNat * 3)).block, (ad43002.add ((x5_1).toNat * 3)).off + 2, none⟩ = some (.string ((rd_T81 l1 x5_1).f2)) ∧ w'.cell? (ad43001.add ((x5_1).toNat * 3)) = some (.string ((rd_T81 l0 x5_1).f0)) ∧ w'.cell? ⟨(ad43001.add ((x5_1).toNat * 3)).block, (ad43001.add ((x5_1).toNat * 3)).off + 1, none⟩ = some (.slice A43001_1 ((rd_T81 l0 x5_1).f1).length c43001_1) ∧ w'.cell? ⟨(ad43001.add ((x5_1).toNat * 3)).block, (ad43001.add ((x5_1).toNat * 3)).off + 2, none⟩ = some (.string ((rd_T81 l0 x5_1).f2)) ∧ w'.cell? (ad43002.add ((x5_1).toNat * 3)) = some (.string ((rd_T81 l1 x5_1).f0)) ∧ w'.cell? ⟨(ad43002.add ((x5_1).toNat * 3)).block, (ad43002.add ((x5_1).toNat * 3)).off + 1, none⟩ = some (.slice A43002_1 ((rd_T81 l1 x5_1).f1).length c43002_1) ∧ w'.cell? ⟨(ad43002.add ((x5_1).toNat * 3)).block, (ad43002.add ((x5_1).toNat * 3)).off + 2, none⟩ = some (.string ((rd_T81 l1 x5_1).f2)) ∧ w'.cell? (ad43001.add ((x5_1).toNat * 3)) = some (.string ((rd_T81 l0 x5_1).f0)) ∧ w'.cell? ⟨(ad43001.add ((x5_1).toNat * 3)).block, (ad43001.add ((x5_1).toNat * 3)).off + 1, none⟩ = some (.slice A43001_1 ((rd_T81 l0 x5_1).f1).length c43001_1) ∧ w'.cell? ⟨(ad43001.add ((x5_1).toNat * 3)).block, (ad43001.add ((x5_1).toNat * 3)).off + 2, none⟩ = some (.string ((rd_T81 l0 x5_1).f2)) ∧ w'.cell? (ad43002.add ((x5_1).toNat * 3)) = some (.string ((rd_T81 l1 x5_1).f0)) ∧ w'.cell? ⟨(ad43002.add ((x5_1).toNat * 3)).block, (ad43002.add ((x5_1).toNat * 3)).off + 1, none⟩ = some (.slice A43002_1 ((rd_T81 l1 x5_1).f1).length c43002_1) ∧ w'.cell? ⟨(ad43002.add ((x5_1).toNat * 3)).block, (ad43002.add ((x5_1).toNat * 3)).off + 2, none⟩ = some (.string ((rd_T81 l1 x5_1).f2))) (ds := []) #[false, false, false, false, false, false, false, false, false, false, false, false, false, false, false, false, false, false, false, false, false, false, false, false, false, false, false, false, false, false, false, false, false, false, false, false, false, false] (by kernel_rfl) rfl rfl ⟨((HB.out.cell (World.block_lt_of_cell? w _ hw43001_0)).trans hw43001_0), ((HB.out.cell (World.block_lt_of_cell? w _ hw43001_1)).trans hw43001_1), ((HB.out.cell (World.block_lt_of_cell? w _ hw43001_2)).trans hw43001_2), ((HB.out.cell (World.block_lt_of_cell? w _ hw43002_0)).trans hw43002_0), ((HB.out.cell (World.block_lt_of_cell? w _ hw43002_1)).trans hw43002_1), ((HB.out.cell (World.block_lt_of_cell? w _ hw43002_2)).trans hw43002_2), ((HB.out.cell (World.block_lt_of_cell? w _ hw43003_0)).trans hw43003_0), ((HB.out.cell (World.block_lt_of_cell? w _ hw43003_1)).trans hw43003_1), ((HB.out.cell (World.block_lt_of_cell? w _ hw43003_2)).trans hw43003_2), ((HB.out.cell (World.block_lt_of_cell? w _ hw43004_0)).trans hw43004_0), ((HB.out.cell (World.block_lt_of_cell? w _ hw43004_1)).trans hw43004_1), ((HB.out.cell (World.block_lt_of_cell? w _ hw43004_2)).trans hw43004_2), ((HB.out.cell (World.block_lt_of_cell? w _ hw43005_0)).trans hw43005_0), ((HB.out.cell (World.block_lt_of_cell? w _ hw43005_1)).trans hw43005_1), ((HB.out.cell (World.block_lt_of_cell? w _ hw43005_2)).trans hw43005_2), ((HB.out.cell (World.block_lt_of_cell? w _ hw43006_0)).trans hw43006_0), ((HB.out.cell (World.block_lt_of_cell? w _ hw43006_1)).trans hw43006_1), ((HB.out.cell (World.block_lt_of_cell? w _ hw43006_2)).trans hw43006_2)⟩ (fun hHeld => ?_); refine with_tabW tinderref07_Same.tab6 tinderref07_Same.bits6 (fun HT_ HW_ => ?_)
                    generalize wr.drew = w11 at HB HR43001_1 HR43002_1 HR43003_1 HR43004_1 HR43005_1 HR43006_1 hx43001_0 hx43001_1 hx43001_2 hx43002_0 hx43002_1 hx43002_2 hx43003_0 hx43003_1 hx43003_2 hx43004_0 hx43004_1 hx43004_2 hx43005_0 hx43005_1 hx43005_2 hx43006_0 hx43006_1 hx43006_2 hHeld ⊢
                    refine pure_ (i := 0) (N := some 17) (v := ?_) (a' := ?_) #[true, false, false, false, false, false, false, false, false, false, false, false, false, false, false, false, false, false, false, false, false, false, false, false, false, false, false, false, false, false, false, false, false, false, false, false, false, false] rfl rfl (any_of HT_.out (by kernel_rfl)) (fun _ _ _ h => h) (Or.inl ⟨by rfl, ?_⟩) ?_ ?_
                    rotate_left
                    · intro w'
                      go_simp
                      with_reducible rfl
                    rotate_left
                    · simp only [Act.put, List.setIfInBounds_toArray, List.set_cons_zero, List.set_cons_succ, i64_w, i32_w]
                      rfl
                    refine pure_ (i := 1) (N := some 18) (v := ?_) (a' := ?_) #[true, true, false, false, false, false, false, false, false, false, false, false, false, false, false, false, false, false, false, false, false, false, false, false, false, false, false, false, false, false, false, false, false, false, false, false, false, false] rfl rfl (any_of HT_.out (by kernel_rfl)) (fun _ _ _ h => h) (Or.inl ⟨by rfl, ?_⟩) ?_ ?_
                    rotate_left
                    · intro w'
                      go_simp
                      with_reducible rfl
                    rotate_left
                    · simp only [Act.put, List.setIfInBounds_toArray, List.set_cons_zero, List.set_cons_succ, i64_w, i32_w]
                      rfl
                    refine pure_ (i := 2) (N := some 19) (v := ?_) (a' := ?_) #[true, true, true, false, false, false, false, false, false, false, false, false, false, false, false, false, false, false, false, false, false, false, false, false, false, false, false, false, false, false, false, false, false, false, false, false, false, false] rfl rfl (any_of HT_.out (by kernel_rfl)) (fun _ _ _ h => h) (Or.inl ⟨by rfl, ?_⟩) ?_ ?_
                    rotate_left
                    · intro w'
                      go_simp
                      with_reducible rfl
                    rotate_left
                    · simp only [Act.put, List.setIfInBounds_toArray, List.set_cons_zero, List.set_cons_succ, i64_w, i32_w]
                      rfl
                    refine pure_ (i := 3) (N := some 20) (v := ?_) (a' := ?_) #[true, true, true, true, false, false, false, false, false, false, false, false, false, false, false, false, false, false, false, false, false, false, false, false, false, false, false, false, false, false, false, false, false, false, false, false, false, false] rfl rfl (any_of HT_.out (by kernel_rfl)) (fun _ _ _ h => h) (Or.inl ⟨by rfl, ?_⟩) ?_ ?_
                    rotate_left
                    · intro w'
                      go_simp
                      with_reducible rfl
                    rotate_left
                    · simp only [Act.put, List.setIfInBounds_toArray, List.set_cons_zero, List.set_cons_succ, i64_w, i32_w]
                      rfl
                    refine pure_ (i := 5) (N := some 22) (v := ?_) (a' := ?_) #[true, true, true, true, false, true, false, false, false, false, false, false, false, false, false, false, false, false, false, false, false, false, false, false, false, false, false, false, false, false, false, false, false, false, false, false, false, false] rfl rfl (any_of HT_.out (by kernel_rfl)) (fun _ _ _ h => h) (Or.inl ⟨by rfl, ?_⟩) ?_ ?_
                    rotate_left
                    · intro w'
                      go_simp
                      with_reducible rfl
                    rotate_left
                    · simp only [Act.put, List.setIfInBounds_toArray, List.set_cons_zero, List.set_cons_succ, i64_w, i32_w]
                      rfl
                    refine pure_ (i := 6) (N := some 23) (v := ?_) (a' := ?_) #[true, true, true, true, false, true, true, false, false, false, false, false, false, false, false, false, false, false, false, false, false, false, false, false, false, false, false, false, false, false, false, false, false, false, false, false, false, false] rfl rfl (any_of HT_.out (by kernel_rfl)) (fun _ _ _ h => h) (Or.inl ⟨by rfl, ?_⟩) ?_ ?_
                    rotate_left
                    · intro w'
                      go_simp
                      with_reducible rfl
                    rotate_left
                    · simp only [Act.put, List.setIfInBounds_toArray, List.set_cons_zero, List.set_cons_succ, i64_w, i32_w]
                      rfl
                    refine pure_ (i := 7) (N := some 24) (v := ?_) (a' := ?_) #[true, true, true, true, false, true, true, true, false, false, false, false, false, false, false, false, false, false, false, false, false, false, false, false, false, false, false, false, false, false, false, false, false, false, false, false, false, false] rfl rfl (any_of HT_.out (by kernel_rfl)) (fun _ _ _ h => h) (Or.inl ⟨by rfl, ?_⟩) ?_ ?_
                    rotate_left
                    · intro w'
                      go_simp
                      with_reducible rfl
                    rotate_left
                    · simp only [Act.put, List.setIfInBounds_toArray, List.set_cons_zero, List.set_cons_succ, i64_w, i32_w]
                      rfl
                    refine pure_ (i := 8) (N := some 25) (v := ?_) (a' := ?_) #[true, true, true, true, false, true, true, true, true, false, false, false, false, false, false, false, false, false, false, false, false, false, false, false, false, false, false, false, false, false, false, false, false, false, false, false, false, false] rfl rfl (any_of HT_.out (by kernel_rfl)) (fun _ _ _ h => h) (Or.inl ⟨by rfl, ?_⟩) ?_ ?_
                    rotate_left
                    · intro w'
                      go_simp
                      with_reducible rfl
                    rotate_left
                    · simp only [Act.put, List.setIfInBounds_toArray, List.set_cons_zero, List.set_cons_succ, i64_w, i32_w]
                      rfl
                    refine take_ (i := 4) (N := some 21) (v := ?_) (a' := ?_) #[true, true, true, true, true, true, true, true, true, false, false, false, false, false, false, false, false, false, false, false, false, false, false, false, false, false, false, false, false, false, false, false, false, false, false, false, false, false] rfl rfl (take_ofW HT_.out HW_.out (by kernel_rfl)) (fun _ _ _ h => h) (Or.inl ⟨by rfl, ?_⟩) hHeld ?_ ?_
                    rotate_left
                    · rintro w' ⟨s0, s1, s2, s3, s4, s5, s6, s7, s8, s9, s10, s11, s12, s13, s14, s15, s16, s17⟩
                      go_simp
                      with_reducible rfl
                    rotate_left
                    · simp only [Act.put, List.setIfInBounds_toArray, List.set_cons_zero, List.set_cons_succ, i64_w, i32_w]
                      rfl
                    refine take_ (i := 9) (N := some 26) (v := ?_) (a' := ?_) #[true, true, true, true, true, true, true, true, true, true, false, false, false, false, false, false, false, false, false, false, false, false, false, false, false, false, false, false, false, false, false, false, false, false, false, false, false, false] rfl rfl (take_ofW HT_.out HW_.out (by kernel_rfl)) (fun _ _ _ h => h) (Or.inl ⟨by rfl, ?_⟩) hHeld ?_ ?_
                    rotate_left
                    · rintro w' ⟨s0, s1, s2, s3, s4, s5, s6, s7, s8, s9, s10, s11, s12, s13, s14, s15, s16, s17⟩
                      go_simp
                      with_reducible rfl
                    rotate_left
                    · simp only [Act.put, List.setIfInBounds_toArray, List.set_cons_zero, List.set_cons_succ, i64_w, i32_w]
                      rfl
                    refine pure_ (i := 10) (N := some 27) (v := ?_) (a' := ?_) #[true, true, true, true, true, true, true, true, true, true, true, false, false, false, false, false, false, false, false, false, false, false, false, false, false, false, false, false, false, false, false, false, false, false, false, false, false, false] rfl rfl (any_of HT_.out (by kernel_rfl)) (fun _ _ _ h => h) (Or.inl ⟨by rfl, ?_⟩) ?_ ?_
                    rotate_left
                    · intro w'
                      go_simp
                      with_reducible rfl
                    rotate_left
                    · simp only [Act.put, List.setIfInBounds_toArray, List.set_cons_zero, List.set_cons_succ, i64_w, i32_w]
                      rfl
                    refine pure_ (i := 11) (N := some 28) (v := ?_) (a' := ?_) #[true, true, true, true, true, true, true, true, true, true, true, true, false, false, false, false, false, false, false, false, false, false, false, false, false, false, false, false, false, false, false, false, false, false, false, false, false, false] rfl rfl (any_of HT_.out (by kernel_rfl)) (fun _ _ _ h => h) (Or.inl ⟨by rfl, ?_⟩) ?_ ?_
                    rotate_left
                    · intro w'
                      go_simp
                      with_reducible rfl
                    rotate_left
                    · simp only [Act.put, List.setIfInBounds_toArray, List.set_cons_zero, List.set_cons_succ, i64_w, i32_w]
                      rfl
                    refine pure_ (i := 12) (N := some 29) (v := ?_) (a' := ?_) #[true, true, true, true, true, true, true, true, true, true, true, true, true, false, false, false, false, false, false, false, false, false, false, false, false, false, false, false, false, false, false, false, false, false, false, false, false, false] rfl rfl (any_of HT_.out (by kernel_rfl)) (fun _ _ _ h => h) (Or.inl ⟨by rfl, ?_⟩) ?_ ?_
                    rotate_left
                    · intro w'
                      go_simp
                      with_reducible rfl
                    rotate_left
                    · simp only [Act.put, List.setIfInBounds_toArray, List.set_cons_zero, List.set_cons_succ, i64_w, i32_w]
                      rfl
                    refine pure_ (i := 13) (N := some 30) (v := ?_) (a' := ?_) #[true, true, true, true, true, true, true, true, true, true, true, true, true, true, false, false, false, false, false, false, false, false, false, false, false, false, false, false, false, false, false, false, false, false, false, false, false, false] rfl rfl (any_of HT_.out (by kernel_rfl)) (fun _ _ _ h => h) (Or.inl ⟨by rfl, ?_⟩) ?_ ?_
                    rotate_left
                    · intro w'
                      go_simp
                      with_reducible rfl
                    rotate_left
                    · simp only [Act.put, List.setIfInBounds_toArray, List.set_cons_zero, List.set_cons_succ, i64_w, i32_w]
                      rfl
                    refine pure_ (i := 14) (N := some 31) (v := ?_) (a' := ?_) #[true, true, true, true, true, true, true, true, true, true, true, true, true, true, true, false, false, false, false, false, false, false, false, false, false, false, false, false, false, false, false, false, false, false, false, false, false, false] rfl rfl (any_of HT_.out (by kernel_rfl)) (fun _ _ _ h => h) (Or.inl ⟨by rfl, ?_⟩) ?_ ?_
                    rotate_left
                    · intro w'
                      go_simp
                      with_reducible rfl
                    rotate_left
                    · simp only [Act.put, List.setIfInBounds_toArray, List.set_cons_zero, List.set_cons_succ, i64_w, i32_w]
                      rfl
                    refine pure_ (i := 15) (N := some 32) (v := ?_) (a' := ?_) #[true, true, true, true, true, true, true, true, true, true, true, true, true, true, true, true, false, false, false, false, false, false, false, false, false, false, false, false, false, false, false, false, false, false, false, false, false, false] rfl rfl (any_of HT_.out (by kernel_rfl)) (fun _ _ _ h => h) (Or.inl ⟨by rfl, ?_⟩) ?_ ?_
                    rotate_left
                    · intro w'
                      go_simp
                      with_reducible rfl
                    rotate_left
                    · simp only [Act.put, List.setIfInBounds_toArray, List.set_cons_zero, List.set_cons_succ, i64_w, i32_w]
                      rfl
                    refine pure_ (i := 17) (N := some 34) (v := ?_) (a' := ?_) #[true, true, true, true, true, true, true, true, true, true, true, true, true, true, true, true, false, true, false, false, false, false, false, false, false, false, false, false, false, false, false, false, false, false, false, false, false, false] rfl rfl (any_of HT_.out (by kernel_rfl)) (fun _ _ _ h => h) (Or.inl ⟨by rfl, ?_⟩) ?_ ?_
                    rotate_left
                    · intro w'
                      go_simp
                      with_reducible rfl
                    rotate_left
                    · simp only [Act.put, List.setIfInBounds_toArray, List.set_cons_zero, List.set_cons_succ, i64_w, i32_w]
                      rfl
                    refine pure_ (i := 18) (N := some 35) (v := ?_) (a' := ?_) #[true, true, true, true, true, true, true, true, true, true, true, true, true, true, true, true, false, true, true, false, false, false, false, false, false, false, false, false, false, false, false, false, false, false, false, false, false, false] rfl rfl (any_of HT_.out (by kernel_rfl)) (fun _ _ _ h => h) (Or.inl ⟨by rfl, ?_⟩) ?_ ?_
                    rotate_left
                    · intro w'
                      go_simp
                      with_reducible rfl
                    rotate_left
                    · simp only [Act.put, List.setIfInBounds_toArray, List.set_cons_zero, List.set_cons_succ, i64_w, i32_w]
                      rfl
                    refine pure_ (i := 19) (N := some 36) (v := ?_) (a' := ?_) #[true, true, true, true, true, true, true, true, true, true, true, true, true, true, true, true, false, true, true, true, false, false, false, false, false, false, false, false, false, false, false, false, false, false, false, false, false, false] rfl rfl (any_of HT_.out (by kernel_rfl)) (fun _ _ _ h => h) (Or.inl ⟨by rfl, ?_⟩) ?_ ?_
                    rotate_left
                    · intro w'
                      go_simp
                      with_reducible rfl
                    rotate_left
                    · simp only [Act.put, List.setIfInBounds_toArray, List.set_cons_zero, List.set_cons_succ, i64_w, i32_w]
                      rfl
                    refine pure_ (i := 20) (N := some 37) (v := ?_) (a' := ?_) #[true, true, true, true, true, true, true, true, true, true, true, true, true, true, true, true, false, true, true, true, true, false, false, false, false, false, false, false, false, false, false, false, false, false, false, false, false, false] rfl rfl (any_of HT_.out (by kernel_rfl)) (fun _ _ _ h => h) (Or.inl ⟨by rfl, ?_⟩) ?_ ?_
                    rotate_left
                    · intro w'
                      go_simp
                      with_reducible rfl
                    rotate_left
                    · simp only [Act.put, List.setIfInBounds_toArray, List.set_cons_zero, List.set_cons_succ, i64_w, i32_w]
                      rfl
                    refine take_ (i := 16) (N := some 33) (v := ?_) (a' := ?_) #[true, true, true, true, true, true, true, true, true, true, true, true, true, true, true, true, true, true, true, true, true, false, false, false, false, false, false, false, false, false, false, false, false, false, false, false, false, false] rfl rfl (take_ofW HT_.out HW_.out (by kernel_rfl)) (fun _ _ _ h => h) (Or.inl ⟨by rfl, ?_⟩) hHeld ?_ ?_
                    rotate_left
                    · rintro w' ⟨s0, s1, s2, s3, s4, s5, s6, s7, s8, s9, s10, s11, s12, s13, s14, s15, s16, s17⟩
                      go_simp
                      with_reducible rfl
                    rotate_left
                    · simp only [Act.put, List.setIfInBounds_toArray, List.set_cons_zero, List.set_cons_succ, i64_w, i32_w]
                      rfl
                    refine take_ (i := 21) (N := some 38) (v := ?_) (a' := ?_) #[true, true, true, true, true, true, true, true, true, true, true, true, true, true, true, true, true, true, true, true, true, true, false, false, false, false, false, false, false, false, false, false, false, false, false, false, false, false] rfl rfl (take_ofW HT_.out HW_.out (by kernel_rfl)) (fun _ _ _ h => h) (Or.inl ⟨by rfl, ?_⟩) hHeld ?_ ?_
                    rotate_left
                    · rintro w' ⟨s0, s1, s2, s3, s4, s5, s6, s7, s8, s9, s10, s11, s12, s13, s14, s15, s16, s17⟩
                      go_simp
                      with_reducible rfl
                    rotate_left
                    · simp only [Act.put, List.setIfInBounds_toArray, List.set_cons_zero, List.set_cons_succ, i64_w, i32_w]
                      rfl
                    refine pure_ (i := 22) (N := some 39) (v := ?_) (a' := ?_) #[true, true, true, true, true, true, true, true, true, true, true, true, true, true, true, true, true, true, true, true, true, true, true, false, false, false, false, false, false, false, false, false, false, false, false, false, false, false] rfl rfl (any_of HT_.out (by kernel_rfl)) (fun _ _ _ h => h) (Or.inl ⟨by rfl, ?_⟩) ?_ ?_
                    rotate_left
                    · intro w'
                      go_simp
                      with_reducible rfl
                    rotate_left
                    · simp only [Act.put, List.setIfInBounds_toArray, List.set_cons_zero, List.set_cons_succ, i64_w, i32_w]
                      rfl
                    refine pure_ (i := 23) (N := some 40) (v := ?_) (a' := ?_) #[true, true, true, true, true, true, true, true, true, true, true, true, true, true, true, true, true, true, true, true, true, true, true, true, false, false, false, false, false, false, false, false, false, false, false, false, false, false] rfl rfl (any_of HT_.out (by kernel_rfl)) (fun _ _ _ h => h) (Or.inl ⟨by rfl, ?_⟩) ?_ ?_
                    rotate_left
                    · intro w'
                      go_simp
                      with_reducible rfl
                    rotate_left
                    · simp only [Act.put, List.setIfInBounds_toArray, List.set_cons_zero, List.set_cons_succ, i64_w, i32_w]
                      rfl
                    refine pure_ (i := 24) (N := some 41) (v := ?_) (a' := ?_) #[true, true, true, true, true, true, true, true, true, true, true, true, true, true, true, true, true, true, true, true, true, true, true, true, true, false, false, false, false, false, false, false, false, false, false, false, false, false] rfl rfl (any_of HT_.out (by kernel_rfl)) (fun _ _ _ h => h) (Or.inl ⟨by rfl, ?_⟩) ?_ ?_
                    rotate_left
                    · intro w'
                      go_simp
                      with_reducible rfl
                    rotate_left
                    · simp only [Act.put, List.setIfInBounds_toArray, List.set_cons_zero, List.set_cons_succ, i64_w, i32_w]
                      rfl
                    refine pure_ (i := 25) (N := some 42) (v := ?_) (a' := ?_) #[true, true, true, true, true, true, true, true, true, true, true, true, true, true, true, true, true, true, true, true, true, true, true, true, true, true, false, false, false, false, false, false, false, false, false, false, false, false] rfl rfl (any_of HT_.out (by kernel_rfl)) (fun _ _ _ h => h) (Or.inl ⟨by rfl, ?_⟩) ?_ ?_
                    rotate_left
                    · intro w'
                      go_simp
                      with_reducible rfl
                    rotate_left
                    · simp only [Act.put, List.setIfInBounds_toArray, List.set_cons_zero, List.set_cons_succ, i64_w, i32_w]
                      rfl
                    refine pure_ (i := 26) (N := some 43) (v := ?_) (a' := ?_) #[true, true, true, true, true, true, true, true, true, true, true, true, true, true, true, true, true, true, true, true, true, true, true, true, true, true, true, false, false, false, false, false, false, false, false, false, false, false] rfl rfl (any_of HT_.out (by kernel_rfl)) (fun _ _ _ h => h) (Or.inl ⟨by rfl, ?_⟩) ?_ ?_
                    rotate_left
                    · intro w'
                      go_simp
                      with_reducible rfl
                    rotate_left
                    · simp only [Act.put, List.setIfInBounds_toArray, List.set_cons_zero, List.set_cons_succ, i64_w, i32_w]
                      rfl
                    refine pure_ (i := 27) (N := some 44) (v := ?_) (a' := ?_) #[true, true, true, true, true, true, true, true, true, true, true, true, true, true, true, true, true, true, true, true, true, true, true, true, true, true, true, true, false, false, false, false, false, false, false, false, false, false] rfl rfl (any_of HT_.out (by kernel_rfl)) (fun _ _ _ h => h) (Or.inl ⟨by rfl, ?_⟩) ?_ ?_
                    rotate_left
                    · intro w'
                      go_simp
                      with_reducible rfl
                    rotate_left
                    · simp only [Act.put, List.setIfInBounds_toArray, List.set_cons_zero, List.set_cons_succ, i64_w, i32_w]
                      rfl
                    refine pure_ (i := 28) (N := some 45) (v := ?_) (a' := ?_) #[true, true, true, true, true, true, true, true, true, true, true, true, true, true, true, true, true, true, true, true, true, true, true, true, true, true, true, true, true, false, false, false, false, false, false, false, false, false] rfl rfl (any_of HT_.out (by kernel_rfl)) (fun _ _ _ h => h) (Or.inl ⟨by rfl, ?_⟩) ?_ ?_
                    rotate_left
                    · intro w'
                      go_simp
                      with_reducible rfl
                    rotate_left
                    · simp only [Act.put, List.setIfInBounds_toArray, List.set_cons_zero, List.set_cons_succ, i64_w, i32_w]
                      rfl
                    refine pure_ (i := 30) (N := some 47) (v := ?_) (a' := ?_) #[true, true, true, true, true, true, true, true, true, true, true, true, true, true, true, true, true, true, true, true, true, true, true, true, true, true, true, true, true, false, true, false, false, false, false, false, false, false] rfl rfl (any_of HT_.out (by kernel_rfl)) (fun _ _ _ h => h) (Or.inl ⟨by rfl, ?_⟩) ?_ ?_
                    rotate_left
                    · intro w'
                      go_simp
                      with_reducible rfl
                    rotate_left
                    · simp only [Act.put, List.setIfInBounds_toArray, List.set_cons_zero, List.set_cons_succ, i64_w, i32_w]
                      rfl
                    refine pure_ (i := 31) (N := some 48) (v := ?_) (a' := ?_) #[true, true, true, true, true, true, true, true, true, true, true, true, true, true, true, true, true, true, true, true, true, true, true, true, true, true, true, true, true, false, true, true, false, false, false, false, false, false] rfl rfl (any_of HT_.out (by kernel_rfl)) (fun _ _ _ h => h) (Or.inl ⟨by rfl, ?_⟩) ?_ ?_
                    rotate_left
                    · intro w'
                      go_simp
                      with_reducible rfl
                    rotate_left
                    · simp only [Act.put, List.setIfInBounds_toArray, List.set_cons_zero, List.set_cons_succ, i64_w, i32_w]
                      rfl
                    refine pure_ (i := 32) (N := some 49) (v := ?_) (a' := ?_) #[true, true, true, true, true, true, true, true, true, true, true, true, true, true, true, true, true, true, true, true, true, true, true, true, true, true, true, true, true, false, true, true, true, false, false, false, false, false] rfl rfl (any_of HT_.out (by kernel_rfl)) (fun _ _ _ h => h) (Or.inl ⟨by rfl, ?_⟩) ?_ ?_
                    rotate_left
                    · intro w'
                      go_simp
                      with_reducible rfl
                    rotate_left
                    · simp only [Act.put, List.setIfInBounds_toArray, List.set_cons_zero, List.set_cons_succ, i64_w, i32_w]
                      rfl
                    refine pure_ (i := 33) (N := some 50) (v := ?_) (a' := ?_) #[true, true, true, true, true, true, true, true, true, true, true, true, true, true, true, true, true, true, true, true, true, true, true, true, true, true, true, true, true, false, true, true, true, true, false, false, false, false] rfl rfl (any_of HT_.out (by kernel_rfl)) (fun _ _ _ h => h) (Or.inl ⟨by rfl, ?_⟩) ?_ ?_
                    rotate_left
                    · intro w'
                      go_simp
                      with_reducible rfl
                    rotate_left
                    · simp only [Act.put, List.setIfInBounds_toArray, List.set_cons_zero, List.set_cons_succ, i64_w, i32_w]
                      rfl
                    refine take_ (i := 29) (N := some 46) (v := ?_) (a' := ?_) #[true, true, true, true, true, true, true, true, true, true, true, true, true, true, true, true, true, true, true, true, true, true, true, true, true, true, true, true, true, true, true, true, true, true, false, false, false, false] rfl rfl (take_ofW HT_.out HW_.out (by kernel_rfl)) (fun _ _ _ h => h) (Or.inl ⟨by rfl, ?_⟩) hHeld ?_ ?_
                    rotate_left
                    · rintro w' ⟨s0, s1, s2, s3, s4, s5, s6, s7, s8, s9, s10, s11, s12, s13, s14, s15, s16, s17⟩
                      go_simp
                      with_reducible rfl
                    rotate_left
                    · simp only [Act.put, List.setIfInBounds_toArray, List.set_cons_zero, List.set_cons_succ, i64_w, i32_w]
                      rfl
                    refine take_ (i := 34) (N := some 51) (v := ?_) (a' := ?_) #[true, true, true, true, true, true, true, true, true, true, true, true, true, true, true, true, true, true, true, true, true, true, true, true, true, true, true, true, true, true, true, true, true, true, true, false, false, false] rfl rfl (take_ofW HT_.out HW_.out (by kernel_rfl)) (fun _ _ _ h => h) (Or.inl ⟨by rfl, ?_⟩) hHeld ?_ ?_
                    rotate_left
                    · rintro w' ⟨s0, s1, s2, s3, s4, s5, s6, s7, s8, s9, s10, s11, s12, s13, s14, s15, s16, s17⟩
                      go_simp
                      with_reducible rfl
                    rotate_left
                    · simp only [Act.put, List.setIfInBounds_toArray, List.set_cons_zero, List.set_cons_succ, i64_w, i32_w]
                      rfl
                    refine one_ (i := 35) (N := some 52) #[true, true, true, true, true, true, true, true, true, true, true, true, true, true, true, true, true, true, true, true, true, true, true, true, true, true, true, true, true, true, true, true, true, true, true, true, false, false] rfl rfl (one_of HT_.out (by kernel_rfl)) (by decide) (fun K hK => ?_)
                    refine goes_ Tryd.func28 (by kernel_rfl) rfl #[.slice A43001_1 ((rd_T81 l0 x5_1).f1).length c43001_1, .slice A43002_1 ((rd_T81 l1 x5_1).f1).length c43002_1] (by rfl) rfl rfl (by (try simp only [List.map_toArray, List.map_cons, List.map_nil]); first | done | rfl | (simp only [List.length_drop, List.length_take]; rfl)) ?_
                    with_reducible refine (tinderref03_Same.calls k1 _ _ ((rd_T81 l0 x5_1).f1) _ _ ((rd_T81 l1 x5_1).f1) true _ ?side1 ?side2 ?side3 ?side4 A9.out).mono ?_
                    (case side1 => repeat (first | exact (Kd.C_below HR43005_1.out HB.out) | (with_reducible refine Kd.C_alloc ?_ _) | (with_reducible refine Kd.C_drewN ?_ _) | (with_reducible refine Kd.C_drew ?_)))
                    (case side2 => exact HC43005_1.out)
                    (case side3 => repeat (first | exact (Kd.C_below HR43006_1.out HB.out) | (with_reducible refine Kd.C_alloc ?_ _) | (with_reducible refine Kd.C_drewN ?_ _) | (with_reducible refine Kd.C_drew ?_)))
                    (case side4 => exact HC43006_1.out)
                    rintro e w' ⟨rfl, ⟨nd, rfl⟩⟩
                    refine ⟨_, rfl, ?_⟩
                    refine hK.out _ _ ⟨((HB.out.cell (World.block_lt_of_cell? w _ hw43001_0)).trans hw43001_0), ((HB.out.cell (World.block_lt_of_cell? w _ hw43001_1)).trans hw43001_1), ((HB.out.cell (World.block_lt_of_cell? w _ hw43001_2)).trans hw43001_2), ((HB.out.cell (World.block_lt_of_cell? w _ hw43002_0)).trans hw43002_0), ((HB.out.cell (World.block_lt_of_cell? w _ hw43002_1)).trans hw43002_1), ((HB.out.cell (World.block_lt_of_cell? w _ hw43002_2)).trans hw43002_2), ((HB.out.cell (World.block_lt_of_cell? w _ hw43003_0)).trans hw43003_0), ((HB.out.cell (World.block_lt_of_cell? w _ hw43003_1)).trans hw43003_1), ((HB.out.cell (World.block_lt_of_cell? w _ hw43003_2)).trans hw43003_2), ((HB.out.cell (World.block_lt_of_cell? w _ hw43004_0)).trans hw43004_0), ((HB.out.cell (World.block_lt_of_cell? w _ hw43004_1)).trans hw43004_1), ((HB.out.cell (World.block_lt_of_cell? w _ hw43004_2)).trans hw43004_2), ((HB.out.cell (World.block_lt_of_cell? w _ hw43005_0)).trans hw43005_0), ((HB.out.cell (World.block_lt_of_cell? w _ hw43005_1)).trans hw43005_1), ((HB.out.cell (World.block_lt_of_cell? w _ hw43005_2)).trans hw43005_2), ((HB.out.cell (World.block_lt_of_cell? w _ hw43006_0)).trans hw43006_0), ((HB.out.cell (World.block_lt_of_cell? w _ hw43006_1)).trans hw43006_1), ((HB.out.cell (World.block_lt_of_cell? w _ hw43006_2)).trans hw43006_2)⟩ (fun hHeld => ?_)
                    clear hK K
                    refine norm_ (a' := ?_) ?_ ?_
                    rotate_left
                    · show Act.put _ (some 52) _ = _
                      simp only [Act.put, List.setIfInBounds_toArray, List.set_cons_zero, List.set_cons_succ, i64_w, i32_w]
                      rfl
                    refine pure_ (i := 36) (N := some 53) (v := ?_) (a' := ?_) #[true, true, true, true, true, true, true, true, true, true, true, true, true, true, true, true, true, true, true, true, true, true, true, true, true, true, true, true, true, true, true, true, true, true, true, true, true, false] rfl rfl (any_of HT_.out (by kernel_rfl)) (fun _ _ _ h => h) (Or.inl ⟨by rfl, ?_⟩) ?_ ?_
                    rotate_left
                    · intro w'
                      go_simp
                      with_reducible rfl
                    rotate_left
                    · simp only [Act.put, List.setIfInBounds_toArray, List.set_cons_zero, List.set_cons_succ, i64_w, i32_w]
                      rfl
                    refine pure_ (i := 37) (N := some 54) (v := ?_) (a' := ?_) #[true, true, true, true, true, true, true, true, true, true, true, true, true, true, true, true, true, true, true, true, true, true, true, true, true, true, true, true, true, true, true, true, true, true, true, true, true, true] rfl rfl (any_of HT_.out (by kernel_rfl)) (fun _ _ _ h => h) (Or.inl ⟨by rfl, ?_⟩) ?_ ?_
                    rotate_left
                    · intro w'
                      go_simp
                      with_reducible rfl
                    rotate_left
                    · simp only [Act.put, List.setIfInBounds_toArray, List.set_cons_zero, List.set_cons_succ, i64_w, i32_w]
                      rfl
                    refine done_ (done_of HT_.out (by kernel_rfl)) ?_
                    try go_wp2
                    go_roundg k1
                    case measure => have := HK1.out; omega
                    case rel => exact ⟨(wrap64 (x5_1 + 1)), (by first | rfl | (simp; done) | (simp [*]; done)), H', ⟨by have := HK1.out; omega⟩, ⟨by repeat (first | (with_reducible first | exact HB.out | apply below_alloc | apply pw_below_drewN | apply below_drew1) | exact HB.out)⟩⟩
                  · replace c10 := Bool.eq_false_iff.mpr c10
                    subst c10
                    have H1 : (some false) = some r := by rw [if_neg (show ¬ (false = true) by decide)] at H; exact H
                    clear H
                    have H := H1
                    clear H1
                    obtain rfl := Option.some.inj H
                    try go_wp2
                    have n0_ := Aside0.mk (below_drew1 HB.out)
                    clear HB
                    have HB := n0_
                    clear n0_
                    have p43001 : 0 ≤ (x5_1 : Int) := of_decide_eq_true (by first | (with_reducible assumption) | assumption)
                    have q43001 : x5_1 < (l0.length : Int) := of_decide_eq_true (by first | (with_reducible assumption) | assumption)
                    obtain ⟨ad43001, A43001_1, c43001_1, e43001, hx43001_0, hx43001_1, hx43001_2, hl43001_1, hi43001_1⟩ := at_T81 HR0.out x5_1 p43001 q43001
                    have hw43001_2 := hx43001_2
                    have hw43001_1 := hx43001_1
                    have hw43001_0 := hx43001_0
                    cases e43001
                    replace hx43001_0 := (HB.out.cell (World.block_lt_of_cell? w _ hx43001_0)).trans hx43001_0
                    replace hx43001_1 := (HB.out.cell (World.block_lt_of_cell? w _ hx43001_1)).trans hx43001_1
                    replace hx43001_2 := (HB.out.cell (World.block_lt_of_cell? w _ hx43001_2)).trans hx43001_2
                    have HR43001_1 := Aside0.mk hi43001_1
                    have HC43001_1 := Aside0.mk hl43001_1
                    clear hi43001_1 hl43001_1
                    replace p43001 := eq_true p43001
                    replace q43001 := eq_true q43001
                    have p43002 : 0 ≤ (x5_1 : Int) := of_decide_eq_true (by first | (with_reducible assumption) | assumption)
                    have q43002 : x5_1 < (l1.length : Int) := of_decide_eq_true (by first | (with_reducible assumption) | assumption)
                    obtain ⟨ad43002, A43002_1, c43002_1, e43002, hx43002_0, hx43002_1, hx43002_2, hl43002_1, hi43002_1⟩ := at_T81 HR1.out x5_1 p43002 q43002
                    have hw43002_2 := hx43002_2
                    have hw43002_1 := hx43002_1
                    have hw43002_0 := hx43002_0
                    cases e43002
                    replace hx43002_0 := (HB.out.cell (World.block_lt_of_cell? w _ hx43002_0)).trans hx43002_0
                    replace hx43002_1 := (HB.out.cell (World.block_lt_of_cell? w _ hx43002_1)).trans hx43002_1
                    replace hx43002_2 := (HB.out.cell (World.block_lt_of_cell? w _ hx43002_2)).trans hx43002_2
                    have HR43002_1 := Aside0.mk hi43002_1
                    have HC43002_1 := Aside0.mk hl43002_1
                    clear hi43002_1 hl43002_1
                    replace p43002 := eq_true p43002
                    replace q43002 := eq_true q43002
                    have p43003 : 0 ≤ (x5_1 : Int) := of_decide_eq_true (by first | (with_reducible assumption) | assumption)
                    have q43003 : x5_1 < (l0.length : Int) := of_decide_eq_true (by first | (with_reducible assumption) | assumption)
                    obtain ⟨ad43003, A43003_1, c43003_1, e43003, hx43003_0, hx43003_1, hx43003_2, hl43003_1, hi43003_1⟩ := at_T81 HR0.out x5_1 p43003 q43003
                    have hw43003_2 := hx43003_2
                    have hw43003_1 := hx43003_1
                    have hw43003_0 := hx43003_0
                    obtain rfl : ad43001 = ad43003 := (by injection e43003)
                    replace hx43003_0 := (HB.out.cell (World.block_lt_of_cell? w _ hx43003_0)).trans hx43003_0
                    replace hx43003_1 := (HB.out.cell (World.block_lt_of_cell? w _ hx43003_1)).trans hx43003_1
                    replace hx43003_2 := (HB.out.cell (World.block_lt_of_cell? w _ hx43003_2)).trans hx43003_2
                    have HR43003_1 := Aside0.mk hi43003_1
                    have HC43003_1 := Aside0.mk hl43003_1
                    clear hi43003_1 hl43003_1
                    replace p43003 := eq_true p43003
                    replace q43003 := eq_true q43003
                    have ea_ := Option.some.inj (hx43001_1.symm.trans hx43003_1)
                    injection ea_ with ea_ en_ ec_
                    subst ea_
                    subst ec_
                    clear en_
                    have p43004 : 0 ≤ (x5_1 : Int) := of_decide_eq_true (by first | (with_reducible assumption) | assumption)
                    have q43004 : x5_1 < (l1.length : Int) := of_decide_eq_true (by first | (with_reducible assumption) | assumption)
                    obtain ⟨ad43004, A43004_1, c43004_1, e43004, hx43004_0, hx43004_1, hx43004_2, hl43004_1, hi43004_1⟩ := at_T81 HR1.out x5_1 p43004 q43004
                    have hw43004_2 := hx43004_2
                    have hw43004_1 := hx43004_1
                    have hw43004_0 := hx43004_0
                    obtain rfl : ad43002 = ad43004 := (by injection e43004)
                    replace hx43004_0 := (HB.out.cell (World.block_lt_of_cell? w _ hx43004_0)).trans hx43004_0
                    replace hx43004_1 := (HB.out.cell (World.block_lt_of_cell? w _ hx43004_1)).trans hx43004_1
                    replace hx43004_2 := (HB.out.cell (World.block_lt_of_cell? w _ hx43004_2)).trans hx43004_2
                    have HR43004_1 := Aside0.mk hi43004_1
                    have HC43004_1 := Aside0.mk hl43004_1
                    clear hi43004_1 hl43004_1
                    replace p43004 := eq_true p43004
                    replace q43004 := eq_true q43004
                    have ea_ := Option.some.inj (hx43002_1.symm.trans hx43004_1)
                    injection ea_ with ea_ en_ ec_
                    subst ea_
                    subst ec_
                    clear en_
                    have p43005 : 0 ≤ (x5_1 : Int) := of_decide_eq_true (by first | (with_reducible assumption) | assumption)
                    have q43005 : x5_1 < (l0.length : Int) := of_decide_eq_true (by first | (with_reducible assumption) | assumption)
                    obtain ⟨ad43005, A43005_1, c43005_1, e43005, hx43005_0, hx43005_1, hx43005_2, hl43005_1, hi43005_1⟩ := at_T81 HR0.out x5_1 p43005 q43005
                    have hw43005_2 := hx43005_2
                    have hw43005_1 := hx43005_1
                    have hw43005_0 := hx43005_0
                    obtain rfl : ad43001 = ad43005 := (by injection e43005)
                    replace hx43005_0 := (HB.out.cell (World.block_lt_of_cell? w _ hx43005_0)).trans hx43005_0
                    replace hx43005_1 := (HB.out.cell (World.block_lt_of_cell? w _ hx43005_1)).trans hx43005_1
                    replace hx43005_2 := (HB.out.cell (World.block_lt_of_cell? w _ hx43005_2)).trans hx43005_2
                    have HR43005_1 := Aside0.mk hi43005_1
                    have HC43005_1 := Aside0.mk hl43005_1
                    clear hi43005_1 hl43005_1
                    replace p43005 := eq_true p43005
                    replace q43005 := eq_true q43005
                    have ea_ := Option.some.inj (hx43001_1.symm.trans hx43005_1)
                    injection ea_ with ea_ en_ ec_
                    subst ea_
                    subst ec_
                    clear en_
                    have p43006 : 0 ≤ (x5_1 : Int) := of_decide_eq_true (by first | (with_reducible assumption) | assumption)
                    have q43006 : x5_1 < (l1.length : Int) := of_decide_eq_true (by first | (with_reducible assumption) | assumption)
                    obtain ⟨ad43006, A43006_1, c43006_1, e43006, hx43006_0, hx43006_1, hx43006_2, hl43006_1, hi43006_1⟩ := at_T81 HR1.out x5_1 p43006 q43006
                    have hw43006_2 := hx43006_2
                    have hw43006_1 := hx43006_1
                    have hw43006_0 := hx43006_0
                    obtain rfl : ad43002 = ad43006 := (by injection e43006)
                    replace hx43006_0 := (HB.out.cell (World.block_lt_of_cell? w _ hx43006_0)).trans hx43006_0
                    replace hx43006_1 := (HB.out.cell (World.block_lt_of_cell? w _ hx43006_1)).trans hx43006_1
                    replace hx43006_2 := (HB.out.cell (World.block_lt_of_cell? w _ hx43006_2)).trans hx43006_2
                    have HR43006_1 := Aside0.mk hi43006_1
                    have HC43006_1 := Aside0.mk hl43006_1
                    clear hi43006_1 hl43006_1
                    replace p43006 := eq_true p43006
                    replace q43006 := eq_true q43006
                    have ea_ := Option.some.inj (hx43002_1.symm.trans hx43006_1)
                    injection ea_ with ea_ en_ ec_
                    subst ea_
                    subst ec_
                    clear en_
                    refine start_ (n := 38) (S := fun w' => w'.cell? (ad43001.add ((x5_1).toNat * 3)) = some (.string ((rd_T81 l0 x5_1).f0)) ∧ w'.cell? ⟨(ad43001.add ((x5_1).toNat * 3)).block, (ad43001.add ((x5_1).toNat * 3)).off + 1, none⟩ = some (.slice A43001_1 ((rd_T81 l0 x5_1).f1).length c43001_1) ∧ w'.cell? ⟨(ad43001.add ((x5_1).toNat * 3)).block, (ad43001.add ((x5_1).toNat * 3)).off + 2, none⟩ = some (.string ((rd_T81 l0 x5_1).f2)) ∧ w'.cell? (ad43002.add ((x5_1).toNat * 3)) = some (.string ((rd_T81 l1 x5_1).f0)) ∧ w'.cell? ⟨(ad43002.add ((x5_1).toNat * 3)).block, (ad43002.add ((x5_1).toNat * 3)).off + 1, none⟩ = some (.slice A43002_1 ((rd_T81 l1 x5_1).f1).length c43002_1) ∧ w'.cell? ⟨(ad43002.add ((x5_1).toNat * 3)).block, (ad43002.add ((x5_1).toNat * 3)).off + 2, none⟩ = some (.string ((rd_T81 l1 x5_1).f2)) ∧ w'.cell? (ad43001.add ((x5_1).toNat * 3)) = some (.string ((rd_T81 l0 x5_1).f0)) ∧ w'.cell? ⟨(ad43001.add ((x5_1).toNat * 3)).block, (ad43001.add ((x5_1).toNat * 3)).off + 1, none⟩ = some (.slice A43001_1 ((rd_T81 l0 x5_1).f1).length c43001_1) ∧ w'.cell? ⟨(ad43001.add ((x5_1).toNat * 3)).block, (ad43001.add ((x5_1).toNat * 3)).off + 2, none⟩ = some (.string ((rd_T81 l0 x5_1).f2)) ∧ w'.cell? (ad43002.add ((x5_1).toNat * 3)) = some (.string ((rd_T81 l1 x5_1).f0)) ∧ w'.cell? ⟨(ad43002.add ((x5_1).toNat * 3)).block, (ad43002.add ((x5_1).toNat * 3)).off + 1, none⟩ = some (.slice A43002_1 ((rd_T81 l1 x5_1).f1).length c43002_1) ∧ w'.cell? ⟨(ad43002.add ((x5_1).toNat * 3)).block, (ad43002.add ((x5_1).toNat * 3)).off + 2, none⟩ = some (.string ((rd_T81 l1 x5_1).f2)) ∧ w'.cell? (ad43001.add ((x5_1).toNat * 3)) = some (.string ((rd_T81 l0 x5_1).f0)) ∧ w'.cell? ⟨(ad43001.add ((x5_1).toNat * 3)).block, (ad43001.add ((x5_1).toNat * 3)).off + 1, none⟩ = some (.slice A43001_1 ((rd_T81 l0 x5_1).f1).length c43001_1) ∧ w'.cell? ⟨(ad43001.add ((x5_1).toNat * 3)).block, (ad43001.add ((x5_1).toNat * 3)).off + 2, none⟩ = some (.string ((rd_T81 l0 x5_1).f2)) ∧ w'.cell? (ad43002.add ((x5_1).toNat * 3)) = some (.string ((rd_T81 l1 x5_1).f0)) ∧ w'.cell? ⟨(ad43002.add ((x5_1).toNat * 3)).block, (ad43002.add ((x5_1).toNat * 3)).off + 1, none⟩ = some (.slice A43002_1 ((rd_T81 l1 x5_1).f1).length c43002_1) ∧ w'.cell? ⟨(ad43002.add ((x5_1).toNat * 3)).block, (ad43002.add ((x5_1).toNat * 3)).off + 2, none⟩ = some (.string ((rd_T81 l1 x5_1).f2))) (ds := []) #[false, false, false, false, false, false, false, false, false, false, false, false, false, false, false, false, false, false, false, false, false, false, false, false, false, false, false, false, false, false, false, false, false, false, false, false, false, false] (by kernel_rfl) rfl rfl ⟨((HB.out.cell (World.block_lt_of_cell? w _ hw43001_0)).trans hw43001_0), ((HB.out.cell (World.block_lt_of_cell? w _ hw43001_1)).trans hw43001_1), ((HB.out.cell (World.block_lt_of_cell? w _ hw43001_2)).trans hw43001_2), ((HB.out.cell (World.block_lt_of_cell? w _ hw43002_0)).trans hw43002_0), ((HB.out.cell (World.block_lt_of_cell? w _ hw43002_1)).trans hw43002_1), ((HB.out.cell (World.block_lt_of_cell? w _ hw43002_2)).trans hw43002_2), ((HB.out.cell (World.block_lt_of_cell? w _ hw43003_0)).trans hw43003_0), ((HB.out.cell (World.block_lt_of_cell? w _ hw43003_1)).trans hw43003_1), ((HB.out.cell (World.block_lt_of_cell? w _ hw43003_2)).trans hw43003_2), ((HB.out.cell (World.block_lt_of_cell? w _ hw43004_0)).trans hw43004_0), ((HB.out.cell (World.block_lt_of_cell? w _ hw43004_1)).trans hw43004_1), ((HB.out.cell (World.block_lt_of_cell? w _ hw43004_2)).trans hw43004_2), ((HB.out.cell (World.block_lt_of_cell? w _ hw43005_0)).trans hw43005_0), ((HB.out.cell (World.block_lt_of_cell? w _ hw43005_1)).trans hw43005_1), ((HB.out.cell (World.block_lt_of_cell? w _ hw43005_2)).trans hw43005_2), ((HB.out.cell (World.block_lt_of_cell? w _ hw43006_0)).trans hw43006_0), ((HB.out.cell (World.block_lt_of_cell? w _ hw43006_1)).trans hw43006_1), ((HB.out.cell (World.block_lt_of_cell? w _ hw43006_2)).trans hw43006_2)⟩ (fun hHeld => ?_); refine with_tabW tinderref07_Same.tab6 tinderref07_Same.bits6 (fun HT_ HW_ => ?_)
                    generalize wr.drew = w12 at HB HR43001_1 HR43002_1 HR43003_1 HR43004_1 HR43005_1 HR43006_1 hx43001_0 hx43001_1 hx43001_2 hx43002_0 hx43002_1 hx43002_2 hx43003_0 hx43003_1 hx43003_2 hx43004_0 hx43004_1 hx43004_2 hx43005_0 hx43005_1 hx43005_2 hx43006_0 hx43006_1 hx43006_2 hHeld ⊢
                    refine pure_ (i := 0) (N := some 17) (v := ?_) (a' := ?_) #[true, false, false, false, false, false, false, false, false, false, false, false, false, false, false, false, false, false, false, false, false, false, false, false, false, false, false, false, false, false, false, false, false, false, false, false, false, false] rfl rfl (any_of HT_.out (by kernel_rfl)) (fun _ _ _ h => h) (Or.inl ⟨by rfl, ?_⟩) ?_ ?_
                    rotate_left
                    · intro w'
                      go_simp
                      with_reducible rfl
                    rotate_left
                    · simp only [Act.put, List.setIfInBounds_toArray, List.set_cons_zero, List.set_cons_succ, i64_w, i32_w]
                      rfl
                    refine pure_ (i := 1) (N := some 18) (v := ?_) (a' := ?_) #[true, true, false, false, false, false, false, false, false, false, false, false, false, false, false, false, false, false, false, false, false, false, false, false, false, false, false, false, false, false, false, false, false, false, false, false, false, false] rfl rfl (any_of HT_.out (by kernel_rfl)) (fun _ _ _ h => h) (Or.inl ⟨by rfl, ?_⟩) ?_ ?_
                    rotate_left
                    · intro w'
                      go_simp
                      with_reducible rfl
                    rotate_left
                    · simp only [Act.put, List.setIfInBounds_toArray, List.set_cons_zero, List.set_cons_succ, i64_w, i32_w]
                      rfl
                    refine pure_ (i := 2) (N := some 19) (v := ?_) (a' := ?_) #[true, true, true, false, false, false, false, false, false, false, false, false, false, false, false, false, false, false, false, false, false, false, false, false, false, false, false, false, false, false, false, false, false, false, false, false, false, false] rfl rfl (any_of HT_.out (by kernel_rfl)) (fun _ _ _ h => h) (Or.inl ⟨by rfl, ?_⟩) ?_ ?_
                    rotate_left
                    · intro w'
                      go_simp
                      with_reducible rfl
                    rotate_left
                    · simp only [Act.put, List.setIfInBounds_toArray, List.set_cons_zero, List.set_cons_succ, i64_w, i32_w]
                      rfl
                    refine pure_ (i := 3) (N := some 20) (v := ?_) (a' := ?_) #[true, true, true, true, false, false, false, false, false, false, false, false, false, false, false, false, false, false, false, false, false, false, false, false, false, false, false, false, false, false, false, false, false, false, false, false, false, false] rfl rfl (any_of HT_.out (by kernel_rfl)) (fun _ _ _ h => h) (Or.inl ⟨by rfl, ?_⟩) ?_ ?_
                    rotate_left
                    · intro w'
                      go_simp
                      with_reducible rfl
                    rotate_left
                    · simp only [Act.put, List.setIfInBounds_toArray, List.set_cons_zero, List.set_cons_succ, i64_w, i32_w]
                      rfl
                    refine pure_ (i := 5) (N := some 22) (v := ?_) (a' := ?_) #[true, true, true, true, false, true, false, false, false, false, false, false, false, false, false, false, false, false, false, false, false, false, false, false, false, false, false, false, false, false, false, false, false, false, false, false, false, false] rfl rfl (any_of HT_.out (by kernel_rfl)) (fun _ _ _ h => h) (Or.inl ⟨by rfl, ?_⟩) ?_ ?_
                    rotate_left
                    · intro w'
                      go_simp
                      with_reducible rfl
                    rotate_left
                    · simp only [Act.put, List.setIfInBounds_toArray, List.set_cons_zero, List.set_cons_succ, i64_w, i32_w]
                      rfl
                    refine pure_ (i := 6) (N := some 23) (v := ?_) (a' := ?_) #[true, true, true, true, false, true, true, false, false, false, false, false, false, false, false, false, false, false, false, false, false, false, false, false, false, false, false, false, false, false, false, false, false, false, false, false, false, false] rfl rfl (any_of HT_.out (by kernel_rfl)) (fun _ _ _ h => h) (Or.inl ⟨by rfl, ?_⟩) ?_ ?_
                    rotate_left
                    · intro w'
                      go_simp
                      with_reducible rfl
                    rotate_left
                    · simp only [Act.put, List.setIfInBounds_toArray, List.set_cons_zero, List.set_cons_succ, i64_w, i32_w]
                      rfl
                    refine pure_ (i := 7) (N := some 24) (v := ?_) (a' := ?_) #[true, true, true, true, false, true, true, true, false, false, false, false, false, false, false, false, false, false, false, false, false, false, false, false, false, false, false, false, false, false, false, false, false, false, false, false, false, false] rfl rfl (any_of HT_.out (by kernel_rfl)) (fun _ _ _ h => h) (Or.inl ⟨by rfl, ?_⟩) ?_ ?_
                    rotate_left
                    · intro w'
                      go_simp
                      with_reducible rfl
                    rotate_left
                    · simp only [Act.put, List.setIfInBounds_toArray, List.set_cons_zero, List.set_cons_succ, i64_w, i32_w]
                      rfl
                    refine pure_ (i := 8) (N := some 25) (v := ?_) (a' := ?_) #[true, true, true, true, false, true, true, true, true, false, false, false, false, false, false, false, false, false, false, false, false, false, false, false, false, false, false, false, false, false, false, false, false, false, false, false, false, false] rfl rfl (any_of HT_.out (by kernel_rfl)) (fun _ _ _ h => h) (Or.inl ⟨by rfl, ?_⟩) ?_ ?_
                    rotate_left
                    · intro w'
                      go_simp
                      with_reducible rfl
                    rotate_left
                    · simp only [Act.put, List.setIfInBounds_toArray, List.set_cons_zero, List.set_cons_succ, i64_w, i32_w]
                      rfl
                    refine take_ (i := 4) (N := some 21) (v := ?_) (a' := ?_) #[true, true, true, true, true, true, true, true, true, false, false, false, false, false, false, false, false, false, false, false, false, false, false, false, false, false, false, false, false, false, false, false, false, false, false, false, false, false] rfl rfl (take_ofW HT_.out HW_.out (by kernel_rfl)) (fun _ _ _ h => h) (Or.inl ⟨by rfl, ?_⟩) hHeld ?_ ?_
                    rotate_left
                    · rintro w' ⟨s0, s1, s2, s3, s4, s5, s6, s7, s8, s9, s10, s11, s12, s13, s14, s15, s16, s17⟩
                      go_simp
                      with_reducible rfl
                    rotate_left
                    · simp only [Act.put, List.setIfInBounds_toArray, List.set_cons_zero, List.set_cons_succ, i64_w, i32_w]
                      rfl
                    refine take_ (i := 9) (N := some 26) (v := ?_) (a' := ?_) #[true, true, true, true, true, true, true, true, true, true, false, false, false, false, false, false, false, false, false, false, false, false, false, false, false, false, false, false, false, false, false, false, false, false, false, false, false, false] rfl rfl (take_ofW HT_.out HW_.out (by kernel_rfl)) (fun _ _ _ h => h) (Or.inl ⟨by rfl, ?_⟩) hHeld ?_ ?_
                    rotate_left
                    · rintro w' ⟨s0, s1, s2, s3, s4, s5, s6, s7, s8, s9, s10, s11, s12, s13, s14, s15, s16, s17⟩
                      go_simp
                      with_reducible rfl
                    rotate_left
                    · simp only [Act.put, List.setIfInBounds_toArray, List.set_cons_zero, List.set_cons_succ, i64_w, i32_w]
                      rfl
                    refine pure_ (i := 10) (N := some 27) (v := ?_) (a' := ?_) #[true, true, true, true, true, true, true, true, true, true, true, false, false, false, false, false, false, false, false, false, false, false, false, false, false, false, false, false, false, false, false, false, false, false, false, false, false, false] rfl rfl (any_of HT_.out (by kernel_rfl)) (fun _ _ _ h => h) (Or.inl ⟨by rfl, ?_⟩) ?_ ?_
                    rotate_left
                    · intro w'
                      go_simp
                      with_reducible rfl
                    rotate_left
                    · simp only [Act.put, List.setIfInBounds_toArray, List.set_cons_zero, List.set_cons_succ, i64_w, i32_w]
                      rfl
                    refine pure_ (i := 11) (N := some 28) (v := ?_) (a' := ?_) #[true, true, true, true, true, true, true, true, true, true, true, true, false, false, false, false, false, false, false, false, false, false, false, false, false, false, false, false, false, false, false, false, false, false, false, false, false, false] rfl rfl (any_of HT_.out (by kernel_rfl)) (fun _ _ _ h => h) (Or.inl ⟨by rfl, ?_⟩) ?_ ?_
                    rotate_left
                    · intro w'
                      go_simp
                      with_reducible rfl
                    rotate_left
                    · simp only [Act.put, List.setIfInBounds_toArray, List.set_cons_zero, List.set_cons_succ, i64_w, i32_w]
                      rfl
                    refine pure_ (i := 12) (N := some 29) (v := ?_) (a' := ?_) #[true, true, true, true, true, true, true, true, true, true, true, true, true, false, false, false, false, false, false, false, false, false, false, false, false, false, false, false, false, false, false, false, false, false, false, false, false, false] rfl rfl (any_of HT_.out (by kernel_rfl)) (fun _ _ _ h => h) (Or.inl ⟨by rfl, ?_⟩) ?_ ?_
                    rotate_left
                    · intro w'
                      go_simp
                      with_reducible rfl
                    rotate_left
                    · simp only [Act.put, List.setIfInBounds_toArray, List.set_cons_zero, List.set_cons_succ, i64_w, i32_w]
                      rfl
                    refine pure_ (i := 13) (N := some 30) (v := ?_) (a' := ?_) #[true, true, true, true, true, true, true, true, true, true, true, true, true, true, false, false, false, false, false, false, false, false, false, false, false, false, false, false, false, false, false, false, false, false, false, false, false, false] rfl rfl (any_of HT_.out (by kernel_rfl)) (fun _ _ _ h => h) (Or.inl ⟨by rfl, ?_⟩) ?_ ?_
                    rotate_left
                    · intro w'
                      go_simp
                      with_reducible rfl
                    rotate_left
                    · simp only [Act.put, List.setIfInBounds_toArray, List.set_cons_zero, List.set_cons_succ, i64_w, i32_w]
                      rfl
                    refine pure_ (i := 14) (N := some 31) (v := ?_) (a' := ?_) #[true, true, true, true, true, true, true, true, true, true, true, true, true, true, true, false, false, false, false, false, false, false, false, false, false, false, false, false, false, false, false, false, false, false, false, false, false, false] rfl rfl (any_of HT_.out (by kernel_rfl)) (fun _ _ _ h => h) (Or.inl ⟨by rfl, ?_⟩) ?_ ?_
                    rotate_left
                    · intro w'
                      go_simp
                      with_reducible rfl
                    rotate_left
                    · simp only [Act.put, List.setIfInBounds_toArray, List.set_cons_zero, List.set_cons_succ, i64_w, i32_w]
                      rfl
                    refine pure_ (i := 15) (N := some 32) (v := ?_) (a' := ?_) #[true, true, true, true, true, true, true, true, true, true, true, true, true, true, true, true, false, false, false, false, false, false, false, false, false, false, false, false, false, false, false, false, false, false, false, false, false, false] rfl rfl (any_of HT_.out (by kernel_rfl)) (fun _ _ _ h => h) (Or.inl ⟨by rfl, ?_⟩) ?_ ?_
                    rotate_left
                    · intro w'
                      go_simp
                      with_reducible rfl
                    rotate_left
                    · simp only [Act.put, List.setIfInBounds_toArray, List.set_cons_zero, List.set_cons_succ, i64_w, i32_w]
                      rfl
                    refine pure_ (i := 17) (N := some 34) (v := ?_) (a' := ?_) #[true, true, true, true, true, true, true, true, true, true, true, true, true, true, true, true, false, true, false, false, false, false, false, false, false, false, false, false, false, false, false, false, false, false, false, false, false, false] rfl rfl (any_of HT_.out (by kernel_rfl)) (fun _ _ _ h => h) (Or.inl ⟨by rfl, ?_⟩) ?_ ?_
                    rotate_left
                    · intro w'
                      go_simp
                      with_reducible rfl
                    rotate_left
                    · simp only [Act.put, List.setIfInBounds_toArray, List.set_cons_zero, List.set_cons_succ, i64_w, i32_w]
                      rfl
                    refine pure_ (i := 18) (N := some 35) (v := ?_) (a' := ?_) #[true, true, true, true, true, true, true, true, true, true, true, true, true, true, true, true, false, true, true, false, false, false, false, false, false, false, false, false, false, false, false, false, false, false, false, false, false, false] rfl rfl (any_of HT_.out (by kernel_rfl)) (fun _ _ _ h => h) (Or.inl ⟨by rfl, ?_⟩) ?_ ?_
                    rotate_left
                    · intro w'
                      go_simp
                      with_reducible rfl
                    rotate_left
                    · simp only [Act.put, List.setIfInBounds_toArray, List.set_cons_zero, List.set_cons_succ, i64_w, i32_w]
                      rfl
                    refine pure_ (i := 19) (N := some 36) (v := ?_) (a' := ?_) #[true, true, true, true, true, true, true, true, true, true, true, true, true, true, true, true, false, true, true, true, false, false, false, false, false, false, false, false, false, false, false, false, false, false, false, false, false, false] rfl rfl (any_of HT_.out (by kernel_rfl)) (fun _ _ _ h => h) (Or.inl ⟨by rfl, ?_⟩) ?_ ?_
                    rotate_left
                    · intro w'
                      go_simp
                      with_reducible rfl
                    rotate_left
                    · simp only [Act.put, List.setIfInBounds_toArray, List.set_cons_zero, List.set_cons_succ, i64_w, i32_w]
                      rfl
                    refine pure_ (i := 20) (N := some 37) (v := ?_) (a' := ?_) #[true, true, true, true, true, true, true, true, true, true, true, true, true, true, true, true, false, true, true, true, true, false, false, false, false, false, false, false, false, false, false, false, false, false, false, false, false, false] rfl rfl (any_of HT_.out (by kernel_rfl)) (fun _ _ _ h => h) (Or.inl ⟨by rfl, ?_⟩) ?_ ?_
                    rotate_left
                    · intro w'
                      go_simp
                      with_reducible rfl
                    rotate_left
                    · simp only [Act.put, List.setIfInBounds_toArray, List.set_cons_zero, List.set_cons_succ, i64_w, i32_w]
                      rfl
                    refine take_ (i := 16) (N := some 33) (v := ?_) (a' := ?_) #[true, true, true, true, true, true, true, true, true, true, true, true, true, true, true, true, true, true, true, true, true, false, false, false, false, false, false, false, false, false, false, false, false, false, false, false, false, false] rfl rfl (take_ofW HT_.out HW_.out (by kernel_rfl)) (fun _ _ _ h => h) (Or.inl ⟨by rfl, ?_⟩) hHeld ?_ ?_
                    rotate_left
                    · rintro w' ⟨s0, s1, s2, s3, s4, s5, s6, s7, s8, s9, s10, s11, s12, s13, s14, s15, s16, s17⟩
                      go_simp
                      with_reducible rfl
                    rotate_left
                    · simp only [Act.put, List.setIfInBounds_toArray, List.set_cons_zero, List.set_cons_succ, i64_w, i32_w]
                      rfl
                    refine take_ (i := 21) (N := some 38) (v := ?_) (a' := ?_) #[true, true, true, true, true, true, true, true, true, true, true, true, true, true, true, true, true, true, true, true, true, true, false, false, false, false, false, false, false, false, false, false, false, false, false, false, false, false] rfl rfl (take_ofW HT_.out HW_.out (by kernel_rfl)) (fun _ _ _ h => h) (Or.inl ⟨by rfl, ?_⟩) hHeld ?_ ?_
                    rotate_left
                    · rintro w' ⟨s0, s1, s2, s3, s4, s5, s6, s7, s8, s9, s10, s11, s12, s13, s14, s15, s16, s17⟩
                      go_simp
                      with_reducible rfl
                    rotate_left
                    · simp only [Act.put, List.setIfInBounds_toArray, List.set_cons_zero, List.set_cons_succ, i64_w, i32_w]
                      rfl
                    refine pure_ (i := 22) (N := some 39) (v := ?_) (a' := ?_) #[true, true, true, true, true, true, true, true, true, true, true, true, true, true, true, true, true, true, true, true, true, true, true, false, false, false, false, false, false, false, false, false, false, false, false, false, false, false] rfl rfl (any_of HT_.out (by kernel_rfl)) (fun _ _ _ h => h) (Or.inl ⟨by rfl, ?_⟩) ?_ ?_
                    rotate_left
                    · intro w'
                      go_simp
                      with_reducible rfl
                    rotate_left
                    · simp only [Act.put, List.setIfInBounds_toArray, List.set_cons_zero, List.set_cons_succ, i64_w, i32_w]
                      rfl
                    refine pure_ (i := 23) (N := some 40) (v := ?_) (a' := ?_) #[true, true, true, true, true, true, true, true, true, true, true, true, true, true, true, true, true, true, true, true, true, true, true, true, false, false, false, false, false, false, false, false, false, false, false, false, false, false] rfl rfl (any_of HT_.out (by kernel_rfl)) (fun _ _ _ h => h) (Or.inl ⟨by rfl, ?_⟩) ?_ ?_
                    rotate_left
                    · intro w'
                      go_simp
                      with_reducible rfl
                    rotate_left
                    · simp only [Act.put, List.setIfInBounds_toArray, List.set_cons_zero, List.set_cons_succ, i64_w, i32_w]
                      rfl
                    refine pure_ (i := 24) (N := some 41) (v := ?_) (a' := ?_) #[true, true, true, true, true, true, true, true, true, true, true, true, true, true, true, true, true, true, true, true, true, true, true, true, true, false, false, false, false, false, false, false, false, false, false, false, false, false] rfl rfl (any_of HT_.out (by kernel_rfl)) (fun _ _ _ h => h) (Or.inl ⟨by rfl, ?_⟩) ?_ ?_
                    rotate_left
                    · intro w'
                      go_simp
                      with_reducible rfl
                    rotate_left
                    · simp only [Act.put, List.setIfInBounds_toArray, List.set_cons_zero, List.set_cons_succ, i64_w, i32_w]
                      rfl
                    refine pure_ (i := 25) (N := some 42) (v := ?_) (a' := ?_) #[true, true, true, true, true, true, true, true, true, true, true, true, true, true, true, true, true, true, true, true, true, true, true, true, true, true, false, false, false, false, false, false, false, false, false, false, false, false] rfl rfl (any_of HT_.out (by kernel_rfl)) (fun _ _ _ h => h) (Or.inl ⟨by rfl, ?_⟩) ?_ ?_
                    rotate_left
                    · intro w'
                      go_simp
                      with_reducible rfl
                    rotate_left
                    · simp only [Act.put, List.setIfInBounds_toArray, List.set_cons_zero, List.set_cons_succ, i64_w, i32_w]
                      rfl
                    refine pure_ (i := 26) (N := some 43) (v := ?_) (a' := ?_) #[true, true, true, true, true, true, true, true, true, true, true, true, true, true, true, true, true, true, true, true, true, true, true, true, true, true, true, false, false, false, false, false, false, false, false, false, false, false] rfl rfl (any_of HT_.out (by kernel_rfl)) (fun _ _ _ h => h) (Or.inl ⟨by rfl, ?_⟩) ?_ ?_
                    rotate_left
                    · intro w'
                      go_simp
                      with_reducible rfl
                    rotate_left
                    · simp only [Act.put, List.setIfInBounds_toArray, List.set_cons_zero, List.set_cons_succ, i64_w, i32_w]
                      rfl
                    refine pure_ (i := 27) (N := some 44) (v := ?_) (a' := ?_) #[true, true, true, true, true, true, true, true, true, true, true, true, true, true, true, true, true, true, true, true, true, true, true, true, true, true, true, true, false, false, false, false, false, false, false, false, false, false] rfl rfl (any_of HT_.out (by kernel_rfl)) (fun _ _ _ h => h) (Or.inl ⟨by rfl, ?_⟩) ?_ ?_
                    rotate_left
                    · intro w'
                      go_simp
                      with_reducible rfl
                    rotate_left
                    · simp only [Act.put, List.setIfInBounds_toArray, List.set_cons_zero, List.set_cons_succ, i64_w, i32_w]
                      rfl
                    refine pure_ (i := 28) (N := some 45) (v := ?_) (a' := ?_) #[true, true, true, true, true, true, true, true, true, true, true, true, true, true, true, true, true, true, true, true, true, true, true, true, true, true, true, true, true, false, false, false, false, false, false, false, false, false] rfl rfl (any_of HT_.out (by kernel_rfl)) (fun _ _ _ h => h) (Or.inl ⟨by rfl, ?_⟩) ?_ ?_
                    rotate_left
                    · intro w'
                      go_simp
                      with_reducible rfl
                    rotate_left
                    · simp only [Act.put, List.setIfInBounds_toArray, List.set_cons_zero, List.set_cons_succ, i64_w, i32_w]
                      rfl
                    refine pure_ (i := 30) (N := some 47) (v := ?_) (a' := ?_) #[true, true, true, true, true, true, true, true, true, true, true, true, true, true, true, true, true, true, true, true, true, true, true, true, true, true, true, true, true, false, true, false, false, false, false, false, false, false] rfl rfl (any_of HT_.out (by kernel_rfl)) (fun _ _ _ h => h) (Or.inl ⟨by rfl, ?_⟩) ?_ ?_
                    rotate_left
                    · intro w'
                      go_simp
                      with_reducible rfl
                    rotate_left
                    · simp only [Act.put, List.setIfInBounds_toArray, List.set_cons_zero, List.set_cons_succ, i64_w, i32_w]
                      rfl
                    refine pure_ (i := 31) (N := some 48) (v := ?_) (a' := ?_) #[true, true, true, true, true, true, true, true, true, true, true, true, true, true, true, true, true, true, true, true, true, true, true, true, true, true, true, true, true, false, true, true, false, false, false, false, false, false] rfl rfl (any_of HT_.out (by kernel_rfl)) (fun _ _ _ h => h) (Or.inl ⟨by rfl, ?_⟩) ?_ ?_
                    rotate_left
                    · intro w'
                      go_simp
                      with_reducible rfl
                    rotate_left
                    · simp only [Act.put, List.setIfInBounds_toArray, List.set_cons_zero, List.set_cons_succ, i64_w, i32_w]
                      rfl
                    refine pure_ (i := 32) (N := some 49) (v := ?_) (a' := ?_) #[true, true, true, true, true, true, true, true, true, true, true, true, true, true, true, true, true, true, true, true, true, true, true, true, true, true, true, true, true, false, true, true, true, false, false, false, false, false] rfl rfl (any_of HT_.out (by kernel_rfl)) (fun _ _ _ h => h) (Or.inl ⟨by rfl, ?_⟩) ?_ ?_
                    rotate_left
                    · intro w'
                      go_simp
                      with_reducible rfl
                    rotate_left
                    · simp only [Act.put, List.setIfInBounds_toArray, List.set_cons_zero, List.set_cons_succ, i64_w, i32_w]
                      rfl
                    refine pure_ (i := 33) (N := some 50) (v := ?_) (a' := ?_) #[true, true, true, true, true, true, true, true, true, true, true, true, true, true, true, true, true, true, true, true, true, true, true, true, true, true, true, true, true, false, true, true, true, true, false, false, false, false] rfl rfl (any_of HT_.out (by kernel_rfl)) (fun _ _ _ h => h) (Or.inl ⟨by rfl, ?_⟩) ?_ ?_
                    rotate_left
                    · intro w'
                      go_simp
                      with_reducible rfl
                    rotate_left
                    · simp only [Act.put, List.setIfInBounds_toArray, List.set_cons_zero, List.set_cons_succ, i64_w, i32_w]
                      rfl
                    refine take_ (i := 29) (N := some 46) (v := ?_) (a' := ?_) #[true, true, true, true, true, true, true, true, true, true, true, true, true, true, true, true, true, true, true, true, true, true, true, true, true, true, true, true, true, true, true, true, true, true, false, false, false, false] rfl rfl (take_ofW HT_.out HW_.out (by kernel_rfl)) (fun _ _ _ h => h) (Or.inl ⟨by rfl, ?_⟩) hHeld ?_ ?_
                    rotate_left
                    · rintro w' ⟨s0, s1, s2, s3, s4, s5, s6, s7, s8, s9, s10, s11, s12, s13, s14, s15, s16, s17⟩
                      go_simp
                      with_reducible rfl
                    rotate_left
                    · simp only [Act.put, List.setIfInBounds_toArray, List.set_cons_zero, List.set_cons_succ, i64_w, i32_w]
                      rfl
                    refine take_ (i := 34) (N := some 51) (v := ?_) (a' := ?_) #[true, true, true, true, true, true, true, true, true, true, true, true, true, true, true, true, true, true, true, true, true, true, true, true, true, true, true, true, true, true, true, true, true, true, true, false, false, false] rfl rfl (take_ofW HT_.out HW_.out (by kernel_rfl)) (fun _ _ _ h => h) (Or.inl ⟨by rfl, ?_⟩) hHeld ?_ ?_
                    rotate_left
                    · rintro w' ⟨s0, s1, s2, s3, s4, s5, s6, s7, s8, s9, s10, s11, s12, s13, s14, s15, s16, s17⟩
                      go_simp
                      with_reducible rfl
                    rotate_left
                    · simp only [Act.put, List.setIfInBounds_toArray, List.set_cons_zero, List.set_cons_succ, i64_w, i32_w]
                      rfl
                    refine one_ (i := 35) (N := some 52) #[true, true, true, true, true, true, true, true, true, true, true, true, true, true, true, true, true, true, true, true, true, true, true, true, true, true, true, true, true, true, true, true, true, true, true, true, false, false] rfl rfl (one_of HT_.out (by kernel_rfl)) (by decide) (fun K hK => ?_)
                    refine goes_ Tryd.func28 (by kernel_rfl) rfl #[.slice A43001_1 ((rd_T81 l0 x5_1).f1).length c43001_1, .slice A43002_1 ((rd_T81 l1 x5_1).f1).length c43002_1] (by rfl) rfl rfl (by (try simp only [List.map_toArray, List.map_cons, List.map_nil]); first | done | rfl | (simp only [List.length_drop, List.length_take]; rfl)) ?_
                    with_reducible refine (tinderref03_Same.calls k1 _ _ ((rd_T81 l0 x5_1).f1) _ _ ((rd_T81 l1 x5_1).f1) false _ ?side1 ?side2 ?side3 ?side4 A9.out).mono ?_
                    (case side1 => repeat (first | exact (Kd.C_below HR43005_1.out HB.out) | (with_reducible refine Kd.C_alloc ?_ _) | (with_reducible refine Kd.C_drewN ?_ _) | (with_reducible refine Kd.C_drew ?_)))
                    (case side2 => exact HC43005_1.out)
                    (case side3 => repeat (first | exact (Kd.C_below HR43006_1.out HB.out) | (with_reducible refine Kd.C_alloc ?_ _) | (with_reducible refine Kd.C_drewN ?_ _) | (with_reducible refine Kd.C_drew ?_)))
                    (case side4 => exact HC43006_1.out)
                    rintro e w' ⟨rfl, ⟨nd, rfl⟩⟩
                    refine ⟨_, rfl, ?_⟩
                    refine hK.out _ _ ⟨((HB.out.cell (World.block_lt_of_cell? w _ hw43001_0)).trans hw43001_0), ((HB.out.cell (World.block_lt_of_cell? w _ hw43001_1)).trans hw43001_1), ((HB.out.cell (World.block_lt_of_cell? w _ hw43001_2)).trans hw43001_2), ((HB.out.cell (World.block_lt_of_cell? w _ hw43002_0)).trans hw43002_0), ((HB.out.cell (World.block_lt_of_cell? w _ hw43002_1)).trans hw43002_1), ((HB.out.cell (World.block_lt_of_cell? w _ hw43002_2)).trans hw43002_2), ((HB.out.cell (World.block_lt_of_cell? w _ hw43003_0)).trans hw43003_0), ((HB.out.cell (World.block_lt_of_cell? w _ hw43003_1)).trans hw43003_1), ((HB.out.cell (World.block_lt_of_cell? w _ hw43003_2)).trans hw43003_2), ((HB.out.cell (World.block_lt_of_cell? w _ hw43004_0)).trans hw43004_0), ((HB.out.cell (World.block_lt_of_cell? w _ hw43004_1)).trans hw43004_1), ((HB.out.cell (World.block_lt_of_cell? w _ hw43004_2)).trans hw43004_2), ((HB.out.cell (World.block_lt_of_cell? w _ hw43005_0)).trans hw43005_0), ((HB.out.cell (World.block_lt_of_cell? w _ hw43005_1)).trans hw43005_1), ((HB.out.cell (World.block_lt_of_cell? w _ hw43005_2)).trans hw43005_2), ((HB.out.cell (World.block_lt_of_cell? w _ hw43006_0)).trans hw43006_0), ((HB.out.cell (World.block_lt_of_cell? w _ hw43006_1)).trans hw43006_1), ((HB.out.cell (World.block_lt_of_cell? w _ hw43006_2)).trans hw43006_2)⟩ (fun hHeld => ?_)
                    clear hK K
                    refine norm_ (a' := ?_) ?_ ?_
                    rotate_left
                    · show Act.put _ (some 52) _ = _
                      simp only [Act.put, List.setIfInBounds_toArray, List.set_cons_zero, List.set_cons_succ, i64_w, i32_w]
                      rfl
                    refine pure_ (i := 36) (N := some 53) (v := ?_) (a' := ?_) #[true, true, true, true, true, true, true, true, true, true, true, true, true, true, true, true, true, true, true, true, true, true, true, true, true, true, true, true, true, true, true, true, true, true, true, true, true, false] rfl rfl (any_of HT_.out (by kernel_rfl)) (fun _ _ _ h => h) (Or.inl ⟨by rfl, ?_⟩) ?_ ?_
                    rotate_left
                    · intro w'
                      go_simp
                      with_reducible rfl
                    rotate_left
                    · simp only [Act.put, List.setIfInBounds_toArray, List.set_cons_zero, List.set_cons_succ, i64_w, i32_w]
                      rfl
                    refine pure_ (i := 37) (N := some 54) (v := ?_) (a' := ?_) #[true, true, true, true, true, true, true, true, true, true, true, true, true, true, true, true, true, true, true, true, true, true, true, true, true, true, true, true, true, true, true, true, true, true, true, true, true, true] rfl rfl (any_of HT_.out (by kernel_rfl)) (fun _ _ _ h => h) (Or.inl ⟨by rfl, ?_⟩) ?_ ?_
                    rotate_left
                    · intro w'
                      go_simp
                      with_reducible rfl
                    rotate_left
                    · simp only [Act.put, List.setIfInBounds_toArray, List.set_cons_zero, List.set_cons_succ, i64_w, i32_w]
                      rfl
                    refine done_ (done_of HT_.out (by kernel_rfl)) ?_
                    try go_wp2
                    go_ret
                    exact ⟨by first | rfl | (simp [errW_none, errW_some] <;> rfl) | (simp [*, errW_none, errW_some] <;> rfl), by repeat (first | (with_reducible first | exact HB.out | apply below_alloc | apply pw_below_drewN | apply below_drew1) | exact HB.out)⟩
                · rw [if_neg c8] at H
                  have c8b0 : (((rd_T81 l0 x5_1).f2).toList == ((rd_T81 l1 x5_1).f2).toList) = false := beq_eq_false_iff_ne.mpr c8
                  have c8b1 : (((rd_T81 l0 x5_1).f2).toList != ((rd_T81 l1 x5_1).f2).toList) = true := bne_iff_ne.mpr c8
                  obtain rfl := Option.some.inj H
                  try go_wp2
                  have n0_ := Aside0.mk (below_drew1 HB.out)
                  clear HB
                  have HB := n0_
                  clear n0_
                  have p43001 : 0 ≤ (x5_1 : Int) := of_decide_eq_true (by first | (with_reducible assumption) | assumption)
                  have q43001 : x5_1 < (l0.length : Int) := of_decide_eq_true (by first | (with_reducible assumption) | assumption)
                  obtain ⟨ad43001, A43001_1, c43001_1, e43001, hx43001_0, hx43001_1, hx43001_2, hl43001_1, hi43001_1⟩ := at_T81 HR0.out x5_1 p43001 q43001
                  have hw43001_2 := hx43001_2
                  have hw43001_1 := hx43001_1
                  have hw43001_0 := hx43001_0
                  cases e43001
                  replace hx43001_0 := (HB.out.cell (World.block_lt_of_cell? w _ hx43001_0)).trans hx43001_0
                  replace hx43001_1 := (HB.out.cell (World.block_lt_of_cell? w _ hx43001_1)).trans hx43001_1
                  replace hx43001_2 := (HB.out.cell (World.block_lt_of_cell? w _ hx43001_2)).trans hx43001_2
                  have HR43001_1 := Aside0.mk hi43001_1
                  have HC43001_1 := Aside0.mk hl43001_1
                  clear hi43001_1 hl43001_1
                  replace p43001 := eq_true p43001
                  replace q43001 := eq_true q43001
                  have p43002 : 0 ≤ (x5_1 : Int) := of_decide_eq_true (by first | (with_reducible assumption) | assumption)
                  have q43002 : x5_1 < (l1.length : Int) := of_decide_eq_true (by first | (with_reducible assumption) | assumption)
                  obtain ⟨ad43002, A43002_1, c43002_1, e43002, hx43002_0, hx43002_1, hx43002_2, hl43002_1, hi43002_1⟩ := at_T81 HR1.out x5_1 p43002 q43002
                  have hw43002_2 := hx43002_2
                  have hw43002_1 := hx43002_1
                  have hw43002_0 := hx43002_0
                  cases e43002
                  replace hx43002_0 := (HB.out.cell (World.block_lt_of_cell? w _ hx43002_0)).trans hx43002_0
                  replace hx43002_1 := (HB.out.cell (World.block_lt_of_cell? w _ hx43002_1)).trans hx43002_1
                  replace hx43002_2 := (HB.out.cell (World.block_lt_of_cell? w _ hx43002_2)).trans hx43002_2
                  have HR43002_1 := Aside0.mk hi43002_1
                  have HC43002_1 := Aside0.mk hl43002_1
                  clear hi43002_1 hl43002_1
                  replace p43002 := eq_true p43002
                  replace q43002 := eq_true q43002
                  have p43003 : 0 ≤ (x5_1 : Int) := of_decide_eq_true (by first | (with_reducible assumption) | assumption)
                  have q43003 : x5_1 < (l0.length : Int) := of_decide_eq_true (by first | (with_reducible assumption) | assumption)
                  obtain ⟨ad43003, A43003_1, c43003_1, e43003, hx43003_0, hx43003_1, hx43003_2, hl43003_1, hi43003_1⟩ := at_T81 HR0.out x5_1 p43003 q43003
                  have hw43003_2 := hx43003_2
                  have hw43003_1 := hx43003_1
                  have hw43003_0 := hx43003_0
                  obtain rfl : ad43001 = ad43003 := (by injection e43003)
                  replace hx43003_0 := (HB.out.cell (World.block_lt_of_cell? w _ hx43003_0)).trans hx43003_0
                  replace hx43003_1 := (HB.out.cell (World.block_lt_of_cell? w _ hx43003_1)).trans hx43003_1
                  replace hx43003_2 := (HB.out.cell (World.block_lt_of_cell? w _ hx43003_2)).trans hx43003_2
                  have HR43003_1 := Aside0.mk hi43003_1
                  have HC43003_1 := Aside0.mk hl43003_1
                  clear hi43003_1 hl43003_1
                  replace p43003 := eq_true p43003
                  replace q43003 := eq_true q43003
                  have ea_ := Option.some.inj (hx43001_1.symm.trans hx43003_1)
                  injection ea_ with ea_ en_ ec_
                  subst ea_
                  subst ec_
                  clear en_
                  have p43004 : 0 ≤ (x5_1 : Int) := of_decide_eq_true (by first | (with_reducible assumption) | assumption)
                  have q43004 : x5_1 < (l1.length : Int) := of_decide_eq_true (by first | (with_reducible assumption) | assumption)
                  obtain ⟨ad43004, A43004_1, c43004_1, e43004, hx43004_0, hx43004_1, hx43004_2, hl43004_1, hi43004_1⟩ := at_T81 HR1.out x5_1 p43004 q43004
                  have hw43004_2 := hx43004_2
                  have hw43004_1 := hx43004_1
                  have hw43004_0 := hx43004_0
                  obtain rfl : ad43002 = ad43004 := (by injection e43004)
                  replace hx43004_0 := (HB.out.cell (World.block_lt_of_cell? w _ hx43004_0)).trans hx43004_0
                  replace hx43004_1 := (HB.out.cell (World.block_lt_of_cell? w _ hx43004_1)).trans hx43004_1
                  replace hx43004_2 := (HB.out.cell (World.block_lt_of_cell? w _ hx43004_2)).trans hx43004_2
                  have HR43004_1 := Aside0.mk hi43004_1
                  have HC43004_1 := Aside0.mk hl43004_1
                  clear hi43004_1 hl43004_1
                  replace p43004 := eq_true p43004
                  replace q43004 := eq_true q43004
                  have ea_ := Option.some.inj (hx43002_1.symm.trans hx43004_1)
                  injection ea_ with ea_ en_ ec_
                  subst ea_
                  subst ec_
                  clear en_
                  refine start_ (n := 38) (S := fun w' => w'.cell? (ad43001.add ((x5_1).toNat * 3)) = some (.string ((rd_T81 l0 x5_1).f0)) ∧ w'.cell? ⟨(ad43001.add ((x5_1).toNat * 3)).block, (ad43001.add ((x5_1).toNat * 3)).off + 1, none⟩ = some (.slice A43001_1 ((rd_T81 l0 x5_1).f1).length c43001_1) ∧ w'.cell? ⟨(ad43001.add ((x5_1).toNat * 3)).block, (ad43001.add ((x5_1).toNat * 3)).off + 2, none⟩ = some (.string ((rd_T81 l0 x5_1).f2)) ∧ w'.cell? (ad43002.add ((x5_1).toNat * 3)) = some (.string ((rd_T81 l1 x5_1).f0)) ∧ w'.cell? ⟨(ad43002.add ((x5_1).toNat * 3)).block, (ad43002.add ((x5_1).toNat * 3)).off + 1, none⟩ = some (.slice A43002_1 ((rd_T81 l1 x5_1).f1).length c43002_1) ∧ w'.cell? ⟨(ad43002.add ((x5_1).toNat * 3)).block, (ad43002.add ((x5_1).toNat * 3)).off + 2, none⟩ = some (.string ((rd_T81 l1 x5_1).f2)) ∧ w'.cell? (ad43001.add ((x5_1).toNat * 3)) = some (.string ((rd_T81 l0 x5_1).f0)) ∧ w'.cell? ⟨(ad43001.add ((x5_1).toNat * 3)).block, (ad43001.add ((x5_1).toNat * 3)).off + 1, none⟩ = some (.slice A43001_1 ((rd_T81 l0 x5_1).f1).length c43001_1) ∧ w'.cell? ⟨(ad43001.add ((x5_1).toNat * 3)).block, (ad43001.add ((x5_1).toNat * 3)).off + 2, none⟩ = some (.string ((rd_T81 l0 x5_1).f2)) ∧ w'.cell? (ad43002.add ((x5_1).toNat * 3)) = some (.string ((rd_T81 l1 x5_1).f0)) ∧ w'.cell? ⟨(ad43002.add ((x5_1).toNat * 3)).block, (ad43002.add ((x5_1).toNat * 3)).off + 1, none⟩ = some (.slice A43002_1 ((rd_T81 l1 x5_1).f1).length c43002_1) ∧ w'.cell? ⟨(ad43002.add ((x5_1).toNat * 3)).block, (ad43002.add ((x5_1).toNat * 3)).off + 2, none⟩ = some (.string ((rd_T81 l1 x5_1).f2))) (ds := []) #[false, false, false, false, false, false, false, false, false, false, false, false, false, false, false, false, false, false, false, false, false, false, false, false, false, false, false, false, false, false, false, false, false, false, false, false, false, false] (by kernel_rfl) rfl rfl ⟨((HB.out.cell (World.block_lt_of_cell? w _ hw43001_0)).trans hw43001_0), ((HB.out.cell (World.block_lt_of_cell? w _ hw43001_1)).trans hw43001_1), ((HB.out.cell (World.block_lt_of_cell? w _ hw43001_2)).trans hw43001_2), ((HB.out.cell (World.block_lt_of_cell? w _ hw43002_0)).trans hw43002_0), ((HB.out.cell (World.block_lt_of_cell? w _ hw43002_1)).trans hw43002_1), ((HB.out.cell (World.block_lt_of_cell? w _ hw43002_2)).trans hw43002_2), ((HB.out.cell (World.block_lt_of_cell? w _ hw43003_0)).trans hw43003_0), ((HB.out.cell (World.block_lt_of_cell? w _ hw43003_1)).trans hw43003_1), ((HB.out.cell (World.block_lt_of_cell? w _ hw43003_2)).trans hw43003_2), ((HB.out.cell (World.block_lt_of_cell? w _ hw43004_0)).trans hw43004_0), ((HB.out.cell (World.block_lt_of_cell? w _ hw43004_1)).trans hw43004_1), ((HB.out.cell (World.block_lt_of_cell? w _ hw43004_2)).trans hw43004_2)⟩ (fun hHeld => ?_); refine with_tabW tinderref07_Same.tab6 tinderref07_Same.bits6 (fun HT_ HW_ => ?_)
                  generalize wr.drew = w13 at HB HR43001_1 HR43002_1 HR43003_1 HR43004_1 hx43001_0 hx43001_1 hx43001_2 hx43002_0 hx43002_1 hx43002_2 hx43003_0 hx43003_1 hx43003_2 hx43004_0 hx43004_1 hx43004_2 hHeld ⊢
                  refine pure_ (i := 0) (N := some 17) (v := ?_) (a' := ?_) #[true, false, false, false, false, false, false, false, false, false, false, false, false, false, false, false, false, false, false, false, false, false, false, false, false, false, false, false, false, false, false, false, false, false, false, false, false, false] rfl rfl (any_of HT_.out (by kernel_rfl)) (fun _ _ _ h => h) (Or.inl ⟨by rfl, ?_⟩) ?_ ?_
                  rotate_left
                  · intro w'
                    go_simp
                    with_reducible rfl
                  rotate_left
                  · simp only [Act.put, List.setIfInBounds_toArray, List.set_cons_zero, List.set_cons_succ, i64_w, i32_w]
                    rfl
                  refine pure_ (i := 1) (N := some 18) (v := ?_) (a' := ?_) #[true, true, false, false, false, false, false, false, false, false, false, false, false, false, false, false, false, false, false, false, false, false, false, false, false, false, false, false, false, false, false, false, false, false, false, false, false, false] rfl rfl (any_of HT_.out (by kernel_rfl)) (fun _ _ _ h => h) (Or.inl ⟨by rfl, ?_⟩) ?_ ?_
                  rotate_left
                  · intro w'
                    go_simp
                    with_reducible rfl
                  rotate_left
                  · simp only [Act.put, List.setIfInBounds_toArray, List.set_cons_zero, List.set_cons_succ, i64_w, i32_w]
                    rfl
                  refine pure_ (i := 2) (N := some 19) (v := ?_) (a' := ?_) #[true, true, true, false, false, false, false, false, false, false, false, false, false, false, false, false, false, false, false, false, false, false, false, false, false, false, false, false, false, false, false, false, false, false, false, false, false, false] rfl rfl (any_of HT_.out (by kernel_rfl)) (fun _ _ _ h => h) (Or.inl ⟨by rfl, ?_⟩) ?_ ?_
                  rotate_left
                  · intro w'
                    go_simp
                    with_reducible rfl
                  rotate_left
                  · simp only [Act.put, List.setIfInBounds_toArray, List.set_cons_zero, List.set_cons_succ, i64_w, i32_w]
                    rfl
                  refine pure_ (i := 3) (N := some 20) (v := ?_) (a' := ?_) #[true, true, true, true, false, false, false, false, false, false, false, false, false, false, false, false, false, false, false, false, false, false, false, false, false, false, false, false, false, false, false, false, false, false, false, false, false, false] rfl rfl (any_of HT_.out (by kernel_rfl)) (fun _ _ _ h => h) (Or.inl ⟨by rfl, ?_⟩) ?_ ?_
                  rotate_left
                  · intro w'
                    go_simp
                    with_reducible rfl
                  rotate_left
                  · simp only [Act.put, List.setIfInBounds_toArray, List.set_cons_zero, List.set_cons_succ, i64_w, i32_w]
                    rfl
                  refine pure_ (i := 5) (N := some 22) (v := ?_) (a' := ?_) #[true, true, true, true, false, true, false, false, false, false, false, false, false, false, false, false, false, false, false, false, false, false, false, false, false, false, false, false, false, false, false, false, false, false, false, false, false, false] rfl rfl (any_of HT_.out (by kernel_rfl)) (fun _ _ _ h => h) (Or.inl ⟨by rfl, ?_⟩) ?_ ?_
                  rotate_left
                  · intro w'
                    go_simp
                    with_reducible rfl
                  rotate_left
                  · simp only [Act.put, List.setIfInBounds_toArray, List.set_cons_zero, List.set_cons_succ, i64_w, i32_w]
                    rfl
                  refine pure_ (i := 6) (N := some 23) (v := ?_) (a' := ?_) #[true, true, true, true, false, true, true, false, false, false, false, false, false, false, false, false, false, false, false, false, false, false, false, false, false, false, false, false, false, false, false, false, false, false, false, false, false, false] rfl rfl (any_of HT_.out (by kernel_rfl)) (fun _ _ _ h => h) (Or.inl ⟨by rfl, ?_⟩) ?_ ?_
                  rotate_left
                  · intro w'
                    go_simp
                    with_reducible rfl
                  rotate_left
                  · simp only [Act.put, List.setIfInBounds_toArray, List.set_cons_zero, List.set_cons_succ, i64_w, i32_w]
                    rfl
                  refine pure_ (i := 7) (N := some 24) (v := ?_) (a' := ?_) #[true, true, true, true, false, true, true, true, false, false, false, false, false, false, false, false, false, false, false, false, false, false, false, false, false, false, false, false, false, false, false, false, false, false, false, false, false, false] rfl rfl (any_of HT_.out (by kernel_rfl)) (fun _ _ _ h => h) (Or.inl ⟨by rfl, ?_⟩) ?_ ?_
                  rotate_left
                  · intro w'
                    go_simp
                    with_reducible rfl
                  rotate_left
                  · simp only [Act.put, List.setIfInBounds_toArray, List.set_cons_zero, List.set_cons_succ, i64_w, i32_w]
                    rfl
                  refine pure_ (i := 8) (N := some 25) (v := ?_) (a' := ?_) #[true, true, true, true, false, true, true, true, true, false, false, false, false, false, false, false, false, false, false, false, false, false, false, false, false, false, false, false, false, false, false, false, false, false, false, false, false, false] rfl rfl (any_of HT_.out (by kernel_rfl)) (fun _ _ _ h => h) (Or.inl ⟨by rfl, ?_⟩) ?_ ?_
                  rotate_left
                  · intro w'
                    go_simp
                    with_reducible rfl
                  rotate_left
                  · simp only [Act.put, List.setIfInBounds_toArray, List.set_cons_zero, List.set_cons_succ, i64_w, i32_w]
                    rfl
                  refine take_ (i := 4) (N := some 21) (v := ?_) (a' := ?_) #[true, true, true, true, true, true, true, true, true, false, false, false, false, false, false, false, false, false, false, false, false, false, false, false, false, false, false, false, false, false, false, false, false, false, false, false, false, false] rfl rfl (take_ofW HT_.out HW_.out (by kernel_rfl)) (fun _ _ _ h => h) (Or.inl ⟨by rfl, ?_⟩) hHeld ?_ ?_
                  rotate_left
                  · rintro w' ⟨s0, s1, s2, s3, s4, s5, s6, s7, s8, s9, s10, s11⟩
                    go_simp
                    with_reducible rfl
                  rotate_left
                  · simp only [Act.put, List.setIfInBounds_toArray, List.set_cons_zero, List.set_cons_succ, i64_w, i32_w]
                    rfl
                  refine take_ (i := 9) (N := some 26) (v := ?_) (a' := ?_) #[true, true, true, true, true, true, true, true, true, true, false, false, false, false, false, false, false, false, false, false, false, false, false, false, false, false, false, false, false, false, false, false, false, false, false, false, false, false] rfl rfl (take_ofW HT_.out HW_.out (by kernel_rfl)) (fun _ _ _ h => h) (Or.inl ⟨by rfl, ?_⟩) hHeld ?_ ?_
                  rotate_left
                  · rintro w' ⟨s0, s1, s2, s3, s4, s5, s6, s7, s8, s9, s10, s11⟩
                    go_simp
                    with_reducible rfl
                  rotate_left
                  · simp only [Act.put, List.setIfInBounds_toArray, List.set_cons_zero, List.set_cons_succ, i64_w, i32_w]
                    rfl
                  refine pure_ (i := 10) (N := some 27) (v := ?_) (a' := ?_) #[true, true, true, true, true, true, true, true, true, true, true, false, false, false, false, false, false, false, false, false, false, false, false, false, false, false, false, false, false, false, false, false, false, false, false, false, false, false] rfl rfl (any_of HT_.out (by kernel_rfl)) (fun _ _ _ h => h) (Or.inl ⟨by rfl, ?_⟩) ?_ ?_
                  rotate_left
                  · intro w'
                    go_simp
                    with_reducible rfl
                  rotate_left
                  · simp only [Act.put, List.setIfInBounds_toArray, List.set_cons_zero, List.set_cons_succ, i64_w, i32_w]
                    rfl
                  refine pure_ (i := 11) (N := some 28) (v := ?_) (a' := ?_) #[true, true, true, true, true, true, true, true, true, true, true, true, false, false, false, false, false, false, false, false, false, false, false, false, false, false, false, false, false, false, false, false, false, false, false, false, false, false] rfl rfl (any_of HT_.out (by kernel_rfl)) (fun _ _ _ h => h) (Or.inl ⟨by rfl, ?_⟩) ?_ ?_
                  rotate_left
                  · intro w'
                    go_simp
                    with_reducible rfl
                  rotate_left
                  · simp only [Act.put, List.setIfInBounds_toArray, List.set_cons_zero, List.set_cons_succ, i64_w, i32_w]
                    rfl
                  refine pure_ (i := 12) (N := some 29) (v := ?_) (a' := ?_) #[true, true, true, true, true, true, true, true, true, true, true, true, true, false, false, false, false, false, false, false, false, false, false, false, false, false, false, false, false, false, false, false, false, false, false, false, false, false] rfl rfl (any_of HT_.out (by kernel_rfl)) (fun _ _ _ h => h) (Or.inl ⟨by rfl, ?_⟩) ?_ ?_
                  rotate_left
                  · intro w'
                    go_simp
                    with_reducible rfl
                  rotate_left
                  · simp only [Act.put, List.setIfInBounds_toArray, List.set_cons_zero, List.set_cons_succ, i64_w, i32_w]
                    rfl
                  refine pure_ (i := 13) (N := some 30) (v := ?_) (a' := ?_) #[true, true, true, true, true, true, true, true, true, true, true, true, true, true, false, false, false, false, false, false, false, false, false, false, false, false, false, false, false, false, false, false, false, false, false, false, false, false] rfl rfl (any_of HT_.out (by kernel_rfl)) (fun _ _ _ h => h) (Or.inl ⟨by rfl, ?_⟩) ?_ ?_
                  rotate_left
                  · intro w'
                    go_simp
                    with_reducible rfl
                  rotate_left
                  · simp only [Act.put, List.setIfInBounds_toArray, List.set_cons_zero, List.set_cons_succ, i64_w, i32_w]
                    rfl
                  refine pure_ (i := 14) (N := some 31) (v := ?_) (a' := ?_) #[true, true, true, true, true, true, true, true, true, true, true, true, true, true, true, false, false, false, false, false, false, false, false, false, false, false, false, false, false, false, false, false, false, false, false, false, false, false] rfl rfl (any_of HT_.out (by kernel_rfl)) (fun _ _ _ h => h) (Or.inl ⟨by rfl, ?_⟩) ?_ ?_
                  rotate_left
                  · intro w'
                    go_simp
                    with_reducible rfl
                  rotate_left
                  · simp only [Act.put, List.setIfInBounds_toArray, List.set_cons_zero, List.set_cons_succ, i64_w, i32_w]
                    rfl
                  refine pure_ (i := 15) (N := some 32) (v := ?_) (a' := ?_) #[true, true, true, true, true, true, true, true, true, true, true, true, true, true, true, true, false, false, false, false, false, false, false, false, false, false, false, false, false, false, false, false, false, false, false, false, false, false] rfl rfl (any_of HT_.out (by kernel_rfl)) (fun _ _ _ h => h) (Or.inl ⟨by rfl, ?_⟩) ?_ ?_
                  rotate_left
                  · intro w'
                    go_simp
                    with_reducible rfl
                  rotate_left
                  · simp only [Act.put, List.setIfInBounds_toArray, List.set_cons_zero, List.set_cons_succ, i64_w, i32_w]
                    rfl
                  refine pure_ (i := 17) (N := some 34) (v := ?_) (a' := ?_) #[true, true, true, true, true, true, true, true, true, true, true, true, true, true, true, true, false, true, false, false, false, false, false, false, false, false, false, false, false, false, false, false, false, false, false, false, false, false] rfl rfl (any_of HT_.out (by kernel_rfl)) (fun _ _ _ h => h) (Or.inl ⟨by rfl, ?_⟩) ?_ ?_
                  rotate_left
                  · intro w'
                    go_simp
                    with_reducible rfl
                  rotate_left
                  · simp only [Act.put, List.setIfInBounds_toArray, List.set_cons_zero, List.set_cons_succ, i64_w, i32_w]
                    rfl
                  refine pure_ (i := 18) (N := some 35) (v := ?_) (a' := ?_) #[true, true, true, true, true, true, true, true, true, true, true, true, true, true, true, true, false, true, true, false, false, false, false, false, false, false, false, false, false, false, false, false, false, false, false, false, false, false] rfl rfl (any_of HT_.out (by kernel_rfl)) (fun _ _ _ h => h) (Or.inl ⟨by rfl, ?_⟩) ?_ ?_
                  rotate_left
                  · intro w'
                    go_simp
                    with_reducible rfl
                  rotate_left
                  · simp only [Act.put, List.setIfInBounds_toArray, List.set_cons_zero, List.set_cons_succ, i64_w, i32_w]
                    rfl
                  refine pure_ (i := 19) (N := some 36) (v := ?_) (a' := ?_) #[true, true, true, true, true, true, true, true, true, true, true, true, true, true, true, true, false, true, true, true, false, false, false, false, false, false, false, false, false, false, false, false, false, false, false, false, false, false] rfl rfl (any_of HT_.out (by kernel_rfl)) (fun _ _ _ h => h) (Or.inl ⟨by rfl, ?_⟩) ?_ ?_
                  rotate_left
                  · intro w'
                    go_simp
                    with_reducible rfl
                  rotate_left
                  · simp only [Act.put, List.setIfInBounds_toArray, List.set_cons_zero, List.set_cons_succ, i64_w, i32_w]
                    rfl
                  refine pure_ (i := 20) (N := some 37) (v := ?_) (a' := ?_) #[true, true, true, true, true, true, true, true, true, true, true, true, true, true, true, true, false, true, true, true, true, false, false, false, false, false, false, false, false, false, false, false, false, false, false, false, false, false] rfl rfl (any_of HT_.out (by kernel_rfl)) (fun _ _ _ h => h) (Or.inl ⟨by rfl, ?_⟩) ?_ ?_
                  rotate_left
                  · intro w'
                    go_simp
                    with_reducible rfl
                  rotate_left
                  · simp only [Act.put, List.setIfInBounds_toArray, List.set_cons_zero, List.set_cons_succ, i64_w, i32_w]
                    rfl
                  refine take_ (i := 16) (N := some 33) (v := ?_) (a' := ?_) #[true, true, true, true, true, true, true, true, true, true, true, true, true, true, true, true, true, true, true, true, true, false, false, false, false, false, false, false, false, false, false, false, false, false, false, false, false, false] rfl rfl (take_ofW HT_.out HW_.out (by kernel_rfl)) (fun _ _ _ h => h) (Or.inl ⟨by rfl, ?_⟩) hHeld ?_ ?_
                  rotate_left
                  · rintro w' ⟨s0, s1, s2, s3, s4, s5, s6, s7, s8, s9, s10, s11⟩
                    go_simp
                    with_reducible rfl
                  rotate_left
                  · simp only [Act.put, List.setIfInBounds_toArray, List.set_cons_zero, List.set_cons_succ, i64_w, i32_w]
                    rfl
                  refine take_ (i := 21) (N := some 38) (v := ?_) (a' := ?_) #[true, true, true, true, true, true, true, true, true, true, true, true, true, true, true, true, true, true, true, true, true, true, false, false, false, false, false, false, false, false, false, false, false, false, false, false, false, false] rfl rfl (take_ofW HT_.out HW_.out (by kernel_rfl)) (fun _ _ _ h => h) (Or.inl ⟨by rfl, ?_⟩) hHeld ?_ ?_
                  rotate_left
                  · rintro w' ⟨s0, s1, s2, s3, s4, s5, s6, s7, s8, s9, s10, s11⟩
                    go_simp
                    with_reducible rfl
                  rotate_left
                  · simp only [Act.put, List.setIfInBounds_toArray, List.set_cons_zero, List.set_cons_succ, i64_w, i32_w]
                    rfl
                  refine pure_ (i := 22) (N := some 39) (v := ?_) (a' := ?_) #[true, true, true, true, true, true, true, true, true, true, true, true, true, true, true, true, true, true, true, true, true, true, true, false, false, false, false, false, false, false, false, false, false, false, false, false, false, false] rfl rfl (any_of HT_.out (by kernel_rfl)) (fun _ _ _ h => h) (Or.inl ⟨by rfl, ?_⟩) ?_ ?_
                  rotate_left
                  · intro w'
                    go_simp
                    with_reducible rfl
                  rotate_left
                  · simp only [Act.put, List.setIfInBounds_toArray, List.set_cons_zero, List.set_cons_succ, i64_w, i32_w]
                    rfl
                  refine pure_ (i := 23) (N := some 40) (v := ?_) (a' := ?_) #[true, true, true, true, true, true, true, true, true, true, true, true, true, true, true, true, true, true, true, true, true, true, true, true, false, false, false, false, false, false, false, false, false, false, false, false, false, false] rfl rfl (any_of HT_.out (by kernel_rfl)) (fun _ _ _ h => h) (Or.inl ⟨by rfl, ?_⟩) ?_ ?_
                  rotate_left
                  · intro w'
                    go_simp
                    with_reducible rfl
                  rotate_left
                  · simp only [Act.put, List.setIfInBounds_toArray, List.set_cons_zero, List.set_cons_succ, i64_w, i32_w]
                    rfl
                  refine pure_ (i := 24) (N := some 41) (v := ?_) (a' := ?_) #[true, true, true, true, true, true, true, true, true, true, true, true, true, true, true, true, true, true, true, true, true, true, true, true, true, false, false, false, false, false, false, false, false, false, false, false, false, false] rfl rfl (any_of HT_.out (by kernel_rfl)) (fun _ _ _ h => h) (Or.inl ⟨by rfl, ?_⟩) ?_ ?_
                  rotate_left
                  · intro w'
                    go_simp
                    with_reducible rfl
                  rotate_left
                  · simp only [Act.put, List.setIfInBounds_toArray, List.set_cons_zero, List.set_cons_succ, i64_w, i32_w]
                    rfl
                  refine pure_ (i := 25) (N := some 42) (v := undef) (a' := ?_) #[true, true, true, true, true, true, true, true, true, true, true, true, true, true, true, true, true, true, true, true, true, true, true, true, true, true, false, false, false, false, false, false, false, false, false, false, false, false] rfl rfl (any_of HT_.out (by kernel_rfl)) (fun _ _ _ h => h) (Or.inr ⟨by rfl, rfl⟩) ?_ ?_
                  rotate_left
                  · simp only [Act.put, List.setIfInBounds_toArray, List.set_cons_zero, List.set_cons_succ, i64_w, i32_w]
                    rfl
                  refine pure_ (i := 26) (N := some 43) (v := undef) (a' := ?_) #[true, true, true, true, true, true, true, true, true, true, true, true, true, true, true, true, true, true, true, true, true, true, true, true, true, true, true, false, false, false, false, false, false, false, false, false, false, false] rfl rfl (any_of HT_.out (by kernel_rfl)) (fun _ _ _ h => h) (Or.inr ⟨by rfl, rfl⟩) ?_ ?_
                  rotate_left
                  · simp only [Act.put, List.setIfInBounds_toArray, List.set_cons_zero, List.set_cons_succ, i64_w, i32_w]
                    rfl
                  refine pure_ (i := 27) (N := some 44) (v := undef) (a' := ?_) #[true, true, true, true, true, true, true, true, true, true, true, true, true, true, true, true, true, true, true, true, true, true, true, true, true, true, true, true, false, false, false, false, false, false, false, false, false, false] rfl rfl (any_of HT_.out (by kernel_rfl)) (fun _ _ _ h => h) (Or.inr ⟨by rfl, rfl⟩) ?_ ?_
                  rotate_left
                  · simp only [Act.put, List.setIfInBounds_toArray, List.set_cons_zero, List.set_cons_succ, i64_w, i32_w]
                    rfl
                  refine pure_ (i := 28) (N := some 45) (v := undef) (a' := ?_) #[true, true, true, true, true, true, true, true, true, true, true, true, true, true, true, true, true, true, true, true, true, true, true, true, true, true, true, true, true, false, false, false, false, false, false, false, false, false] rfl rfl (any_of HT_.out (by kernel_rfl)) (fun _ _ _ h => h) (Or.inr ⟨by rfl, rfl⟩) ?_ ?_
                  rotate_left
                  · simp only [Act.put, List.setIfInBounds_toArray, List.set_cons_zero, List.set_cons_succ, i64_w, i32_w]
                    rfl
                  refine pure_ (i := 29) (N := some 46) (v := undef) (a' := ?_) #[true, true, true, true, true, true, true, true, true, true, true, true, true, true, true, true, true, true, true, true, true, true, true, true, true, true, true, true, true, true, false, false, false, false, false, false, false, false] rfl rfl (any_of HT_.out (by kernel_rfl)) (fun _ _ _ h => h) (Or.inr ⟨by rfl, rfl⟩) ?_ ?_
                  rotate_left
                  · simp only [Act.put, List.setIfInBounds_toArray, List.set_cons_zero, List.set_cons_succ, i64_w, i32_w]
                    rfl
                  refine pure_ (i := 30) (N := some 47) (v := undef) (a' := ?_) #[true, true, true, true, true, true, true, true, true, true, true, true, true, true, true, true, true, true, true, true, true, true, true, true, true, true, true, true, true, true, true, false, false, false, false, false, false, false] rfl rfl (any_of HT_.out (by kernel_rfl)) (fun _ _ _ h => h) (Or.inr ⟨by rfl, rfl⟩) ?_ ?_
                  rotate_left
                  · simp only [Act.put, List.setIfInBounds_toArray, List.set_cons_zero, List.set_cons_succ, i64_w, i32_w]
                    rfl
                  refine pure_ (i := 31) (N := some 48) (v := undef) (a' := ?_) #[true, true, true, true, true, true, true, true, true, true, true, true, true, true, true, true, true, true, true, true, true, true, true, true, true, true, true, true, true, true, true, true, false, false, false, false, false, false] rfl rfl (any_of HT_.out (by kernel_rfl)) (fun _ _ _ h => h) (Or.inr ⟨by rfl, rfl⟩) ?_ ?_
                  rotate_left
                  · simp only [Act.put, List.setIfInBounds_toArray, List.set_cons_zero, List.set_cons_succ, i64_w, i32_w]
                    rfl
                  refine pure_ (i := 32) (N := some 49) (v := undef) (a' := ?_) #[true, true, true, true, true, true, true, true, true, true, true, true, true, true, true, true, true, true, true, true, true, true, true, true, true, true, true, true, true, true, true, true, true, false, false, false, false, false] rfl rfl (any_of HT_.out (by kernel_rfl)) (fun _ _ _ h => h) (Or.inr ⟨by rfl, rfl⟩) ?_ ?_
                  rotate_left
                  · simp only [Act.put, List.setIfInBounds_toArray, List.set_cons_zero, List.set_cons_succ, i64_w, i32_w]
                    rfl
                  refine pure_ (i := 33) (N := some 50) (v := undef) (a' := ?_) #[true, true, true, true, true, true, true, true, true, true, true, true, true, true, true, true, true, true, true, true, true, true, true, true, true, true, true, true, true, true, true, true, true, true, false, false, false, false] rfl rfl (any_of HT_.out (by kernel_rfl)) (fun _ _ _ h => h) (Or.inr ⟨by rfl, rfl⟩) ?_ ?_
                  rotate_left
                  · simp only [Act.put, List.setIfInBounds_toArray, List.set_cons_zero, List.set_cons_succ, i64_w, i32_w]
                    rfl
                  refine pure_ (i := 34) (N := some 51) (v := undef) (a' := ?_) #[true, true, true, true, true, true, true, true, true, true, true, true, true, true, true, true, true, true, true, true, true, true, true, true, true, true, true, true, true, true, true, true, true, true, true, false, false, false] rfl rfl (any_of HT_.out (by kernel_rfl)) (fun _ _ _ h => h) (Or.inr ⟨by rfl, rfl⟩) ?_ ?_
                  rotate_left
                  · simp only [Act.put, List.setIfInBounds_toArray, List.set_cons_zero, List.set_cons_succ, i64_w, i32_w]
                    rfl
                  refine pure_ (i := 35) (N := some 52) (v := undef) (a' := ?_) #[true, true, true, true, true, true, true, true, true, true, true, true, true, true, true, true, true, true, true, true, true, true, true, true, true, true, true, true, true, true, true, true, true, true, true, true, false, false] rfl rfl (any_of HT_.out (by kernel_rfl)) (fun _ _ _ h => h) (Or.inr ⟨by rfl, rfl⟩) ?_ ?_
                  rotate_left
                  · simp only [Act.put, List.setIfInBounds_toArray, List.set_cons_zero, List.set_cons_succ, i64_w, i32_w]
                    rfl
                  refine pure_ (i := 36) (N := some 53) (v := undef) (a' := ?_) #[true, true, true, true, true, true, true, true, true, true, true, true, true, true, true, true, true, true, true, true, true, true, true, true, true, true, true, true, true, true, true, true, true, true, true, true, true, false] rfl rfl (any_of HT_.out (by kernel_rfl)) (fun _ _ _ h => h) (Or.inr ⟨by rfl, rfl⟩) ?_ ?_
                  rotate_left
                  · simp only [Act.put, List.setIfInBounds_toArray, List.set_cons_zero, List.set_cons_succ, i64_w, i32_w]
                    rfl
                  refine pure_ (i := 37) (N := some 54) (v := ?_) (a' := ?_) #[true, true, true, true, true, true, true, true, true, true, true, true, true, true, true, true, true, true, true, true, true, true, true, true, true, true, true, true, true, true, true, true, true, true, true, true, true, true] rfl rfl (any_of HT_.out (by kernel_rfl)) (fun _ _ _ h => h) (Or.inl ⟨by rfl, ?_⟩) ?_ ?_
                  rotate_left
                  · intro w'
                    go_simp
                    with_reducible rfl
                  rotate_left
                  · simp only [Act.put, List.setIfInBounds_toArray, List.set_cons_zero, List.set_cons_succ, i64_w, i32_w]
                    rfl
                  refine done_ (done_of HT_.out (by kernel_rfl)) ?_
                  try go_wp2
                  go_ret
                  exact ⟨by first | rfl | (simp [errW_none, errW_some] <;> rfl) | (simp [*, errW_none, errW_some] <;> rfl), by repeat (first | (with_reducible first | exact HB.out | apply below_alloc | apply pw_below_drewN | apply below_drew1) | exact HB.out)⟩
              · rw [if_neg c7] at H
                have c7b0 : (((rd_T81 l0 x5_1).f0).toList == ((rd_T81 l1 x5_1).f0).toList) = false := beq_eq_false_iff_ne.mpr c7
                have c7b1 : (((rd_T81 l0 x5_1).f0).toList != ((rd_T81 l1 x5_1).f0).toList) = true := bne_iff_ne.mpr c7
                obtain rfl := Option.some.inj H
                try go_wp2
                have n0_ := Aside0.mk (below_drew1 HB.out)
                clear HB
                have HB := n0_
                clear n0_
                have p43001 : 0 ≤ (x5_1 : Int) := of_decide_eq_true (by first | (with_reducible assumption) | assumption)
                have q43001 : x5_1 < (l0.length : Int) := of_decide_eq_true (by first | (with_reducible assumption) | assumption)
                obtain ⟨ad43001, A43001_1, c43001_1, e43001, hx43001_0, hx43001_1, hx43001_2, hl43001_1, hi43001_1⟩ := at_T81 HR0.out x5_1 p43001 q43001
                have hw43001_2 := hx43001_2
                have hw43001_1 := hx43001_1
                have hw43001_0 := hx43001_0
                cases e43001
                replace hx43001_0 := (HB.out.cell (World.block_lt_of_cell? w _ hx43001_0)).trans hx43001_0
                replace hx43001_1 := (HB.out.cell (World.block_lt_of_cell? w _ hx43001_1)).trans hx43001_1
                replace hx43001_2 := (HB.out.cell (World.block_lt_of_cell? w _ hx43001_2)).trans hx43001_2
                have HR43001_1 := Aside0.mk hi43001_1
                have HC43001_1 := Aside0.mk hl43001_1
                clear hi43001_1 hl43001_1
                replace p43001 := eq_true p43001
                replace q43001 := eq_true q43001
                have p43002 : 0 ≤ (x5_1 : Int) := of_decide_eq_true (by first | (with_reducible assumption) | assumption)
                have q43002 : x5_1 < (l1.length : Int) := of_decide_eq_true (by first | (with_reducible assumption) | assumption)
                obtain ⟨ad43002, A43002_1, c43002_1, e43002, hx43002_0, hx43002_1, hx43002_2, hl43002_1, hi43002_1⟩ := at_T81 HR1.out x5_1 p43002 q43002
                have hw43002_2 := hx43002_2
                have hw43002_1 := hx43002_1
                have hw43002_0 := hx43002_0
                cases e43002
                replace hx43002_0 := (HB.out.cell (World.block_lt_of_cell? w _ hx43002_0)).trans hx43002_0
                replace hx43002_1 := (HB.out.cell (World.block_lt_of_cell? w _ hx43002_1)).trans hx43002_1
                replace hx43002_2 := (HB.out.cell (World.block_lt_of_cell? w _ hx43002_2)).trans hx43002_2
                have HR43002_1 := Aside0.mk hi43002_1
                have HC43002_1 := Aside0.mk hl43002_1
                clear hi43002_1 hl43002_1
                replace p43002 := eq_true p43002
                replace q43002 := eq_true q43002
                refine start_ (n := 38) (S := fun w' => w'.cell? (ad43001.add ((x5_1).toNat * 3)) = some (.string ((rd_T81 l0 x5_1).f0)) ∧ w'.cell? ⟨(ad43001.add ((x5_1).toNat * 3)).block, (ad43001.add ((x5_1).toNat * 3)).off + 1, none⟩ = some (.slice A43001_1 ((rd_T81 l0 x5_1).f1).length c43001_1) ∧ w'.cell? ⟨(ad43001.add ((x5_1).toNat * 3)).block, (ad43001.add ((x5_1).toNat * 3)).off + 2, none⟩ = some (.string ((rd_T81 l0 x5_1).f2)) ∧ w'.cell? (ad43002.add ((x5_1).toNat * 3)) = some (.string ((rd_T81 l1 x5_1).f0)) ∧ w'.cell? ⟨(ad43002.add ((x5_1).toNat * 3)).block, (ad43002.add ((x5_1).toNat * 3)).off + 1, none⟩ = some (.slice A43002_1 ((rd_T81 l1 x5_1).f1).length c43002_1) ∧ w'.cell? ⟨(ad43002.add ((x5_1).toNat * 3)).block, (ad43002.add ((x5_1).toNat * 3)).off + 2, none⟩ = some (.string ((rd_T81 l1 x5_1).f2))) (ds := []) #[false, false, false, false, false, false, false, false, false, false, false, false, false, false, false, false, false, false, false, false, false, false, false, false, false, false, false, false, false, false, false, false, false, false, false, false, false, false] (by kernel_rfl) rfl rfl ⟨((HB.out.cell (World.block_lt_of_cell? w _ hw43001_0)).trans hw43001_0), ((HB.out.cell (World.block_lt_of_cell? w _ hw43001_1)).trans hw43001_1), ((HB.out.cell (World.block_lt_of_cell? w _ hw43001_2)).trans hw43001_2), ((HB.out.cell (World.block_lt_of_cell? w _ hw43002_0)).trans hw43002_0), ((HB.out.cell (World.block_lt_of_cell? w _ hw43002_1)).trans hw43002_1), ((HB.out.cell (World.block_lt_of_cell? w _ hw43002_2)).trans hw43002_2)⟩ (fun hHeld => ?_); refine with_tabW tinderref07_Same.tab6 tinderref07_Same.bits6 (fun HT_ HW_ => ?_)
                generalize wr.drew = w14 at HB HR43001_1 HR43002_1 hx43001_0 hx43001_1 hx43001_2 hx43002_0 hx43002_1 hx43002_2 hHeld ⊢
                refine pure_ (i := 0) (N := some 17) (v := ?_) (a' := ?_) #[true, false, false, false, false, false, false, false, false, false, false, false, false, false, false, false, false, false, false, false, false, false, false, false, false, false, false, false, false, false, false, false, false, false, false, false, false, false] rfl rfl (any_of HT_.out (by kernel_rfl)) (fun _ _ _ h => h) (Or.inl ⟨by rfl, ?_⟩) ?_ ?_
                rotate_left
                · intro w'
                  go_simp
                  with_reducible rfl
                rotate_left
                · simp only [Act.put, List.setIfInBounds_toArray, List.set_cons_zero, List.set_cons_succ, i64_w, i32_w]
                  rfl
                refine pure_ (i := 1) (N := some 18) (v := ?_) (a' := ?_) #[true, true, false, false, false, false, false, false, false, false, false, false, false, false, false, false, false, false, false, false, false, false, false, false, false, false, false, false, false, false, false, false, false, false, false, false, false, false] rfl rfl (any_of HT_.out (by kernel_rfl)) (fun _ _ _ h => h) (Or.inl ⟨by rfl, ?_⟩) ?_ ?_
                rotate_left
                · intro w'
                  go_simp
                  with_reducible rfl
                rotate_left
                · simp only [Act.put, List.setIfInBounds_toArray, List.set_cons_zero, List.set_cons_succ, i64_w, i32_w]
                  rfl
                refine pure_ (i := 2) (N := some 19) (v := ?_) (a' := ?_) #[true, true, true, false, false, false, false, false, false, false, false, false, false, false, false, false, false, false, false, false, false, false, false, false, false, false, false, false, false, false, false, false, false, false, false, false, false, false] rfl rfl (any_of HT_.out (by kernel_rfl)) (fun _ _ _ h => h) (Or.inl ⟨by rfl, ?_⟩) ?_ ?_
                rotate_left
                · intro w'
                  go_simp
                  with_reducible rfl
                rotate_left
                · simp only [Act.put, List.setIfInBounds_toArray, List.set_cons_zero, List.set_cons_succ, i64_w, i32_w]
                  rfl
                refine pure_ (i := 3) (N := some 20) (v := ?_) (a' := ?_) #[true, true, true, true, false, false, false, false, false, false, false, false, false, false, false, false, false, false, false, false, false, false, false, false, false, false, false, false, false, false, false, false, false, false, false, false, false, false] rfl rfl (any_of HT_.out (by kernel_rfl)) (fun _ _ _ h => h) (Or.inl ⟨by rfl, ?_⟩) ?_ ?_
                rotate_left
                · intro w'
                  go_simp
                  with_reducible rfl
                rotate_left
                · simp only [Act.put, List.setIfInBounds_toArray, List.set_cons_zero, List.set_cons_succ, i64_w, i32_w]
                  rfl
                refine pure_ (i := 5) (N := some 22) (v := ?_) (a' := ?_) #[true, true, true, true, false, true, false, false, false, false, false, false, false, false, false, false, false, false, false, false, false, false, false, false, false, false, false, false, false, false, false, false, false, false, false, false, false, false] rfl rfl (any_of HT_.out (by kernel_rfl)) (fun _ _ _ h => h) (Or.inl ⟨by rfl, ?_⟩) ?_ ?_
                rotate_left
                · intro w'
                  go_simp
                  with_reducible rfl
                rotate_left
                · simp only [Act.put, List.setIfInBounds_toArray, List.set_cons_zero, List.set_cons_succ, i64_w, i32_w]
                  rfl
                refine pure_ (i := 6) (N := some 23) (v := ?_) (a' := ?_) #[true, true, true, true, false, true, true, false, false, false, false, false, false, false, false, false, false, false, false, false, false, false, false, false, false, false, false, false, false, false, false, false, false, false, false, false, false, false] rfl rfl (any_of HT_.out (by kernel_rfl)) (fun _ _ _ h => h) (Or.inl ⟨by rfl, ?_⟩) ?_ ?_
                rotate_left
                · intro w'
                  go_simp
                  with_reducible rfl
                rotate_left
                · simp only [Act.put, List.setIfInBounds_toArray, List.set_cons_zero, List.set_cons_succ, i64_w, i32_w]
                  rfl
                refine pure_ (i := 7) (N := some 24) (v := ?_) (a' := ?_) #[true, true, true, true, false, true, true, true, false, false, false, false, false, false, false, false, false, false, false, false, false, false, false, false, false, false, false, false, false, false, false, false, false, false, false, false, false, false] rfl rfl (any_of HT_.out (by kernel_rfl)) (fun _ _ _ h => h) (Or.inl ⟨by rfl, ?_⟩) ?_ ?_
                rotate_left
                · intro w'
                  go_simp
                  with_reducible rfl
                rotate_left
                · simp only [Act.put, List.setIfInBounds_toArray, List.set_cons_zero, List.set_cons_succ, i64_w, i32_w]
                  rfl
                refine pure_ (i := 8) (N := some 25) (v := ?_) (a' := ?_) #[true, true, true, true, false, true, true, true, true, false, false, false, false, false, false, false, false, false, false, false, false, false, false, false, false, false, false, false, false, false, false, false, false, false, false, false, false, false] rfl rfl (any_of HT_.out (by kernel_rfl)) (fun _ _ _ h => h) (Or.inl ⟨by rfl, ?_⟩) ?_ ?_
                rotate_left
                · intro w'
                  go_simp
                  with_reducible rfl
                rotate_left
                · simp only [Act.put, List.setIfInBounds_toArray, List.set_cons_zero, List.set_cons_succ, i64_w, i32_w]
                  rfl
                refine take_ (i := 4) (N := some 21) (v := ?_) (a' := ?_) #[true, true, true, true, true, true, true, true, true, false, false, false, false, false, false, false, false, false, false, false, false, false, false, false, false, false, false, false, false, false, false, false, false, false, false, false, false, false] rfl rfl (take_ofW HT_.out HW_.out (by kernel_rfl)) (fun _ _ _ h => h) (Or.inl ⟨by rfl, ?_⟩) hHeld ?_ ?_
                rotate_left
                · rintro w' ⟨s0, s1, s2, s3, s4, s5⟩
                  go_simp
                  with_reducible rfl
                rotate_left
                · simp only [Act.put, List.setIfInBounds_toArray, List.set_cons_zero, List.set_cons_succ, i64_w, i32_w]
                  rfl
                refine take_ (i := 9) (N := some 26) (v := ?_) (a' := ?_) #[true, true, true, true, true, true, true, true, true, true, false, false, false, false, false, false, false, false, false, false, false, false, false, false, false, false, false, false, false, false, false, false, false, false, false, false, false, false] rfl rfl (take_ofW HT_.out HW_.out (by kernel_rfl)) (fun _ _ _ h => h) (Or.inl ⟨by rfl, ?_⟩) hHeld ?_ ?_
                rotate_left
                · rintro w' ⟨s0, s1, s2, s3, s4, s5⟩
                  go_simp
                  with_reducible rfl
                rotate_left
                · simp only [Act.put, List.setIfInBounds_toArray, List.set_cons_zero, List.set_cons_succ, i64_w, i32_w]
                  rfl
                refine pure_ (i := 10) (N := some 27) (v := ?_) (a' := ?_) #[true, true, true, true, true, true, true, true, true, true, true, false, false, false, false, false, false, false, false, false, false, false, false, false, false, false, false, false, false, false, false, false, false, false, false, false, false, false] rfl rfl (any_of HT_.out (by kernel_rfl)) (fun _ _ _ h => h) (Or.inl ⟨by rfl, ?_⟩) ?_ ?_
                rotate_left
                · intro w'
                  go_simp
                  with_reducible rfl
                rotate_left
                · simp only [Act.put, List.setIfInBounds_toArray, List.set_cons_zero, List.set_cons_succ, i64_w, i32_w]
                  rfl
                refine pure_ (i := 11) (N := some 28) (v := ?_) (a' := ?_) #[true, true, true, true, true, true, true, true, true, true, true, true, false, false, false, false, false, false, false, false, false, false, false, false, false, false, false, false, false, false, false, false, false, false, false, false, false, false] rfl rfl (any_of HT_.out (by kernel_rfl)) (fun _ _ _ h => h) (Or.inl ⟨by rfl, ?_⟩) ?_ ?_
                rotate_left
                · intro w'
                  go_simp
                  with_reducible rfl
                rotate_left
                · simp only [Act.put, List.setIfInBounds_toArray, List.set_cons_zero, List.set_cons_succ, i64_w, i32_w]
                  rfl
                refine pure_ (i := 12) (N := some 29) (v := undef) (a' := ?_) #[true, true, true, true, true, true, true, true, true, true, true, true, true, false, false, false, false, false, false, false, false, false, false, false, false, false, false, false, false, false, false, false, false, false, false, false, false, false] rfl rfl (any_of HT_.out (by kernel_rfl)) (fun _ _ _ h => h) (Or.inr ⟨by rfl, rfl⟩) ?_ ?_
                rotate_left
                · simp only [Act.put, List.setIfInBounds_toArray, List.set_cons_zero, List.set_cons_succ, i64_w, i32_w]
                  rfl
                refine pure_ (i := 13) (N := some 30) (v := undef) (a' := ?_) #[true, true, true, true, true, true, true, true, true, true, true, true, true, true, false, false, false, false, false, false, false, false, false, false, false, false, false, false, false, false, false, false, false, false, false, false, false, false] rfl rfl (any_of HT_.out (by kernel_rfl)) (fun _ _ _ h => h) (Or.inr ⟨by rfl, rfl⟩) ?_ ?_
                rotate_left
                · simp only [Act.put, List.setIfInBounds_toArray, List.set_cons_zero, List.set_cons_succ, i64_w, i32_w]
                  rfl
                refine pure_ (i := 14) (N := some 31) (v := undef) (a' := ?_) #[true, true, true, true, true, true, true, true, true, true, true, true, true, true, true, false, false, false, false, false, false, false, false, false, false, false, false, false, false, false, false, false, false, false, false, false, false, false] rfl rfl (any_of HT_.out (by kernel_rfl)) (fun _ _ _ h => h) (Or.inr ⟨by rfl, rfl⟩) ?_ ?_
                rotate_left
                · simp only [Act.put, List.setIfInBounds_toArray, List.set_cons_zero, List.set_cons_succ, i64_w, i32_w]
                  rfl
                refine pure_ (i := 15) (N := some 32) (v := undef) (a' := ?_) #[true, true, true, true, true, true, true, true, true, true, true, true, true, true, true, true, false, false, false, false, false, false, false, false, false, false, false, false, false, false, false, false, false, false, false, false, false, false] rfl rfl (any_of HT_.out (by kernel_rfl)) (fun _ _ _ h => h) (Or.inr ⟨by rfl, rfl⟩) ?_ ?_
                rotate_left
                · simp only [Act.put, List.setIfInBounds_toArray, List.set_cons_zero, List.set_cons_succ, i64_w, i32_w]
                  rfl
                refine pure_ (i := 16) (N := some 33) (v := undef) (a' := ?_) #[true, true, true, true, true, true, true, true, true, true, true, true, true, true, true, true, true, false, false, false, false, false, false, false, false, false, false, false, false, false, false, false, false, false, false, false, false, false] rfl rfl (any_of HT_.out (by kernel_rfl)) (fun _ _ _ h => h) (Or.inr ⟨by rfl, rfl⟩) ?_ ?_
                rotate_left
                · simp only [Act.put, List.setIfInBounds_toArray, List.set_cons_zero, List.set_cons_succ, i64_w, i32_w]
                  rfl
                refine pure_ (i := 17) (N := some 34) (v := undef) (a' := ?_) #[true, true, true, true, true, true, true, true, true, true, true, true, true, true, true, true, true, true, false, false, false, false, false, false, false, false, false, false, false, false, false, false, false, false, false, false, false, false] rfl rfl (any_of HT_.out (by kernel_rfl)) (fun _ _ _ h => h) (Or.inr ⟨by rfl, rfl⟩) ?_ ?_
                rotate_left
                · simp only [Act.put, List.setIfInBounds_toArray, List.set_cons_zero, List.set_cons_succ, i64_w, i32_w]
                  rfl
                refine pure_ (i := 18) (N := some 35) (v := undef) (a' := ?_) #[true, true, true, true, true, true, true, true, true, true, true, true, true, true, true, true, true, true, true, false, false, false, false, false, false, false, false, false, false, false, false, false, false, false, false, false, false, false] rfl rfl (any_of HT_.out (by kernel_rfl)) (fun _ _ _ h => h) (Or.inr ⟨by rfl, rfl⟩) ?_ ?_
                rotate_left
                · simp only [Act.put, List.setIfInBounds_toArray, List.set_cons_zero, List.set_cons_succ, i64_w, i32_w]
                  rfl
                refine pure_ (i := 19) (N := some 36) (v := undef) (a' := ?_) #[true, true, true, true, true, true, true, true, true, true, true, true, true, true, true, true, true, true, true, true, false, false, false, false, false, false, false, false, false, false, false, false, false, false, false, false, false, false] rfl rfl (any_of HT_.out (by kernel_rfl)) (fun _ _ _ h => h) (Or.inr ⟨by rfl, rfl⟩) ?_ ?_
                rotate_left
                · simp only [Act.put, List.setIfInBounds_toArray, List.set_cons_zero, List.set_cons_succ, i64_w, i32_w]
                  rfl
                refine pure_ (i := 20) (N := some 37) (v := undef) (a' := ?_) #[true, true, true, true, true, true, true, true, true, true, true, true, true, true, true, true, true, true, true, true, true, false, false, false, false, false, false, false, false, false, false, false, false, false, false, false, false, false] rfl rfl (any_of HT_.out (by kernel_rfl)) (fun _ _ _ h => h) (Or.inr ⟨by rfl, rfl⟩) ?_ ?_
                rotate_left
                · simp only [Act.put, List.setIfInBounds_toArray, List.set_cons_zero, List.set_cons_succ, i64_w, i32_w]
                  rfl
                refine pure_ (i := 21) (N := some 38) (v := undef) (a' := ?_) #[true, true, true, true, true, true, true, true, true, true, true, true, true, true, true, true, true, true, true, true, true, true, false, false, false, false, false, false, false, false, false, false, false, false, false, false, false, false] rfl rfl (any_of HT_.out (by kernel_rfl)) (fun _ _ _ h => h) (Or.inr ⟨by rfl, rfl⟩) ?_ ?_
                rotate_left
                · simp only [Act.put, List.setIfInBounds_toArray, List.set_cons_zero, List.set_cons_succ, i64_w, i32_w]
                  rfl
                refine pure_ (i := 22) (N := some 39) (v := undef) (a' := ?_) #[true, true, true, true, true, true, true, true, true, true, true, true, true, true, true, true, true, true, true, true, true, true, true, false, false, false, false, false, false, false, false, false, false, false, false, false, false, false] rfl rfl (any_of HT_.out (by kernel_rfl)) (fun _ _ _ h => h) (Or.inr ⟨by rfl, rfl⟩) ?_ ?_
                rotate_left
                · simp only [Act.put, List.setIfInBounds_toArray, List.set_cons_zero, List.set_cons_succ, i64_w, i32_w]
                  rfl
                refine pure_ (i := 23) (N := some 40) (v := ?_) (a' := ?_) #[true, true, true, true, true, true, true, true, true, true, true, true, true, true, true, true, true, true, true, true, true, true, true, true, false, false, false, false, false, false, false, false, false, false, false, false, false, false] rfl rfl (any_of HT_.out (by kernel_rfl)) (fun _ _ _ h => h) (Or.inl ⟨by rfl, ?_⟩) ?_ ?_
                rotate_left
                · intro w'
                  go_simp
                  with_reducible rfl
                rotate_left
                · simp only [Act.put, List.setIfInBounds_toArray, List.set_cons_zero, List.set_cons_succ, i64_w, i32_w]
                  rfl
                refine pure_ (i := 24) (N := some 41) (v := ?_) (a' := ?_) #[true, true, true, true, true, true, true, true, true, true, true, true, true, true, true, true, true, true, true, true, true, true, true, true, true, false, false, false, false, false, false, false, false, false, false, false, false, false] rfl rfl (any_of HT_.out (by kernel_rfl)) (fun _ _ _ h => h) (Or.inl ⟨by rfl, ?_⟩) ?_ ?_
                rotate_left
                · intro w'
                  go_simp
                  with_reducible rfl
                rotate_left
                · simp only [Act.put, List.setIfInBounds_toArray, List.set_cons_zero, List.set_cons_succ, i64_w, i32_w]
                  rfl
                refine pure_ (i := 25) (N := some 42) (v := undef) (a' := ?_) #[true, true, true, true, true, true, true, true, true, true, true, true, true, true, true, true, true, true, true, true, true, true, true, true, true, true, false, false, false, false, false, false, false, false, false, false, false, false] rfl rfl (any_of HT_.out (by kernel_rfl)) (fun _ _ _ h => h) (Or.inr ⟨by rfl, rfl⟩) ?_ ?_
                rotate_left
                · simp only [Act.put, List.setIfInBounds_toArray, List.set_cons_zero, List.set_cons_succ, i64_w, i32_w]
                  rfl
                refine pure_ (i := 26) (N := some 43) (v := undef) (a' := ?_) #[true, true, true, true, true, true, true, true, true, true, true, true, true, true, true, true, true, true, true, true, true, true, true, true, true, true, true, false, false, false, false, false, false, false, false, false, false, false] rfl rfl (any_of HT_.out (by kernel_rfl)) (fun _ _ _ h => h) (Or.inr ⟨by rfl, rfl⟩) ?_ ?_
                rotate_left
                · simp only [Act.put, List.setIfInBounds_toArray, List.set_cons_zero, List.set_cons_succ, i64_w, i32_w]
                  rfl
                refine pure_ (i := 27) (N := some 44) (v := undef) (a' := ?_) #[true, true, true, true, true, true, true, true, true, true, true, true, true, true, true, true, true, true, true, true, true, true, true, true, true, true, true, true, false, false, false, false, false, false, false, false, false, false] rfl rfl (any_of HT_.out (by kernel_rfl)) (fun _ _ _ h => h) (Or.inr ⟨by rfl, rfl⟩) ?_ ?_
                rotate_left
                · simp only [Act.put, List.setIfInBounds_toArray, List.set_cons_zero, List.set_cons_succ, i64_w, i32_w]
                  rfl
                refine pure_ (i := 28) (N := some 45) (v := undef) (a' := ?_) #[true, true, true, true, true, true, true, true, true, true, true, true, true, true, true, true, true, true, true, true, true, true, true, true, true, true, true, true, true, false, false, false, false, false, false, false, false, false] rfl rfl (any_of HT_.out (by kernel_rfl)) (fun _ _ _ h => h) (Or.inr ⟨by rfl, rfl⟩) ?_ ?_
                rotate_left
                · simp only [Act.put, List.setIfInBounds_toArray, List.set_cons_zero, List.set_cons_succ, i64_w, i32_w]
                  rfl
                refine pure_ (i := 29) (N := some 46) (v := undef) (a' := ?_) #[true, true, true, true, true, true, true, true, true, true, true, true, true, true, true, true, true, true, true, true, true, true, true, true, true, true, true, true, true, true, false, false, false, false, false, false, false, false] rfl rfl (any_of HT_.out (by kernel_rfl)) (fun _ _ _ h => h) (Or.inr ⟨by rfl, rfl⟩) ?_ ?_
                rotate_left
                · simp only [Act.put, List.setIfInBounds_toArray, List.set_cons_zero, List.set_cons_succ, i64_w, i32_w]
                  rfl
                refine pure_ (i := 30) (N := some 47) (v := undef) (a' := ?_) #[true, true, true, true, true, true, true, true, true, true, true, true, true, true, true, true, true, true, true, true, true, true, true, true, true, true, true, true, true, true, true, false, false, false, false, false, false, false] rfl rfl (any_of HT_.out (by kernel_rfl)) (fun _ _ _ h => h) (Or.inr ⟨by rfl, rfl⟩) ?_ ?_
                rotate_left
                · simp only [Act.put, List.setIfInBounds_toArray, List.set_cons_zero, List.set_cons_succ, i64_w, i32_w]
                  rfl
                refine pure_ (i := 31) (N := some 48) (v := undef) (a' := ?_) #[true, true, true, true, true, true, true, true, true, true, true, true, true, true, true, true, true, true, true, true, true, true, true, true, true, true, true, true, true, true, true, true, false, false, false, false, false, false] rfl rfl (any_of HT_.out (by kernel_rfl)) (fun _ _ _ h => h) (Or.inr ⟨by rfl, rfl⟩) ?_ ?_
                rotate_left
                · simp only [Act.put, List.setIfInBounds_toArray, List.set_cons_zero, List.set_cons_succ, i64_w, i32_w]
                  rfl
                refine pure_ (i := 32) (N := some 49) (v := undef) (a' := ?_) #[true, true, true, true, true, true, true, true, true, true, true, true, true, true, true, true, true, true, true, true, true, true, true, true, true, true, true, true, true, true, true, true, true, false, false, false, false, false] rfl rfl (any_of HT_.out (by kernel_rfl)) (fun _ _ _ h => h) (Or.inr ⟨by rfl, rfl⟩) ?_ ?_
                rotate_left
                · simp only [Act.put, List.setIfInBounds_toArray, List.set_cons_zero, List.set_cons_succ, i64_w, i32_w]
                  rfl
                refine pure_ (i := 33) (N := some 50) (v := undef) (a' := ?_) #[true, true, true, true, true, true, true, true, true, true, true, true, true, true, true, true, true, true, true, true, true, true, true, true, true, true, true, true, true, true, true, true, true, true, false, false, false, false] rfl rfl (any_of HT_.out (by kernel_rfl)) (fun _ _ _ h => h) (Or.inr ⟨by rfl, rfl⟩) ?_ ?_
                rotate_left
                · simp only [Act.put, List.setIfInBounds_toArray, List.set_cons_zero, List.set_cons_succ, i64_w, i32_w]
                  rfl
                refine pure_ (i := 34) (N := some 51) (v := undef) (a' := ?_) #[true, true, true, true, true, true, true, true, true, true, true, true, true, true, true, true, true, true, true, true, true, true, true, true, true, true, true, true, true, true, true, true, true, true, true, false, false, false] rfl rfl (any_of HT_.out (by kernel_rfl)) (fun _ _ _ h => h) (Or.inr ⟨by rfl, rfl⟩) ?_ ?_
                rotate_left
                · simp only [Act.put, List.setIfInBounds_toArray, List.set_cons_zero, List.set_cons_succ, i64_w, i32_w]
                  rfl
                refine pure_ (i := 35) (N := some 52) (v := undef) (a' := ?_) #[true, true, true, true, true, true, true, true, true, true, true, true, true, true, true, true, true, true, true, true, true, true, true, true, true, true, true, true, true, true, true, true, true, true, true, true, false, false] rfl rfl (any_of HT_.out (by kernel_rfl)) (fun _ _ _ h => h) (Or.inr ⟨by rfl, rfl⟩) ?_ ?_
                rotate_left
                · simp only [Act.put, List.setIfInBounds_toArray, List.set_cons_zero, List.set_cons_succ, i64_w, i32_w]
                  rfl
                refine pure_ (i := 36) (N := some 53) (v := undef) (a' := ?_) #[true, true, true, true, true, true, true, true, true, true, true, true, true, true, true, true, true, true, true, true, true, true, true, true, true, true, true, true, true, true, true, true, true, true, true, true, true, false] rfl rfl (any_of HT_.out (by kernel_rfl)) (fun _ _ _ h => h) (Or.inr ⟨by rfl, rfl⟩) ?_ ?_
                rotate_left
                · simp only [Act.put, List.setIfInBounds_toArray, List.set_cons_zero, List.set_cons_succ, i64_w, i32_w]
                  rfl
                refine pure_ (i := 37) (N := some 54) (v := ?_) (a' := ?_) #[true, true, true, true, true, true, true, true, true, true, true, true, true, true, true, true, true, true, true, true, true, true, true, true, true, true, true, true, true, true, true, true, true, true, true, true, true, true] rfl rfl (any_of HT_.out (by kernel_rfl)) (fun _ _ _ h => h) (Or.inl ⟨by rfl, ?_⟩) ?_ ?_
                rotate_left
                · intro w'
                  go_simp
                  with_reducible rfl
                rotate_left
                · simp only [Act.put, List.setIfInBounds_toArray, List.set_cons_zero, List.set_cons_succ, i64_w, i32_w]
                  rfl
                refine done_ (done_of HT_.out (by kernel_rfl)) ?_
                try go_wp2
                go_ret
                exact ⟨by first | rfl | (simp [errW_none, errW_some] <;> rfl) | (simp [*, errW_none, errW_some] <;> rfl), by repeat (first | (with_reducible first | exact HB.out | apply below_alloc | apply pw_below_drewN | apply below_drew1) | exact HB.out)⟩
            · rw [if_neg c6] at H
              exact absurd H (by simp)
          · rw [if_neg c5] at H
            exact absurd H (by simp)
        · rw [if_neg c4] at H
          have c4b0 : decide (x5_1 < (l0.length : Int)) = false := decide_eq_false c4
          clear c4
          obtain rfl := Option.some.inj H
          go_wp2
          go_ret
          exact ⟨by first | rfl | (simp [errW_none, errW_some] <;> rfl) | (simp [*, errW_none, errW_some] <;> rfl), by repeat (first | (with_reducible first | exact HB.out | apply below_alloc | apply pw_below_drewN | apply below_drew1) | exact HB.out)⟩
  · rw [if_neg c3] at H
    have c3b0 : ((l0.length : Int) == (l1.length : Int)) = false := beq_eq_false_iff_ne.mpr c3
    have c3b1 : ((l0.length : Int) != (l1.length : Int)) = true := bne_iff_ne.mpr c3
    have c3b2 : (l0.length == l1.length) = false := by first | simpa using c3 | (simp at c3 ⊢; omega)
    obtain rfl := Option.some.inj H
    go_enter Tryd.func42, Tryd.ntmps42
    go_wp2
    go_ret
    exact ⟨by first | rfl | (simp [errW_none, errW_some] <;> rfl) | (simp [*, errW_none, errW_some] <;> rfl), by repeat (first | (with_reducible first | exact HB.out | apply below_alloc | apply pw_below_drewN | apply below_drew1) | exact HB.out)⟩

end Go.Proofs.YtlhnaplmphdhlaaDoor.Q
end
section
set_option linter.unusedSimpArgs false
set_option linter.unusedVariables false
namespace Go.Proofs.YtlhnaplmphdhlaaDoor.Q
open Go.RowKit Go.Proofs.YtlhnaplmphdhlaaDoorW.PrintWords Go.Proofs.YtlhnaplmphdhlaaDoorW.PrintLast
/-- How many bytes stand ahead of the first c. -/
def nextB (c : UInt8) : List UInt8 → Nat
  | [] => 0
  | a :: l => if a = c then 0 else nextB c l + 1
theorem nextB_le (c : UInt8) : ∀ l : List UInt8, nextB c l ≤ l.length
  | [] => Nat.le_refl _
  | a :: l => by
    have := nextB_le c l
    rw [nextB]
    split
    · exact Nat.zero_le _
    · rw [List.length_cons]; omega
theorem nextB_none (c : UInt8) : ∀ (l : List UInt8) (j : Nat), j < nextB c l → l[j]? ≠ some c
  | [], j, h => absurd h (by simp [nextB])
  | a :: l, j, h => by
    rw [nextB] at h
    split at h
    · omega
    · rename_i ha
      cases j with
      | zero => simpa using ha
      | succ j => rw [List.getElem?_cons_succ]; exact nextB_none c l j (by omega)
theorem nextB_at (c : UInt8) : ∀ l : List UInt8, nextB c l < l.length → l[nextB c l]? = some c
  | [], h => absurd h (by simp)
  | a :: l, h => by
    rw [nextB] at h ⊢
    split
    · rename_i ha; simp [ha]
    · rename_i ha
      rw [if_neg ha, List.length_cons] at h
      rw [List.getElem?_cons_succ]
      exact nextB_at c l (by omega)
theorem index_next (c : UInt8) : ∀ l : List UInt8, Lib.indexByte l c = if nextB c l < l.length then (nextB c l : Int) else -1
  | [] => by rw [Lib.indexByte]; rfl
  | a :: l => by
    have ih := index_next c l
    have hle := nextB_le c l
    rw [Lib.indexByte, nextB]
    by_cases ha : a = c
    · rw [if_pos ha, if_pos (beq_iff_eq.2 ha), if_pos (by simp)]
      rfl
    · rw [if_neg ha, if_neg (by simpa using ha), ih]
      by_cases hl : nextB c l < l.length
      · rw [if_pos hl, if_neg (show ¬ (((nextB c l : Nat) : Int) == -1) = true by simp), if_pos (by rw [List.length_cons]; omega)]
        omega
      · rw [if_neg hl, if_pos (show ((-1 : Int) == -1) = true by decide), if_neg (by rw [List.length_cons]; omega)]
theorem cuts_next (c : UInt8) (l : List UInt8) : cuts c l = if nextB c l < l.length then l.take (nextB c l) :: cuts c (l.drop (nextB c l + 1)) else [l] := by
  by_cases h : nextB c l < l.length
  · rw [if_pos h]
    exact cuts_at c _ l (nextB_none c l) (nextB_at c l h)
  · rw [if_neg h]
    refine cuts_end c l (fun j hj => ?_)
    have hlt := (List.getElem?_eq_some_iff.1 hj).1
    have hle := nextB_le c l
    exact nextB_none c l j (by omega) hj
theorem bytes_len (s : ByteArray) : s.data.toList.length = s.size := Array.length_toList
theorem head_next (c : UInt8) (s : ByteArray) : headC c s = s.extract 0 (nextB c s.data.toList) ∧ (0 ≤ ixC c s ↔ nextB c s.data.toList < s.size) ∧ tailC c s = if nextB c s.data.toList < s.size then s.extract (nextB c s.data.toList + 1) s.size else ⟨#[]⟩ := by
  have hle := nextB_le c s.data.toList
  have e := index_next c s.data.toList
  rw [bytes_len] at hle e
  unfold headC tailC ixC
  rw [e]
  by_cases h : nextB c s.data.toList < s.size
  · rw [if_pos h, if_pos (by omega), if_pos (by omega), if_pos h]
    exact ⟨rfl, ⟨fun _ => h, fun _ => by omega⟩, rfl⟩
  · rw [if_neg h, if_neg (by decide), if_neg (by decide), if_neg h]
    refine ⟨?_, ⟨fun h2 => absurd h2 (by decide), fun h2 => absurd h2 h⟩, rfl⟩
    rw [show nextB c s.data.toList = s.size by omega]
    simp
theorem sameu_l0p (L : List Int) (hl : L.length ≤ 1000000000) : ∀ (k : Nat) (i : Int), 0 ≤ i → i ≤ L.length → L.length + 1 ≤ k + i → tinderref03_Same.l0 k L L i = some true := by
  intro k
  induction k with
  | zero => intro i h0 hi hk; exact absurd hk (by omega)
  | succ k ih =>
    intro i h0 hi hk
    unfold tinderref03_Same.l0
    by_cases h : i < (L.length : Int)
    · rw [if_pos h, if_pos h0, if_pos h, if_pos rfl, show wrap64 (i + 1) = i + 1 by unfold wrap64; omega]
      exact ih (i + 1) (by omega) (by omega) (by omega)
    · rw [if_neg h]
theorem sameu_eqp (k : Nat) (L : List Int) (hl : L.length ≤ 1000000000) (hk : L.length + 1 ≤ k) : tinderref03_Same.f k L L = some true := by
  unfold tinderref03_Same.f
  rw [if_pos rfl]
  exact sameu_l0p L hl k 0 (Int.le_refl _) (by omega) (by omega)
theorem samep_l0 (X : List S81) (hl : X.length ≤ 1000000000) (m : Nat) (hm : m ≤ 1000000000) (hu : ∀ x ∈ X, x.f1.length ≤ m) : ∀ (d k i : Nat), i + d = X.length → d + m + 2 ≤ k → tinderref07_Same.l0 k X X (i : Int) = some true
  | 0, k, i, hi, hk => by
    obtain ⟨k, rfl⟩ : ∃ m, k = m + 1 := ⟨k - 1, by omega⟩
    unfold tinderref07_Same.l0
    rw [if_neg (by omega)]
  | d + 1, k, i, hi, hk => by
    obtain ⟨k, rfl⟩ : ∃ m, k = m + 1 := ⟨k - 1, by omega⟩
    have hx : (rd_T81 X (i : Int)) ∈ X := by
      unfold rd_T81
      rw [Int.toNat_natCast, List.getD_eq_getElem?_getD, List.getElem?_eq_getElem (by omega)]
      exact List.getElem_mem _
    have hxl := hu _ hx
    unfold tinderref07_Same.l0
    rw [if_pos (by omega), if_pos (by omega), if_pos (by omega), if_pos rfl, if_pos rfl, sameu_eqp k _ (by omega) (by omega), Option.bind_some, if_pos rfl, show wrap64 ((i : Int) + 1) = ((i + 1 : Nat) : Int) by unfold wrap64; omega]
    exact samep_l0 X hl m hm hu d k (i + 1) (by omega) (by omega)
theorem samep_eq (k : Nat) (X : List S81) (m : Nat) (hl : X.length ≤ 1000000000) (hm : m ≤ 1000000000) (hu : ∀ x ∈ X, x.f1.length ≤ m) (hk : X.length + m + 2 ≤ k) : tinderref07_Same.f k X X = some true := by
  unfold tinderref07_Same.f
  rw [if_pos rfl]
  exact samep_l0 X hl m hm hu X.length k 0 (by omega) (by omega)
theorem unitF_len4 (s : ByteArray) : (unitF s).1.length ≤ 4 := by
  unfold unitF
  split
  · split
    · exact Nat.zero_le _
    · rw [List.length_map]; omega
  · exact Nat.zero_le _
theorem stepF_unit (s : ByteArray) : (stepF s).1.f1.length ≤ 4 := by
  unfold stepF
  split
  · split
    · split
      · exact unitF_len4 _
      · exact Nat.zero_le _
    · exact Nat.zero_le _
  · exact Nat.zero_le _
theorem parseF_len (s : ByteArray) : (parseF s).1.length ≤ 300 ∧ ∀ x ∈ (parseF s).1, x.f1.length ≤ 4 := by
  unfold parseF
  split
  · exact ⟨Nat.zero_le _, fun x h => by cases h⟩
  · rename_i hs
    split
    · exact ⟨Nat.zero_le _, fun x h => by cases h⟩
    · rename_i a r hd
      have hl : r.length + 1 = s.size := by rw [← bytes_len, hd]; rfl
      split
      · split
        · exact ⟨Nat.zero_le _, fun x h => by cases h⟩
        · split
          · refine ⟨?_, fun x h => ?_⟩
            · show ((cuts 47 r).map stepV).length ≤ 300
              have := cuts_len 47 r
              rw [List.length_map]
              omega
            · obtain ⟨p, _, rfl⟩ := List.mem_map.1 h
              exact stepF_unit _
          · exact ⟨Nat.zero_le _, fun x h => by cases h⟩
      · exact ⟨Nat.zero_le _, fun x h => by cases h⟩
end Go.Proofs.YtlhnaplmphdhlaaDoor.Q
end
section
namespace Go.Proofs.YtlhnaplmphdhlaaDoor.Q
open Go.RowKit Go.Proofs.YtlhnaplmphdhlaaDoorW.PrintWords Go.Proofs.YtlhnaplmphdhlaaDoorW.PrintLast Go.Proofs.YtlhnaplmphdhlaaDoorW.PrintMore
set_option linter.unusedVariables false
set_option linter.unusedSimpArgs false

attribute [local go_sem] max2_int min2_int max_two min_two max_three min_three max_four min_four
/-! ### tinderref07_Show: function 44 -/
mutual
def tinderref07_Show.l0 : Nat → List (S81) → Int → Option (ByteArray × Int)
  | 0, _, _ => none
  | k + 1, x0, x5 => if x5 < (x0.length : Int) then (if 0 ≤ x5 then ((tinderref05_Named.f k ((rd_T81 x0 x5).f0)).bind fun t45003 => (if t45003 = true then (if (((rd_T81 x0 x5).f1).length : Int) > 4 then (some ((⟨#[]⟩ : ByteArray), 1)) else ((tinderref07_Place.f k ((rd_T81 x0 x5).f2) 0 47).bind fun t45004 => (if t45004 < (((rd_T81 x0 x5).f2).size : Int) then (some ((⟨#[]⟩ : ByteArray), 1)) else (tinderref07_Show.l0 k x0 (wrap64 (x5 + 1)))))) else (some ((⟨#[]⟩ : ByteArray), 1)))) else (none)) else (tinderref07_Show.l1 k x0 ([] : List Int) 0)
def tinderref07_Show.l1 : Nat → List (S81) → List Int → Int → Option (ByteArray × Int)
  | 0, _, _, _ => none
  | k + 1, x0, x4, x7 => if x7 < (x0.length : Int) then (if 0 ≤ x7 then (if x4.length < 140737488355328 then ((some (x4 ++ [47] : List Int)).bind fun y45007 => (if y45007.length + ((rd_T81 x0 x7).f0).size < 140737488355328 then ((some (y45007 ++ bytesOf ((rd_T81 x0 x7).f0) : List Int)).bind fun y45010 => (if (((rd_T81 x0 x7).f1).length : Int) > 0 then (if y45010.length < 140737488355328 then ((some (y45010 ++ [64] : List Int)).bind fun y45013 => ((tinderref05_ShowUnit.f k ((rd_T81 x0 x7).f1)).bind fun t45016 => (if y45013.length + t45016.size < 140737488355328 then ((some (y45013 ++ bytesOf t45016 : List Int)).bind fun y45017 => (if ((rd_T81 x0 x7).f2).toList = ([] : List UInt8) then (tinderref07_Show.l1 k x0 y45017 (wrap64 (x7 + 1))) else (if y45017.length < 140737488355328 then ((some (y45017 ++ [58] : List Int)).bind fun y45020 => (if y45020.length + ((rd_T81 x0 x7).f2).size < 140737488355328 then (tinderref07_Show.l1 k x0 (y45020 ++ bytesOf ((rd_T81 x0 x7).f2)) (wrap64 (x7 + 1))) else (none))) else (none)))) else (none)))) else (none)) else (if ((rd_T81 x0 x7).f2).toList = ([] : List UInt8) then (tinderref07_Show.l1 k x0 y45010 (wrap64 (x7 + 1))) else (if y45010.length < 140737488355328 then ((some (y45010 ++ [58] : List Int)).bind fun y45026 => (if y45026.length + ((rd_T81 x0 x7).f2).size < 140737488355328 then (tinderref07_Show.l1 k x0 (y45026 ++ bytesOf ((rd_T81 x0 x7).f2)) (wrap64 (x7 + 1))) else (none))) else (none))))) else (none))) else (none)) else (none)) else (if (x0.length : Int) = 0 then (some ((⟨#[47]⟩ : ByteArray), 0)) else (if (x4.length : Int) > 256 then (some ((⟨#[]⟩ : ByteArray), 3)) else (some (strOfNums x4, 0))))
end
def tinderref07_Show.f (k : Nat) (l0 : List (S81)) : Option (ByteArray × Int) := tinderref07_Show.l0 k l0 0

end Go.Proofs.YtlhnaplmphdhlaaDoor.Q
end
section
set_option linter.unusedSimpArgs false
set_option linter.unusedVariables false
namespace Go.Proofs.YtlhnaplmphdhlaaDoor.Q
open Go.RowKit Go.Proofs.YtlhnaplmphdhlaaDoorW.PrintWords Go.Proofs.YtlhnaplmphdhlaaDoorW.PrintLast
def numsB (l : List UInt8) : List Int := l.map fun b => (b.toNat : Int)
/-- How much steps weigh. -/
def wt81 (x : S81) : Nat := x.f0.size + ((x.f1.map fun _ => 0 + 1).sum + x.f2.size)
def wtL (l : List S81) : Nat := (l.map fun x => wt81 x + 1).sum
end Go.Proofs.YtlhnaplmphdhlaaDoor.Q
end
section
set_option linter.unusedSimpArgs false
set_option linter.unusedVariables false
namespace Go.Proofs.YtlhnaplmphdhlaaDoor.Q
open Go.RowKit Go.Proofs.YtlhnaplmphdhlaaDoorW.PrintWords Go.Proofs.YtlhnaplmphdhlaaDoorW.PrintLast
theorem showB_size (b u : Int) : (showB b u).size = (showL b.toNat u.toNat).length := by
  show (showL b.toNat u.toNat).toArray.size = _
  rw [List.size_toArray]
theorem showB_small (b u : Int) (hb : 2 ≤ b) (hu : 0 ≤ u ∧ u < 4294967296) : 1 ≤ (showB b u).size ∧ (showB b u).size ≤ 32 := by
  rw [showB_size]
  exact ⟨showL_pos _ _, showL_len b.toNat (by omega) 31 u.toNat (by omega)⟩
theorem bytes_show (b u : Int) : bytesOf (showB b u) = showI b u := rfl
theorem num_ch (r : Int) (h : 0 ≤ r ∧ r < 36) : numF (chI r) = r := by
  unfold numF chI
  split <;> split <;> (try split) <;> (try split) <;> omega
theorem val_ch (r b : Int) (h : 0 ≤ r ∧ r < b) (hb : 2 ≤ b ∧ b ≤ 36) : valF (chI r) b = (r, true) := by
  unfold valF
  rw [num_ch r (by omega), if_pos (by omega)]
theorem parL_snoc (b c : Int) (l : List Int) : ∀ n g, parL b (l ++ [c]) n g = (parL b l n g).bind fun p => parL b [c] p.1 p.2 := by
  induction l with
  | nil => intro n g; rfl
  | cons x l ih =>
    intro n g
    rw [List.cons_append, parL_cons, parL_cons]
    by_cases h1 : (valF x b).2 = true
    · rw [if_pos h1, if_pos h1]
      cases g
      · rw [if_neg Bool.false_ne_true, if_neg Bool.false_ne_true]; exact ih _ _
      · rw [if_pos rfl, if_pos rfl]; exact ih _ _
    · rw [if_neg h1, if_neg h1]; rfl
theorem par_show (b : Int) (hb : 2 ≤ b ∧ b ≤ 36) (m : Nat) : (m : Int) < 4294967296 → parL b (showI b m) 0 false = some ((m : Int), false) := by
  induction m using Nat.strongRecOn with
  | ind m ih =>
    intro hm
    by_cases h : (m : Int) < b
    · rw [showI_small (by omega) h hb.2, parL_cons, val_ch m b ⟨by omega, h⟩ hb, if_pos rfl, if_neg Bool.false_ne_true]
      show parL b [] (0 * b + (m : Int)) (decide (0 * b + (m : Int) ≥ 4294967296)) = _
      rw [Int.zero_mul, Int.zero_add, decide_eq_false (by omega), parL_nil]
    · have hq : (m : Int) / b = ((m / b.toNat : Nat) : Int) := by
        obtain ⟨x, rfl⟩ := Int.eq_ofNat_of_zero_le (show 0 ≤ b by omega)
        rfl
      have hlt : m / b.toNat < m := Nat.div_lt_self (by omega) (by omega)
      have hdm := Int.mul_ediv_add_emod (m : Int) b
      have hm0 := Int.emod_nonneg (m : Int) (show b ≠ 0 by omega)
      have hm1 := Int.emod_lt_of_pos (m : Int) (show 0 < b by omega)
      rw [showI_big hb.1 hb.2 (by omega), parL_snoc, hq, ih _ hlt (by omega), Option.bind_some, parL_cons, val_ch _ b ⟨hm0, hm1⟩ hb, if_pos rfl, if_neg Bool.false_ne_true]
      rw [← hq]
      have e : (m : Int) / b * b + (m : Int) % b = m := by rw [Int.mul_comm]; exact hdm
      show parL b [] ((m : Int) / b * b + (m : Int) % b) (decide ((m : Int) / b * b + (m : Int) % b ≥ 4294967296)) = _
      rw [e, decide_eq_false (by omega), parL_nil]
theorem par_show' (b u : Int) (hb : 2 ≤ b ∧ b ≤ 36) (hu : 0 ≤ u ∧ u < 4294967296) : parL b (showI b u) 0 false = some (u, false) := by
  obtain ⟨m, rfl⟩ := Int.eq_ofNat_of_zero_le hu.1
  exact par_show b hb m hu.2
theorem ch_big (r : Int) (h : 0 ≤ r) : 48 ≤ chI r := by unfold chI; split <;> omega
theorem show_first (b : Int) (hb : 2 ≤ b ∧ b ≤ 36) (m : Nat) : ∀ c ∈ showI b m, 48 ≤ c := by
  induction m using Nat.strongRecOn with
  | ind m ih =>
    intro c hc
    by_cases h : (m : Int) < b
    · rw [showI_small (by omega) h hb.2] at hc
      rw [List.mem_singleton.1 hc]
      exact ch_big _ (by omega)
    · have hq : (m : Int) / b = ((m / b.toNat : Nat) : Int) := by
        obtain ⟨x, rfl⟩ := Int.eq_ofNat_of_zero_le (show 0 ≤ b by omega)
        rfl
      have hm0 := Int.emod_nonneg (m : Int) (show b ≠ 0 by omega)
      rw [showI_big hb.1 hb.2 (by omega), hq] at hc
      rcases List.mem_append.1 hc with hc | hc
      · exact ih _ (Nat.div_lt_self (by omega) (by omega)) c hc
      · rw [List.mem_singleton.1 hc]
        exact ch_big _ hm0
theorem show_nominus (b u : Int) (hb : 2 ≤ b ∧ b ≤ 36) (hu : 0 ≤ u ∧ u < 4294967296) : ¬ bt (showB b u) 0 = 45 := by
  obtain ⟨m, rfl⟩ := Int.eq_ofNat_of_zero_le hu.1
  have hs := showB_small b m hb.1 hu
  have hl : 0 < (showI b m).length := by rw [← bytes_show, bytesOf_length]; omega
  have h := show_first b hb m ((showI b m)[0]) (List.getElem_mem hl)
  intro he
  rw [← rd_bytesOf, bytes_show] at he
  have : rd (showI b m) 0 = (showI b m)[0] := by simp [rd, List.getD_eq_getElem?_getD, List.getElem?_eq_getElem hl]
  omega
theorem parF_show (b u : Int) (hb : 2 ≤ b ∧ b ≤ 36) (hu : 0 ≤ u ∧ u < 4294967296) : parF (showB b u) b = (u, 0) := by
  have hs := showB_small b u hb.1 hu
  unfold parF
  rw [if_pos hb, if_neg (fun h => show_nominus b u hb hu h.2), if_neg (by omega), bytes_show, par_show' b u hb hu, resF_pos]
theorem hex_all (m : Nat) : ∀ c ∈ showL 16 m, (48 ≤ c.toNat ∧ c.toNat ≤ 57) ∨ (97 ≤ c.toNat ∧ c.toNat ≤ 102) := by
  induction m using Nat.strongRecOn with
  | ind m ih =>
    have hd : ∀ r, r < 16 → (48 ≤ (UInt8.ofNat (chN r)).toNat ∧ (UInt8.ofNat (chN r)).toNat ≤ 57) ∨ (97 ≤ (UInt8.ofNat (chN r)).toNat ∧ (UInt8.ofNat (chN r)).toNat ≤ 102) := by
      intro r hr
      rw [UInt8.toNat_ofNat']
      unfold chN
      split <;> omega
    by_cases h : m < 16
    · rw [showL_small h]
      intro c hc
      rw [List.mem_singleton.1 hc]
      exact hd m h
    · rw [showL_big (by decide) (by omega)]
      intro c hc
      rcases List.mem_append.1 hc with hc | hc
      · exact ih (m / 16) (by omega) c hc
      · rw [List.mem_singleton.1 hc]
        exact hd (m % 16) (by omega)
theorem hex_len (k : Nat) : ∀ u : Nat, u < 16 ^ (k + 1) → (showL 16 u).length ≤ k + 1 := by
  induction k with
  | zero =>
    intro u h
    rw [showL_small (by omega)]
    simp
  | succ k ih =>
    intro u h
    by_cases hs : u < 16
    · rw [showL_small hs]
      simp
    · rw [showL_big (by decide) (by omega), List.length_append, List.length_singleton]
      have := ih (u / 16) (by rw [Nat.pow_succ] at h; omega)
      omega
theorem shL_len8 (v : Int) (h : 0 ≤ v ∧ v < 4294967296) : (shL v).length ≤ 8 := by
  have e : (16 : Nat) ^ (7 + 1) = 4294967296 := by decide
  exact hex_len 7 v.toNat (by omega)
theorem shL_no (v : Int) (c : UInt8) (hc : c = 44 ∨ c = 47 ∨ c = 58 ∨ c = 64) : c ∉ shL v := fun h => by
  have h2 := hex_all v.toNat c h
  rcases hc with rfl | rfl | rfl | rfl <;> revert h2 <;> decide
theorem no_get {c : UInt8} {l : List UInt8} (h : c ∉ l) (j : Nat) : l[j]? ≠ some c := fun e => h (List.mem_of_getElem? e)
theorem nextB_no (c : UInt8) : ∀ (a : List UInt8), c ∉ a → nextB c a = a.length
  | [], _ => rfl
  | x :: a, h => by
    rw [nextB, if_neg (fun e => h (by simp [e])), nextB_no c a (fun e => h (by simp [e]))]
    rfl
theorem nextB_app (c : UInt8) (b : List UInt8) : ∀ (a : List UInt8), c ∉ a → nextB c (a ++ c :: b) = a.length
  | [], _ => by rw [List.nil_append, nextB, if_pos rfl]; rfl
  | x :: a, h => by
    rw [List.cons_append, nextB, if_neg (fun e => h (by simp [e])), nextB_app c b a (fun e => h (by simp [e]))]
    rfl
theorem cuts_join (c : UInt8) : ∀ (x : List UInt8) (xs : List (List UInt8)), (∀ p ∈ x :: xs, c ∉ p) → cuts c (Lib.join (x :: xs) [c]) = x :: xs
  | x, [], h => by
    rw [Lib.join_one]
    exact cuts_end c x (fun j => no_get (h x (by simp)) j)
  | x, y :: ys, h => by
    have hj : Lib.join (x :: y :: ys) [c] = x ++ c :: Lib.join (y :: ys) [c] := by
      rw [Lib.join_cons, Lib.join_cons]
      unfold Lib.joinTail
      rw [List.map_cons, List.flatten_cons]
      simp
    have hx := h x (by simp)
    rw [hj, cuts_next, nextB_app c _ x hx, if_pos (by rw [List.length_append, List.length_cons]; omega), List.take_left]
    rw [show (x ++ c :: Lib.join (y :: ys) [c]).drop (x.length + 1) = Lib.join (y :: ys) [c] by
      rw [← List.drop_drop, List.drop_left]
      rfl]
    rw [cuts_join c y ys (fun p hp => h p (by simp [hp]))]
theorem okU_show (v : Int) (h : 0 ≤ v ∧ v < 4294967296) : okU (shL v) = true ∧ valU (shL v) = v := by
  have e := parF_show 16 v (by decide) h
  have hb : bOf (shL v) = showB 16 v := rfl
  have hm := show_nominus 16 v (by decide) h
  have hl := shL_len8 v h
  unfold okU valU
  rw [hb, e]
  refine ⟨?_, rfl⟩
  rw [decide_eq_false hm, decide_eq_true hl]
  rfl
theorem units_back (l : List Int) (hl : U32L l) (h0 : 0 < l.length) (h4 : l.length ≤ 4) : unitF (unitsB l) = (l, 0) := by
  have hd : (unitsB l).data.toList = unitsL l := rfl
  obtain ⟨a, r, rfl⟩ : ∃ a r, l = a :: r := by
    cases l with
    | nil => simp at h0
    | cons a r => exact ⟨a, r, rfl⟩
  have hc : cuts 44 (unitsL (a :: r)) = (a :: r).map shL := cuts_join 44 (shL a) (r.map shL) (fun p hp => by
    rw [← List.map_cons (f := shL)] at hp
    obtain ⟨v, _, rfl⟩ := List.mem_map.1 hp
    exact shL_no v 44 (.inl rfl))
  unfold unitF
  rw [hd, hc]
  have hall : ((a :: r).map shL).all okU = true := List.all_eq_true.2 (fun p hp => by
    obtain ⟨v, hv, rfl⟩ := List.mem_map.1 hp
    exact (okU_show v (hl v hv)).1)
  rw [if_pos hall, List.length_map, if_neg (by omega), List.map_map]
  congr 1
  conv => rhs; rw [← List.map_id (a :: r)]
  apply List.map_congr_left
  intro v hv
  exact (okU_show v (hl v hv)).2
theorem units_no (l : List Int) (c : UInt8) (hc : c = 47 ∨ c = 58 ∨ c = 64) : c ∉ unitsL l := by
  unfold unitsL
  induction l with
  | nil => simp [Lib.join_nil]
  | cons a r ih =>
    intro h
    have h3 : c ∉ shL a := shL_no a c (.inr hc)
    cases r with
    | nil =>
      rw [List.map_cons, List.map_nil, Lib.join_one] at h
      exact h3 h
    | cons b r =>
      have hj : Lib.join ((a :: b :: r).map shL) [44] = shL a ++ 44 :: Lib.join ((b :: r).map shL) [44] := by
        rw [List.map_cons, List.map_cons, Lib.join_cons, Lib.join_cons]
        unfold Lib.joinTail
        rw [List.map_cons, List.flatten_cons]
        simp
      rw [hj] at h
      rcases List.mem_append.1 h with h | h
      · exact h3 h
      · rcases List.mem_cons.1 h with h | h
        · rcases hc with rfl | rfl | rfl <;> revert h <;> decide
        · exact ih h
theorem name_no (s : ByteArray) (h : namedF s = true) (c : UInt8) (hc : c = 47 ∨ c = 58 ∨ c = 64) : c ∉ s.data.toList := fun hm => by
  unfold namedF at h
  simp only [Bool.and_eq_true, decide_eq_true_eq] at h
  have h2 := List.all_eq_true.1 h.2 (c.toNat : Int) (List.mem_map.2 ⟨c, hm, rfl⟩)
  rcases hc with rfl | rfl | rfl <;> revert h2 <;> decide
theorem args_no (x : S81) (h : okP x = true) : (47 : UInt8) ∉ x.f2.data.toList := fun hm => by
  unfold okP at h
  simp only [Bool.and_eq_true, Bool.not_eq_true', decide_eq_false_iff_not] at h
  have h2 := h.2
  have hg := Lib.indexByte_ge x.f2.data.toList 47
  have hn : Lib.indexByte x.f2.data.toList 47 = -1 := by omega
  obtain ⟨j, hj, he⟩ := List.getElem_of_mem hm
  exact Lib.indexByte_none hn j (by rw [List.getElem?_eq_getElem hj, he])
end Go.Proofs.YtlhnaplmphdhlaaDoor.Q
end
section
set_option linter.unusedSimpArgs false
set_option linter.unusedVariables false
namespace Go.Proofs.YtlhnaplmphdhlaaDoor.Q
open Go.RowKit Go.Proofs.YtlhnaplmphdhlaaDoorW.PrintWords Go.Proofs.YtlhnaplmphdhlaaDoorW.PrintLast
theorem bOf_list (p : List UInt8) : (bOf p).data.toList = p := rfl
theorem bOf_self (s : ByteArray) : bOf s.data.toList = s := by
  apply ByteArray.ext
  simp [bOf]
theorem head_app (c : UInt8) (A B : List UInt8) (h : c ∉ A) : headC c (bOf (A ++ c :: B)) = bOf A ∧ tailC c (bOf (A ++ c :: B)) = bOf B ∧ 0 ≤ ixC c (bOf (A ++ c :: B)) := by
  obtain ⟨h1, h2, h3⟩ := head_next c (bOf (A ++ c :: B))
  rw [bOf_list, nextB_app c B A h] at h1 h2 h3
  have hs : (bOf (A ++ c :: B)).size = A.length + (B.length + 1) := by rw [bOf_size, List.length_append, List.length_cons]
  rw [hs] at h2 h3
  refine ⟨?_, ?_, h2.2 (by omega)⟩
  · rw [h1, extract_bOf, bOf_list, List.drop_zero, Nat.sub_zero, List.take_left]
  · rw [h3, if_pos (by omega), extract_bOf, bOf_list, ← List.drop_drop, List.drop_left]
    congr 1
    rw [List.take_of_length_le (by simp; omega)]
    rfl
theorem head_no (c : UInt8) (A : List UInt8) (h : c ∉ A) : headC c (bOf A) = bOf A ∧ tailC c (bOf A) = ⟨#[]⟩ ∧ ¬ 0 ≤ ixC c (bOf A) := by
  obtain ⟨h1, h2, h3⟩ := head_next c (bOf A)
  rw [bOf_list, nextB_no c A h] at h1 h2 h3
  rw [bOf_size] at h2 h3
  refine ⟨?_, ?_, fun hh => by have := h2.1 hh; omega⟩
  · rw [h1, extract_bOf, bOf_list, List.drop_zero, Nat.sub_zero, List.take_of_length_le (Nat.le_refl _)]
  · rw [h3, if_neg (by omega)]
theorem size0 {s : ByteArray} (h : s.size = 0) : s = ⟨#[]⟩ := by
  apply ByteArray.ext
  apply Array.ext'
  exact List.eq_nil_of_length_eq_zero (by rw [Array.length_toList]; exact h)
/-- A step's text without its stroke. -/
def unB (x : S81) : List UInt8 := x.f0.data.toList ++ (if 0 < x.f1.length then 64 :: unitsL x.f1 else [])
def tlB (x : S81) : List UInt8 := unB x ++ (if x.f2.size = 0 then [] else 58 :: x.f2.data.toList)
theorem stepB_tl (x : S81) : stepB x = 47 :: tlB x := by
  unfold stepB tlB unB
  simp
theorem ok_named {x : S81} (h : okP x = true) : namedF x.f0 = true ∧ x.f1.length ≤ 4 := by
  unfold okP at h
  simp only [Bool.and_eq_true, decide_eq_true_eq] at h
  exact ⟨h.1.1, h.1.2⟩
theorem unB_no (x : S81) (h : okP x = true) (c : UInt8) (hc : c = 47 ∨ c = 58) : c ∉ unB x := by
  unfold unB
  intro hm
  rcases List.mem_append.1 hm with hm | hm
  · exact name_no x.f0 (ok_named h).1 c (by rcases hc with h | h <;> simp [h]) hm
  · split at hm
    · rcases List.mem_cons.1 hm with hm | hm
      · rcases hc with rfl | rfl <;> revert hm <;> decide
      · exact units_no x.f1 c (by rcases hc with h | h <;> simp [h]) hm
    · cases hm
theorem step_back (x : S81) (h : okP x = true) (hu : U32L x.f1) : stepF (bOf (tlB x)) = (x, true) := by
  obtain ⟨hn, h4⟩ := ok_named h
  have h58 : headC 58 (bOf (tlB x)) = bOf (unB x) ∧ tailC 58 (bOf (tlB x)) = x.f2 := by
    unfold tlB
    by_cases ha : x.f2.size = 0
    · rw [if_pos ha, List.append_nil]
      obtain ⟨h1, h2, _⟩ := head_no 58 (unB x) (unB_no x h 58 (.inr rfl))
      exact ⟨h1, by rw [h2, size0 ha]⟩
    · rw [if_neg ha]
      obtain ⟨h1, h2, _⟩ := head_app 58 (unB x) x.f2.data.toList (unB_no x h 58 (.inr rfl))
      exact ⟨h1, by rw [h2, bOf_self]⟩
  have hn64 := name_no x.f0 hn 64 (.inr (.inr rfl))
  unfold stepF
  rw [h58.1, h58.2]
  unfold unB
  by_cases hun : 0 < x.f1.length
  · rw [if_pos hun]
    obtain ⟨h1, h2, h3⟩ := head_app 64 x.f0.data.toList (unitsL x.f1) hn64
    have hb := units_back x.f1 hu hun h4
    have e : bOf (unitsL x.f1) = unitsB x.f1 := rfl
    rw [h1, h2, bOf_self, if_pos hn, if_pos h3, e, hb, if_pos rfl]
  · rw [if_neg hun, List.append_nil]
    obtain ⟨h1, h2, h3⟩ := head_no 64 x.f0.data.toList hn64
    rw [h1, bOf_self, if_pos hn, if_neg (by rw [bOf_self] at h3; exact h3)]
    have e : x.f1 = [] := List.eq_nil_of_length_eq_zero (by omega)
    rw [← e]
theorem tlB_no (x : S81) (h : okP x = true) : (47 : UInt8) ∉ tlB x := by
  unfold tlB
  intro hm
  rcases List.mem_append.1 hm with hm | hm
  · exact unB_no x h 47 (.inl rfl) hm
  · split at hm
    · cases hm
    · rcases List.mem_cons.1 hm with hm | hm
      · revert hm; decide
      · exact args_no x h hm
theorem path_join (x : S81) (l : List S81) : pathL (x :: l) = 47 :: Lib.join ((x :: l).map tlB) [47] := by
  rw [List.map_cons, Lib.join_cons]
  unfold pathL Lib.joinTail
  rw [List.map_cons, List.flatten_cons, List.map_map, stepB_tl, List.cons_append]
  congr 3
theorem parse_back (x : S81) (l : List S81) (hu : ∀ y ∈ x :: l, U32L y.f1) (ho : ∀ y ∈ x :: l, okP y = true) (hl : (pathL (x :: l)).length ≤ 256) : parseF ⟨(pathL (x :: l)).toArray⟩ = (x :: l, 0) := by
  have hd : (⟨(pathL (x :: l)).toArray⟩ : ByteArray).data.toList = 47 :: Lib.join ((x :: l).map tlB) [47] := path_join x l
  have hsz : (⟨(pathL (x :: l)).toArray⟩ : ByteArray).size = (pathL (x :: l)).length := by simp [ByteArray.size]
  have hc : cuts 47 (Lib.join ((x :: l).map tlB) [47]) = (x :: l).map tlB := cuts_join 47 (tlB x) (l.map tlB) (fun p hp => by
    rw [← List.map_cons (f := tlB)] at hp
    obtain ⟨y, hy, rfl⟩ := List.mem_map.1 hp
    exact tlB_no y (ho y hy))
  have hne : Lib.join ((x :: l).map tlB) [47] ≠ [] := by
    rw [List.map_cons, Lib.join_cons]
    have hn := (ok_named (ho x (by simp))).1
    unfold namedF at hn
    simp only [Bool.and_eq_true, decide_eq_true_eq] at hn
    intro h
    have h2 := congrArg List.length h
    rw [List.length_append, List.length_nil] at h2
    have h3 : x.f0.size ≤ (tlB x).length := by
      unfold tlB unB
      rw [List.length_append, List.length_append, data_length]
      omega
    have h4 := hn.1.1
    omega
  unfold parseF
  rw [hd, if_neg (by omega)]
  dsimp only
  rw [if_pos rfl, if_neg hne, hc]
  have hall : ((x :: l).map tlB).all okS = true := List.all_eq_true.2 (fun p hp => by
    obtain ⟨y, hy, rfl⟩ := List.mem_map.1 hp
    unfold okS
    rw [step_back y (ho y hy) (hu y hy)])
  rw [if_pos hall, List.map_map]
  congr 1
  conv => rhs; rw [← List.map_id (x :: l)]
  apply List.map_congr_left
  intro y hy
  show (stepF (bOf (tlB y))).1 = y
  rw [step_back y (ho y hy) (hu y hy)]
theorem parse_root_eq : parseF ⟨#[47]⟩ = ([], 0) := by
  unfold parseF
  rw [show (⟨#[47]⟩ : ByteArray).data.toList = [47] from rfl, if_neg (by decide)]
  rfl
end Go.Proofs.YtlhnaplmphdhlaaDoor.Q
end
