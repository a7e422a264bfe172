/- Contracts of Go functions and plain facts, of several texts, one behind the other; no condition. -/
import Derived.Test.YtefhngadeimklaaDoorMVarsBack1
import Derived.Test.YtefhngadeimklaaDoorMVarsBack3
import Derived.Lib.IndexLaws
import Derived.Test.YtefhngadeimklaaDoorMVarsBack2
section
namespace Go.Proofs.YtefhngadeimklaaDoor.Q
open Go.RowKit Go.Proofs.YtefhngadeimklaaDoorW.PrintWords Go.Proofs.YtefhngadeimklaaDoorW.PrintLast Go.Proofs.YtefhngadeimklaaDoorW.PrintMore
set_option linter.unusedVariables false
set_option linter.unusedSimpArgs false

attribute [local go_sem] max2_int min2_int max_two min_two max_three min_three max_four min_four
/-! ### tinderref19_Decode: function 29 -/
mutual
def tinderref19_Decode.l0 : Nat → List Int → List (S40) → Int → Int → Int → Option ((List (S40)) × Int)
  | 0, _, _, _, _, _ => none
  | k + 1, x0, x4, x5, x6, x7 => if x7 < (x0.length : Int) then (if 0 ≤ x7 then (if (rd x0 x7) = 61 then (tinderref19_Decode.j1 k x0 x4 x5 x6 x7 (decide (x6 < 0))) else (tinderref19_Decode.j1 k x0 x4 x5 x6 x7 false)) else (none)) else (if x5 = (x0.length : Int) then ((tinderref19_Right.f k x4).bind fun t30001 => (if t30001 = true then (some (x4, 0)) else (some (([] : List (S40)), 15)))) else (some (([] : List (S40)), 15)))
def tinderref19_Decode.j1 : Nat → List Int → List (S40) → Int → Int → Int → Bool → Option ((List (S40)) × Int)
  | 0, _, _, _, _, _, _ => none
  | k + 1, x0, x4, x5, x6, x7, x22 => if x22 = true then (tinderref19_Decode.j2 k x0 x4 x5 x7 x7) else (tinderref19_Decode.j2 k x0 x4 x5 x6 x7)
def tinderref19_Decode.j2 : Nat → List Int → List (S40) → Int → Int → Int → Option ((List (S40)) × Int)
  | 0, _, _, _, _, _ => none
  | k + 1, x0, x4, x5, x6, x7 => if 0 ≤ x7 then (if x7 < (x0.length : Int) then (if (rd x0 x7) = 0 then (if x6 < 0 then (some (([] : List (S40)), 15)) else (if 0 ≤ x5 then (if x5 ≤ x6 then (if x6 ≤ (x0.length : Int) then (if 0 ≤ (wrap64 (x6 + 1)) then (if (wrap64 (x6 + 1)) ≤ x7 then (if x7 ≤ (x0.length : Int) then (if x4.length < 4398046511104 then (tinderref19_Decode.l0 k x0 (x4 ++ [(⟨strOfNums ((x0.take (x6 : Int).toNat).drop (x5 : Int).toNat), strOfNums ((x0.take (x7 : Int).toNat).drop ((wrap64 (x6 + 1)) : Int).toNat)⟩ : S40)]) (wrap64 (x7 + 1)) (-1) (wrap64 (x7 + 1))) else (none)) else (none)) else (none)) else (none)) else (none)) else (none)) else (none))) else (tinderref19_Decode.l0 k x0 x4 x5 x6 (wrap64 (x7 + 1)))) else (none)) else (none)
end
def tinderref19_Decode.f (k : Nat) (l0 : List Int) : Option ((List (S40)) × Int) := tinderref19_Decode.l0 k l0 ([] : List (S40)) 0 (-1) 0
theorem tinderref19_Decode.mono_l : ∀ k, (∀ y0 y1 y2 y3 y4, LeO (tinderref19_Decode.l0 k y0 y1 y2 y3 y4) (tinderref19_Decode.l0 (k + 1) y0 y1 y2 y3 y4)) ∧ (∀ y0 y1 y2 y3 y4 y5, LeO (tinderref19_Decode.j1 k y0 y1 y2 y3 y4 y5) (tinderref19_Decode.j1 (k + 1) y0 y1 y2 y3 y4 y5)) ∧ (∀ y0 y1 y2 y3 y4, LeO (tinderref19_Decode.j2 k y0 y1 y2 y3 y4) (tinderref19_Decode.j2 (k + 1) y0 y1 y2 y3 y4))
  | 0 => ⟨fun _ _ _ _ _ r h => by simp [tinderref19_Decode.l0] at h, fun _ _ _ _ _ _ r h => by simp [tinderref19_Decode.j1] at h, fun _ _ _ _ _ r h => by simp [tinderref19_Decode.j2] at h⟩
  | k + 1 => by
    obtain ⟨ih0, ih1, ih2⟩ := tinderref19_Decode.mono_l k
    refine ⟨?_, ?_, ?_⟩
    · intro y0 y1 y2 y3 y4
      unfold tinderref19_Decode.l0
      repeat' first
      | (with_reducible exact ih0 _ _ _ _ _)
      | (with_reducible exact ih1 _ _ _ _ _ _)
      | (with_reducible exact ih2 _ _ _ _ _)
      | (with_reducible exact tinderref19_Right.mono _ _)
      | (with_reducible exact LeO.refl _)
      | (with_reducible exact LeO.none _)
      | (with_reducible refine LeO.ite ?_ ?_)
      | (with_reducible refine LeO.bind ?_ (fun _ => ?_))
      | exact ih0 _ _ _ _ _
      | exact ih1 _ _ _ _ _ _
      | exact ih2 _ _ _ _ _
      | exact tinderref19_Right.mono _ _
      | exact LeO.none _
      | refine LeO.ite ?_ ?_
      | refine LeO.bind ?_ (fun _ => ?_)
    · intro y0 y1 y2 y3 y4 y5
      unfold tinderref19_Decode.j1
      repeat' first
      | (with_reducible exact ih0 _ _ _ _ _)
      | (with_reducible exact ih1 _ _ _ _ _ _)
      | (with_reducible exact ih2 _ _ _ _ _)
      | (with_reducible exact tinderref19_Right.mono _ _)
      | (with_reducible exact LeO.refl _)
      | (with_reducible exact LeO.none _)
      | (with_reducible refine LeO.ite ?_ ?_)
      | (with_reducible refine LeO.bind ?_ (fun _ => ?_))
      | exact ih0 _ _ _ _ _
      | exact ih1 _ _ _ _ _ _
      | exact ih2 _ _ _ _ _
      | exact tinderref19_Right.mono _ _
      | exact LeO.none _
      | refine LeO.ite ?_ ?_
      | refine LeO.bind ?_ (fun _ => ?_)
    · intro y0 y1 y2 y3 y4
      unfold tinderref19_Decode.j2
      repeat' first
      | (with_reducible exact ih0 _ _ _ _ _)
      | (with_reducible exact ih1 _ _ _ _ _ _)
      | (with_reducible exact ih2 _ _ _ _ _)
      | (with_reducible exact tinderref19_Right.mono _ _)
      | (with_reducible exact LeO.refl _)
      | (with_reducible exact LeO.none _)
      | (with_reducible refine LeO.ite ?_ ?_)
      | (with_reducible refine LeO.bind ?_ (fun _ => ?_))
      | exact ih0 _ _ _ _ _
      | exact ih1 _ _ _ _ _ _
      | exact ih2 _ _ _ _ _
      | exact tinderref19_Right.mono _ _
      | exact LeO.none _
      | refine LeO.ite ?_ ?_
      | refine LeO.bind ?_ (fun _ => ?_)
theorem tinderref19_Decode.mono : ∀ a0 k, LeO (tinderref19_Decode.f k a0) (tinderref19_Decode.f (k + 1) a0) := by
  intro a0 k
  obtain ⟨ih0, ih1, ih2⟩ := tinderref19_Decode.mono_l k
  unfold tinderref19_Decode.f
  repeat' first
      | (with_reducible exact ih0 _ _ _ _ _)
      | (with_reducible exact ih1 _ _ _ _ _ _)
      | (with_reducible exact ih2 _ _ _ _ _)
      | (with_reducible exact tinderref19_Right.mono _ _)
      | (with_reducible exact LeO.refl _)
      | (with_reducible exact LeO.none _)
      | (with_reducible refine LeO.ite ?_ ?_)
      | (with_reducible refine LeO.bind ?_ (fun _ => ?_))
      | exact ih0 _ _ _ _ _
      | exact ih1 _ _ _ _ _ _
      | exact ih2 _ _ _ _ _
      | exact tinderref19_Right.mono _ _
      | exact LeO.none _
      | refine LeO.ite ?_ ?_
      | refine LeO.bind ?_ (fun _ => ?_)
def tinderref19_Decode.T11 : Bool × List (List Nat × List Nat) := (true, [([], []), ([], []), ([], []), ([], []), ([1, 2, 3], [1, 2, 3]), ([4], [4]), ([], []), ([], []), ([7], [7]), ([], []), ([6, 8, 9], [6, 8, 9]), ([10], [10]), ([5, 11], [5, 11]), ([12], [12]), ([0, 13], [0, 13]), ([14, 14, 0, 1, 2, 3, 4, 5, 6, 7, 8, 9, 10, 11, 12, 13, 14], [0, 14])])
def tinderref19_Decode.B11 : List Nat := [0, 0, 0, 0, 14, 30, 0, 0, 128, 0, 960, 1984, 4094, 8190, 16383, 32767]
theorem tinderref19_Decode.tab11 : rtab .any (opsOf Tryd.f29 11) = tinderref19_Decode.T11 := by kernel_rfl
theorem tinderref19_Decode.bits11 : waitsOk tinderref19_Decode.T11.2 tinderref19_Decode.B11 = true := by kernel_rfl
set_option maxHeartbeats 8000000 in
set_option maxRecDepth 100000 in
theorem tinderref19_Decode.calls (k : Nat) (A0 : Option Addr) (c0 : Nat) (l0 : List Int) (r1 : List (S40)) (r2 : Int) (w : World) (hr0 : Kd.C (Kd.int .u8) w A0 l0.length l0) (hc0 : l0.length ≤ c0) (h : tinderref19_Decode.f k l0 = some (r1, r2)) :
    Calls Tryd.prog 29 #[.slice A0 l0.length c0] w fun e w' => ∃ v0_ : Value, e = .returned (.tuple #[v0_, .int .i64 r2]) ∧ Kd.R k40 40 w' w.heap.size (fun _ => True) v0_ r1 ∧ Below w.heap.size w w' := by
  have hu40 := Tryd.underlying40
  have HR0 := Aside0.mk hr0
  have HC0 := Aside0.mk hc0
  clear hr0 hc0
  have HB := Aside0.mk (Below.refl w.heap.size w)
  have H : (tinderref19_Decode.l0 k l0 ([] : List (S40)) 0 (-1) 0) = some (r1, r2) := h
  clear h
  have H' := Aside0.mk H
  clear H
  go_enter Tryd.func29, Tryd.ntmps29
  go_wp2
  go_loopg [4, 5, 6, 7] k (fun kq v4 v5 v6 v7 w' => ∃ (x4_1 : List (S40)) (x5_1 : Int) (x6_1 : Int) (x7_1 : Int), v5 = .int .i64 x5_1 ∧ v6 = .int .i64 x6_1 ∧ v7 = .int .i64 x7_1 ∧ Aside0 (tinderref19_Decode.l0 kq l0 x4_1 x5_1 x6_1 x7_1 = some (r1, r2)) ∧ Aside0 (kq ≤ k) ∧ Aside0 (Kd.R k40 40 w' w.heap.size (fun _ => True) v4 x4_1) ∧ Aside0 (Below w.heap.size w w'))
  case atStart => exact ⟨(([] : List (S40))), (0), ((-1)), (0), (by first | rfl | (simp; done) | (simp [*]; done)), (by first | rfl | (simp; done) | (simp [*]; done)), (by first | rfl | (simp; done) | (simp [*]; done)), H', ⟨Nat.le_refl _⟩, ⟨by first | exact Kd.R_nil _ _ _ _ _ | exact Kd.N_nil _ _ _ _ _ | exact Kd.V_nil _ _ _ _ _ | exact Kd.Q_nil _ _ _ _ _ | exact Kd.S_nil _ _ _ _ _⟩, ⟨by repeat (first | (with_reducible first | exact HB.out | apply below_alloc | apply pw_below_drewN | apply below_drew1) | exact HB.out)⟩⟩
  case round =>
    clear H'
    obtain ⟨x4_1, x5_1, x6_1, x7_1, rfl, rfl, rfl, HA, HK1, HO_4, HB⟩ := hrel
    cases gk with
    | zero => exact absurd HA.out (by simp [tinderref19_Decode.l0])
    | succ k1 =>
      have H := HA.out
      clear HA
      simp only [tinderref19_Decode.l0] at H
      by_cases c2 : x7_1 < (l0.length : Int)
      · rw [if_pos c2] at H
        have c2b0 : decide (x7_1 < (l0.length : Int)) = true := decide_eq_true c2
        clear c2
        have HC3 := Aside0.mk H
        clear H
        go_upto_region 6 with (fail)
        go_cut [22] (fun v22 wc => ∃ (kq : Nat) (x22_2 : Bool), v22 = .bool x22_2 ∧ Aside0 (tinderref19_Decode.j1 kq l0 x4_1 x5_1 x6_1 x7_1 x22_2 = some (r1, r2)) ∧ Aside0 (kq ≤ k1) ∧ Aside0 (Kd.R k40 40 wc w.heap.size (fun _ => True) u4 x4_1) ∧ Aside0 (Below w.heap.size w wc))
        case first =>
          have H := HC3.out
          clear HC3
          by_cases c4 : 0 ≤ x7_1
          · rw [if_pos c4] at H
            have c4b0 : decide (0 ≤ x7_1) = true := decide_eq_true c4
            clear c4
            (first | rw [c4b0] | (simp only [i64_w, i32_w]; rw [c4b0]) | skip)
            by_cases c5 : (rd l0 x7_1) = 61
            · rw [if_pos c5] at H
              have c5b0 : ((rd l0 x7_1) == 61) = true := beq_iff_eq.mpr c5
              have c5b1 : ((rd l0 x7_1) != 61) = false := bne_eq_false_iff_eq.mpr c5
              clear c5
              have H' := Aside0.mk H
              clear H
              have p30002 : 0 ≤ (x7_1 : Int) := of_decide_eq_true (by first | (with_reducible assumption) | assumption)
              have q30002 : x7_1 < (l0.length : Int) := of_decide_eq_true (by first | (with_reducible assumption) | assumption)
              obtain ⟨ad30002, e30002, hx30002_0⟩ := Kd.at_int HR0.out x7_1 p30002 q30002
              cases e30002
              replace hx30002_0 := (HB.out.cell (World.block_lt_of_cell? w _ hx30002_0)).trans hx30002_0
              replace p30002 := eq_true p30002
              replace q30002 := eq_true q30002
              go_wp2
              go_meet
              case rel => exact ⟨_, (decide (x6_1 < 0)), (by first | rfl | (simp; done) | (simp [*]; done)), H', ⟨by have := HK1.out; first | omega | exact Nat.le_refl _⟩, ⟨by (with_reducible repeat (first | apply Kd.R_alloc | apply Kd.R_drewN | apply Kd.R_drew)); exact HO_4.out⟩, ⟨by repeat (first | (with_reducible first | exact HB.out | apply below_alloc | apply pw_below_drewN | apply below_drew1) | exact HB.out)⟩⟩
            · rw [if_neg c5] at H
              have c5b0 : ((rd l0 x7_1) == 61) = false := beq_eq_false_iff_ne.mpr c5
              have c5b1 : ((rd l0 x7_1) != 61) = true := bne_iff_ne.mpr c5
              have H' := Aside0.mk H
              clear H
              have p30002 : 0 ≤ (x7_1 : Int) := of_decide_eq_true (by first | (with_reducible assumption) | assumption)
              have q30002 : x7_1 < (l0.length : Int) := of_decide_eq_true (by first | (with_reducible assumption) | assumption)
              obtain ⟨ad30002, e30002, hx30002_0⟩ := Kd.at_int HR0.out x7_1 p30002 q30002
              cases e30002
              replace hx30002_0 := (HB.out.cell (World.block_lt_of_cell? w _ hx30002_0)).trans hx30002_0
              replace p30002 := eq_true p30002
              replace q30002 := eq_true q30002
              go_wp2
              go_meet
              case rel => exact ⟨_, (false), (by first | rfl | (simp; done) | (simp [*]; done)), H', ⟨by have := HK1.out; first | omega | exact Nat.le_refl _⟩, ⟨by (with_reducible repeat (first | apply Kd.R_alloc | apply Kd.R_drewN | apply Kd.R_drew)); exact HO_4.out⟩, ⟨by repeat (first | (with_reducible first | exact HB.out | apply below_alloc | apply pw_below_drewN | apply below_drew1) | exact HB.out)⟩⟩
          · rw [if_neg c4] at H
            exact absurd H (by simp)
        case rest =>
          clear HC3
          try clear c2
          try clear c2b0
          try clear p2
          try clear p3
          try clear q3
          try clear hx3
          try clear c4
          try clear c4b0
          try clear c5
          try clear c5b0
          try clear c5b1
          try clear hx30002_0
          try clear p30002
          try clear q30002
          obtain ⟨kq, x22_2, rfl, HA, HJ2, HO_4, HB⟩ := hcut
          cases kq with
          | zero => exact absurd HA.out (by simp [tinderref19_Decode.j1])
          | succ kj2 =>
            have H := HA.out
            clear HA
            simp only [tinderref19_Decode.j1] at H
            have HC6 := Aside0.mk H
            clear H
            go_upto_if 22 with (fail)
            go_cut [6] (fun v6 wc => ∃ (kq : Nat) (x6_5 : Int), v6 = .int .i64 x6_5 ∧ Aside0 (tinderref19_Decode.j2 kq l0 x4_1 x5_1 x6_5 x7_1 = some (r1, r2)) ∧ Aside0 (kq ≤ kj2) ∧ Aside0 (Kd.R k40 40 wc w.heap.size (fun _ => True) u4 x4_1) ∧ Aside0 (Below w.heap.size w wc))
            case first =>
              have H := HC6.out
              clear HC6
              by_cases c7 : x22_2 = true
              · subst c7
                have H1 : (tinderref19_Decode.j2 kj2 l0 x4_1 x5_1 x7_1 x7_1) = some (r1, r2) := by rw [if_pos rfl] at H; exact H
                clear H
                have H := H1
                clear H1
                have H' := Aside0.mk H
                clear H
                go_wp2
                go_meet
                case rel => exact ⟨_, (x7_1), (by first | rfl | (simp; done) | (simp [*]; done)), H', ⟨by have := HK1.out; have := HJ2.out; first | omega | exact Nat.le_refl _⟩, ⟨by (with_reducible repeat (first | apply Kd.R_alloc | apply Kd.R_drewN | apply Kd.R_drew)); exact HO_4.out⟩, ⟨by repeat (first | (with_reducible first | exact HB.out | apply below_alloc | apply pw_below_drewN | apply below_drew1) | exact HB.out)⟩⟩
              · replace c7 := Bool.eq_false_iff.mpr c7
                subst c7
                have H1 : (tinderref19_Decode.j2 kj2 l0 x4_1 x5_1 x6_1 x7_1) = some (r1, r2) := by rw [if_neg (show ¬ (false = true) by decide)] at H; exact H
                clear H
                have H := H1
                clear H1
                have H' := Aside0.mk H
                clear H
                go_wp2
                go_meet
                case rel => exact ⟨_, (x6_1), (by first | rfl | (simp; done) | (simp [*]; done)), H', ⟨by have := HK1.out; have := HJ2.out; first | omega | exact Nat.le_refl _⟩, ⟨by (with_reducible repeat (first | apply Kd.R_alloc | apply Kd.R_drewN | apply Kd.R_drew)); exact HO_4.out⟩, ⟨by repeat (first | (with_reducible first | exact HB.out | apply below_alloc | apply pw_below_drewN | apply below_drew1) | exact HB.out)⟩⟩
            case rest =>
              clear HC6
              try clear c2
              try clear c2b0
              try clear p2
              try clear p3
              try clear q3
              try clear hx3
              try clear c4
              try clear c4b0
              try clear c5
              try clear c5b0
              try clear c5b1
              try clear c7
              try clear hx30002_0
              try clear p2
              try clear p3
              try clear p30002
              try clear q3
              try clear q30002
              obtain ⟨kq, x6_5, rfl, HA, HJ5, HO_4, HB⟩ := hcut
              cases kq with
              | zero => exact absurd HA.out (by simp [tinderref19_Decode.j2])
              | succ kj5 =>
                have H := HA.out
                clear HA
                simp only [tinderref19_Decode.j2] at H
                by_cases c8 : 0 ≤ x7_1
                · rw [if_pos c8] at H
                  have c8b0 : decide (0 ≤ x7_1) = true := decide_eq_true c8
                  clear c8
                  by_cases c9 : x7_1 < (l0.length : Int)
                  · rw [if_pos c9] at H
                    have c9b0 : decide (x7_1 < (l0.length : Int)) = true := decide_eq_true c9
                    clear c9
                    by_cases c10 : (rd l0 x7_1) = 0
                    · rw [if_pos c10] at H
                      have c10b0 : ((rd l0 x7_1) == 0) = true := beq_iff_eq.mpr c10
                      have c10b1 : ((rd l0 x7_1) != 0) = false := bne_eq_false_iff_eq.mpr c10
                      clear c10
                      by_cases c11 : x6_5 < 0
                      · rw [if_pos c11] at H
                        have c11b0 : decide (x6_5 < 0) = true := decide_eq_true c11
                        clear c11
                        simp only [Option.some.injEq, Prod.mk.injEq] at H
                        obtain ⟨rfl, rfl⟩ := H
                        have p30003 : 0 ≤ (x7_1 : Int) := of_decide_eq_true (by first | (with_reducible assumption) | assumption)
                        have q30003 : x7_1 < (l0.length : Int) := of_decide_eq_true (by first | (with_reducible assumption) | assumption)
                        obtain ⟨ad30003, e30003, hx30003_0⟩ := Kd.at_int HR0.out x7_1 p30003 q30003
                        cases e30003
                        replace hx30003_0 := (HB.out.cell (World.block_lt_of_cell? w _ hx30003_0)).trans hx30003_0
                        replace p30003 := eq_true p30003
                        replace q30003 := eq_true q30003
                        go_wp2
                        go_ret2
                        exact ⟨_, by first | rfl | (simp [errW_none, errW_some] <;> rfl) | (simp [*, errW_none, errW_some] <;> rfl), by first | exact Kd.R_nil _ _ _ _ _ | exact Kd.N_nil _ _ _ _ _ | exact Kd.V_nil _ _ _ _ _ | exact Kd.Q_nil _ _ _ _ _ | exact Kd.S_nil _ _ _ _ _, by repeat (first | (with_reducible first | exact HB.out | apply below_alloc | apply pw_below_drewN | apply below_drew1) | exact HB.out)⟩
                      · rw [if_neg c11] at H
                        have c11b0 : decide (x6_5 < 0) = false := decide_eq_false c11
                        clear c11
                        by_cases c12 : 0 ≤ x5_1
                        · rw [if_pos c12] at H
                          have c12b0 := eq_true c12
                          have c12b1 : decide (0 ≤ x5_1) = true := decide_eq_true c12
                          clear c12
                          by_cases c13 : x5_1 ≤ x6_5
                          · rw [if_pos c13] at H
                            have c13b0 := eq_true c13
                            have c13b1 : decide (x5_1 ≤ x6_5) = true := decide_eq_true c13
                            clear c13
                            by_cases c14 : x6_5 ≤ (l0.length : Int)
                            · rw [if_pos c14] at H
                              have c14b0 := eq_true c14
                              have c14b1 : decide (x6_5 ≤ (l0.length : Int)) = true := decide_eq_true c14
                              clear c14
                              obtain ⟨ji15, hji15⟩ : ∃ j_ : Int, (wrap64 (x6_5 + 1)) = j_ := ⟨_, rfl⟩
                              replace H : (if 0 ≤ (ji15) then (if (ji15) ≤ x7_1 then (if x7_1 ≤ (l0.length : Int) then (if x4_1.length < 4398046511104 then (tinderref19_Decode.l0 kj5 l0 (x4_1 ++ [(⟨strOfNums ((l0.take (x6_5 : Int).toNat).drop (x5_1 : Int).toNat), strOfNums ((l0.take (x7_1 : Int).toNat).drop ((ji15) : Int).toNat)⟩ : S40)]) (wrap64 (x7_1 + 1)) (-1) (wrap64 (x7_1 + 1))) else (none)) else (none)) else (none)) else (none)) = some (r1, r2) := by first | (rw [hji15] at H; exact H) | (simp only [hji15] at H ⊢; exact H)
                              have hji15w : (IntKind.i64.wrap (x6_5 + 1)) = ji15 := (i64_w _).trans hji15
                              by_cases c16 : 0 ≤ (ji15)
                              · rw [if_pos c16] at H
                                have c16b0 := eq_true c16
                                have c16b1 : decide (0 ≤ (ji15)) = true := decide_eq_true c16
                                clear c16
                                by_cases c17 : (ji15) ≤ x7_1
                                · rw [if_pos c17] at H
                                  have c17b0 := eq_true c17
                                  have c17b1 : decide ((ji15) ≤ x7_1) = true := decide_eq_true c17
                                  clear c17
                                  by_cases c18 : x7_1 ≤ (l0.length : Int)
                                  · rw [if_pos c18] at H
                                    have c18b0 := eq_true c18
                                    have c18b1 : decide (x7_1 ≤ (l0.length : Int)) = true := decide_eq_true c18
                                    clear c18
                                    by_cases c19 : x4_1.length < 4398046511104
                                    · rw [if_pos c19] at H
                                      have LMc19 := Aside0.mk c19
                                      clear c19
                                      obtain ⟨y30006, hy30006⟩ : ∃ y_ : List (S40), y_ = (x4_1 ++ [(⟨strOfNums ((l0.take (x6_5 : Int).toNat).drop (x5_1 : Int).toNat), strOfNums ((l0.take (x7_1 : Int).toNat).drop ((ji15) : Int).toNat)⟩ : S40)]) := ⟨_, rfl⟩
                                      replace H : (tinderref19_Decode.l0 kj5 l0 y30006 (wrap64 (x7_1 + 1)) (-1) (wrap64 (x7_1 + 1))) = some (r1, r2) := by first | (rw [hy30006]; with_reducible exact H) | (have H2_ := (Option.bind_some _ _).symm.trans H; rw [hy30006]; with_reducible exact H2_) | (have H2_ := (Option.bind_some _ _).symm.trans H; with_reducible exact H2_) | with_reducible exact H | (rw [hy30006]; exact H) | exact H
                                      have Ny30006 := Aside0.mk hy30006
                                      clear hy30006
                                      have H' := Aside0.mk H
                                      clear H
                                      have p30003 : 0 ≤ (x7_1 : Int) := of_decide_eq_true (by first | (with_reducible assumption) | assumption)
                                      have q30003 : x7_1 < (l0.length : Int) := of_decide_eq_true (by first | (with_reducible assumption) | assumption)
                                      obtain ⟨ad30003, e30003, hx30003_0⟩ := Kd.at_int HR0.out x7_1 p30003 q30003
                                      cases e30003
                                      replace hx30003_0 := (HB.out.cell (World.block_lt_of_cell? w _ hx30003_0)).trans hx30003_0
                                      replace p30003 := eq_true p30003
                                      replace q30003 := eq_true q30003
                                      obtain ⟨Ao20, co20, eo20⟩ := Kd.R_slice HO_4.out
                                      subst eo20
                                      try go_wp2
                                      have n0_ := Aside0.mk (Kd.R_drew HO_4.out)
                                      have n1_ := Aside0.mk (below_drew1 HB.out)
                                      clear HO_4
                                      clear HB
                                      have HO_4 := n0_
                                      have HB := n1_
                                      clear n0_ n1_
                                      obtain ⟨i022, hi022, _, hsz22, _⟩ := info_parts info5
                                      obtain ⟨A22, hcut22, hA22, hC22⟩ := print_mid_of (P := Tryd.prog) (Value.int .u8) 0 42 5 .i64 .i64 Tryd.underlying42 hi022 hsz22 (some ad30003) c0 l0 x5_1 x6_5 (of_decide_eq_true (by first | (with_reducible assumption) | assumption)) (by first | omega | exact of_decide_eq_true (by first | (with_reducible assumption) | assumption)) (of_decide_eq_true (by first | (with_reducible assumption) | assumption)) HC0.out
                                      have HR30004 := Aside0.mk (Kd.C_of_reads (h1 := fun _ => rfl) (hA22 _ (Kd.reads_of_C HR0.out)))
                                      have HC30004 := Aside0.mk hC22
                                      clear hA22 hC22 hi022 hsz22
                                      obtain ⟨i023, hi023, _, hsz23, _⟩ := info_parts info5
                                      obtain ⟨A23, hcut23, hA23, hC23⟩ := print_mid_of (P := Tryd.prog) (Value.int .u8) 0 42 5 .i64 .i64 Tryd.underlying42 hi023 hsz23 (some ad30003) c0 l0 (ji15) x7_1 (of_decide_eq_true (by first | (with_reducible assumption) | assumption)) (by first | omega | exact of_decide_eq_true (by first | (with_reducible assumption) | assumption)) (of_decide_eq_true (by first | (with_reducible assumption) | assumption)) HC0.out
                                      have HR30005 := Aside0.mk (Kd.C_of_reads (h1 := fun _ => rfl) (hA23 _ (Kd.reads_of_C HR0.out)))
                                      have HC30005 := Aside0.mk hC23
                                      clear hA23 hC23 hi023 hsz23
                                      have hcv24 := Kd.C_string (P := Tryd.prog) (A := A22) (c := (c0 - x5_1.toNat)) Tryd.underlying42 Tryd.underlying5 Tryd.underlying9 (Kd.C_below HR30004.out HB.out)
                                      have hcv25 := Kd.C_string (P := Tryd.prog) (A := A23) (c := (c0 - (ji15).toNat)) Tryd.underlying42 Tryd.underlying5 Tryd.underlying9 (Kd.C_below HR30005.out HB.out)
                                      refine start_ (n := 16) (S := fun w' => Below w.heap.size w w') (ds := []) #[false, false, false, false, false, false, false, false, false, false, false, false, false, false, false, false] (by kernel_rfl) rfl rfl HB.out (fun hHeld => ?_); refine with_tabW tinderref19_Decode.tab11 tinderref19_Decode.bits11 (fun HT_ HW_ => ?_)
                                      generalize wc.drew = w21 at HO_4 HB HR30004 HR30005 hHeld ⊢
                                      refine pure_ (i := 0) (N := some 31) (v := ?_) (a' := ?_) #[true, false, false, false, false, false, false, false, false, false, false, false, false, false, false, false] rfl rfl (any_of HT_.out (by kernel_rfl)) (fun _ _ _ h => h) (Or.inl ⟨by rfl, ?_⟩) ?_ ?_
                                      rotate_left
                                      · intro w'
                                        go_simp
                                        with_reducible rfl
                                      rotate_left
                                      · simp only [Act.put, List.setIfInBounds_toArray, List.set_cons_zero, List.set_cons_succ, i64_w, i32_w]
                                        rfl
                                      refine pure_ (i := 1) (N := some 32) (v := ?_) (a' := ?_) #[true, true, false, false, false, false, false, false, false, false, false, false, false, false, false, false] rfl rfl (any_of HT_.out (by kernel_rfl)) (fun _ _ _ h => h) (Or.inl ⟨by rfl, ?_⟩) ?_ ?_
                                      rotate_left
                                      · intro w'
                                        go_simp
                                        with_reducible rfl
                                      rotate_left
                                      · simp only [Act.put, List.setIfInBounds_toArray, List.set_cons_zero, List.set_cons_succ, i64_w, i32_w]
                                        rfl
                                      refine pure_ (i := 2) (N := some 33) (v := ?_) (a' := ?_) #[true, true, true, false, false, false, false, false, false, false, false, false, false, false, false, false] rfl rfl (any_of HT_.out (by kernel_rfl)) (fun _ _ _ h => h) (Or.inl ⟨by rfl, ?_⟩) ?_ ?_
                                      rotate_left
                                      · intro w'
                                        go_simp
                                        with_reducible rfl
                                      rotate_left
                                      · simp only [Act.put, List.setIfInBounds_toArray, List.set_cons_zero, List.set_cons_succ, i64_w, i32_w]
                                        rfl
                                      refine pure_ (i := 3) (N := some 34) (v := ?_) (a' := ?_) #[true, true, true, true, false, false, false, false, false, false, false, false, false, false, false, false] rfl rfl (any_of HT_.out (by kernel_rfl)) (fun _ _ _ h => h) (Or.inl ⟨by rfl, ?_⟩) ?_ ?_
                                      rotate_left
                                      · intro w'
                                        go_simp
                                        with_reducible rfl
                                      rotate_left
                                      · simp only [Act.put, List.setIfInBounds_toArray, List.set_cons_zero, List.set_cons_succ, i64_w, i32_w]
                                        rfl
                                      refine pure_ (i := 4) (N := some 35) (v := ?_) (a' := ?_) #[true, true, true, true, true, false, false, false, false, false, false, false, false, false, false, false] rfl rfl (any_of HT_.out (by kernel_rfl)) (fun _ _ _ h => h) (Or.inl ⟨by rfl, ?_⟩) ?_ ?_
                                      rotate_left
                                      · intro w'
                                        go_simp
                                        with_reducible rfl
                                      rotate_left
                                      · simp only [Act.put, List.setIfInBounds_toArray, List.set_cons_zero, List.set_cons_succ, i64_w, i32_w]
                                        rfl
                                      refine take_ (i := 5) (N := some 36) (v := ?_) (a' := ?_) #[true, true, true, true, true, true, false, false, false, false, false, false, false, false, false, false] rfl rfl (take_of HT_.out (by kernel_rfl)) (fun _ _ _ h => h) (Or.inl ⟨by rfl, ?_⟩) hHeld ?_ ?_
                                      rotate_left
                                      · intro w' s0
                                        have f_ : x6_5 ≤ (l0.length : Int) := of_decide_eq_true (by first | (with_reducible assumption) | assumption)
                                        have hcv_ := Kd.C_string (P := Tryd.prog) (A := A22) (c := (c0 - (x5_1).toNat)) Tryd.underlying42 Tryd.underlying5 Tryd.underlying9 (Kd.C_below HR30004.out s0)
                                        rw [show ((l0.take (x6_5 : Int).toNat).drop (x5_1 : Int).toNat).length = (x6_5).toNat - (x5_1).toNat from by rw [List.length_drop, List.length_take]; omega] at hcv_
                                        clear f_
                                        go_simp
                                        with_reducible rfl
                                      rotate_left
                                      · simp only [Act.put, List.setIfInBounds_toArray, List.set_cons_zero, List.set_cons_succ, i64_w, i32_w]
                                        rfl
                                      refine pure_ (i := 6) (N := some 37) (v := ?_) (a' := ?_) #[true, true, true, true, true, true, true, false, false, false, false, false, false, false, false, false] rfl rfl (any_of HT_.out (by kernel_rfl)) (fun _ _ _ h => h) (Or.inl ⟨by rfl, ?_⟩) ?_ ?_
                                      rotate_left
                                      · intro w'
                                        go_simp
                                        with_reducible rfl
                                      rotate_left
                                      · simp only [Act.put, List.setIfInBounds_toArray, List.set_cons_zero, List.set_cons_succ, i64_w, i32_w]
                                        rfl
                                      refine pure_ (i := 7) (N := some 38) (v := ?_) (a' := ?_) #[true, true, true, true, true, true, true, true, false, false, false, false, false, false, false, false] rfl rfl (any_of HT_.out (by kernel_rfl)) (fun _ _ _ h => h) (Or.inl ⟨by rfl, ?_⟩) ?_ ?_
                                      rotate_left
                                      · intro w'
                                        go_simp
                                        with_reducible rfl
                                      rotate_left
                                      · simp only [Act.put, List.setIfInBounds_toArray, List.set_cons_zero, List.set_cons_succ, i64_w, i32_w]
                                        rfl
                                      refine pure_ (i := 8) (N := some 39) (v := ?_) (a' := ?_) #[true, true, true, true, true, true, true, true, true, false, false, false, false, false, false, false] rfl rfl (any_of HT_.out (by kernel_rfl)) (fun _ _ _ h => h) (Or.inl ⟨by rfl, ?_⟩) ?_ ?_
                                      rotate_left
                                      · intro w'
                                        go_simp
                                        with_reducible rfl
                                      rotate_left
                                      · simp only [Act.put, List.setIfInBounds_toArray, List.set_cons_zero, List.set_cons_succ, i64_w, i32_w]
                                        rfl
                                      refine pure_ (i := 9) (N := some 40) (v := ?_) (a' := ?_) #[true, true, true, true, true, true, true, true, true, true, false, false, false, false, false, false] rfl rfl (any_of HT_.out (by kernel_rfl)) (fun _ _ _ h => h) (Or.inl ⟨by rfl, ?_⟩) ?_ ?_
                                      rotate_left
                                      · intro w'
                                        go_simp
                                        with_reducible rfl
                                      rotate_left
                                      · simp only [Act.put, List.setIfInBounds_toArray, List.set_cons_zero, List.set_cons_succ, i64_w, i32_w]
                                        rfl
                                      refine pure_ (i := 10) (N := some 41) (v := ?_) (a' := ?_) #[true, true, true, true, true, true, true, true, true, true, true, false, false, false, false, false] rfl rfl (any_of HT_.out (by kernel_rfl)) (fun _ _ _ h => h) (Or.inl ⟨by rfl, ?_⟩) ?_ ?_
                                      rotate_left
                                      · intro w'
                                        go_simp
                                        with_reducible rfl
                                      rotate_left
                                      · simp only [Act.put, List.setIfInBounds_toArray, List.set_cons_zero, List.set_cons_succ, i64_w, i32_w]
                                        rfl
                                      refine take_ (i := 11) (N := some 42) (v := ?_) (a' := ?_) #[true, true, true, true, true, true, true, true, true, true, true, true, false, false, false, false] rfl rfl (take_of HT_.out (by kernel_rfl)) (fun _ _ _ h => h) (Or.inl ⟨by rfl, ?_⟩) hHeld ?_ ?_
                                      rotate_left
                                      · intro w' s0
                                        have f_ : x7_1 ≤ (l0.length : Int) := of_decide_eq_true (by first | (with_reducible assumption) | assumption)
                                        have hcv_ := Kd.C_string (P := Tryd.prog) (A := A23) (c := (c0 - (ji15).toNat)) Tryd.underlying42 Tryd.underlying5 Tryd.underlying9 (Kd.C_below HR30005.out s0)
                                        rw [show ((l0.take (x7_1 : Int).toNat).drop (ji15 : Int).toNat).length = (x7_1).toNat - (ji15).toNat from by rw [List.length_drop, List.length_take]; omega] at hcv_
                                        clear f_
                                        go_simp
                                        with_reducible rfl
                                      rotate_left
                                      · simp only [Act.put, List.setIfInBounds_toArray, List.set_cons_zero, List.set_cons_succ, i64_w, i32_w]
                                        rfl
                                      refine pure_ (i := 12) (N := some 43) (v := ?_) (a' := ?_) #[true, true, true, true, true, true, true, true, true, true, true, true, true, false, false, false] rfl rfl (any_of HT_.out (by kernel_rfl)) (fun _ _ _ h => h) (Or.inl ⟨by rfl, ?_⟩) ?_ ?_
                                      rotate_left
                                      · intro w'
                                        go_simp
                                        with_reducible rfl
                                      rotate_left
                                      · simp only [Act.put, List.setIfInBounds_toArray, List.set_cons_zero, List.set_cons_succ, i64_w, i32_w]
                                        rfl
                                      refine one_ (i := 13) (N := some 44) #[true, true, true, true, true, true, true, true, true, true, true, true, true, true, false, false] rfl rfl (one_of HT_.out (by kernel_rfl)) (by decide) (fun K hK => ?_)
                                      refine value_ (w1 := ?_) (v := ?_) (by rfl) rfl ?_ ?_
                                      rotate_left 2
                                      · go_simp
                                        constructor
                                        · rfl
                                        · rfl
                                      refine hK.out _ _ (by repeat (first | (with_reducible first | exact HB.out | apply below_alloc) | exact HB.out)) (fun hHeld => ?_)
                                      clear hK K
                                      refine norm_ (a' := ?_) ?_ ?_
                                      rotate_left
                                      · show Act.put _ (some 44) _ = _
                                        simp only [Act.put, List.setIfInBounds_toArray, List.set_cons_zero, List.set_cons_succ, i64_w, i32_w]
                                        rfl
                                      refine one_ (i := 14) (N := some 45) #[true, true, true, true, true, true, true, true, true, true, true, true, true, true, true, false] rfl rfl (one_of HT_.out (by kernel_rfl)) (by decide) (fun K hK => ?_)
                                      refine Kd.R_append_step k40 (w0 := w) w.heap.size (by rfl) (.tmp 31) (.tmp 44) 22 40 (.agg #[(.string ⟨#[]⟩), (.string ⟨#[]⟩)]) 32 rfl Tryd.underlying22 info40 rfl (by decide) (by omega) (.slice Ao20 x4_1.length co20) x4_1 (⟨strOfNums ((l0.take (x6_5 : Int).toNat).drop (x5_1 : Int).toNat), strOfNums ((l0.take (x7_1 : Int).toNat).drop ((ji15) : Int).toNat)⟩ : S40) [.string (strOfNums ((l0.take (x6_5 : Int).toNat).drop (x5_1 : Int).toNat)), .string (strOfNums ((l0.take (x7_1 : Int).toNat).drop ((ji15) : Int).toNat))] (fun _ => True) (fun _ => False) rfl rfl ?aP (fun _ hk => hk.elim) ?aF ?aO ?aB ?aS ?aL ?_
                                      (case aP => exact k40_mkM _ _ _ (⟨strOfNums ((l0.take (x6_5 : Int).toNat).drop (x5_1 : Int).toNat), strOfNums ((l0.take (x7_1 : Int).toNat).drop ((ji15) : Int).toNat)⟩ : S40))
                                      (case aB => exact (by repeat (first | (with_reducible first | exact HB.out | apply below_alloc | apply pw_below_drewN | apply below_drew1) | exact HB.out)))
                                      (case aF => exact (fun _ _ => trivial))
                                      (case aO => exact (by (with_reducible repeat (first | apply Kd.R_alloc | apply Kd.R_drewN | apply Kd.R_drew)); exact HO_4.out))
                                      (case aS => exact (below_size (by repeat (first | (with_reducible first | exact HB.out | apply below_alloc | apply pw_below_drewN | apply below_drew1) | exact HB.out))))
                                      (case aL => have := LMc19.out; omega)
                                      intro v30007 w27 ho hb hg hat
                                      rw [← Ny30006.out] at ho
                                      have n0_ := Aside0.mk (hb)
                                      have n1_ := Aside0.mk (ho)
                                      clear HB
                                      clear HO_4
                                      have HB := n0_
                                      have HO30008 := n1_
                                      clear n0_ n1_
                                      clear ho hb hg hat
                                      refine hK.out _ _ (by repeat (first | (with_reducible first | exact HB.out | apply below_alloc) | exact HB.out)) (fun hHeld => ?_)
                                      clear hK K
                                      refine norm_ (a' := ?_) ?_ ?_
                                      rotate_left
                                      · show Act.put _ (some 45) _ = _
                                        simp only [Act.put, List.setIfInBounds_toArray, List.set_cons_zero, List.set_cons_succ, i64_w, i32_w]
                                        rfl
                                      refine pure_ (i := 15) (N := some 4) (v := ?_) (a' := ?_) #[true, true, true, true, true, true, true, true, true, true, true, true, true, true, true, true] rfl rfl (any_of HT_.out (by kernel_rfl)) (fun _ _ _ h => h) (Or.inl ⟨by rfl, ?_⟩) ?_ ?_
                                      rotate_left
                                      · intro w'
                                        go_simp
                                        with_reducible rfl
                                      rotate_left
                                      · simp only [Act.put, List.setIfInBounds_toArray, List.set_cons_zero, List.set_cons_succ, i64_w, i32_w]
                                        rfl
                                      refine done_ (done_of HT_.out (by kernel_rfl)) ?_
                                      try go_wp2
                                      go_roundg kj5
                                      case measure => have := HK1.out; have := HJ2.out; have := HJ5.out; omega
                                      case rel => exact ⟨(y30006), (wrap64 (x7_1 + 1)), ((-1)), (wrap64 (x7_1 + 1)), (by first | rfl | (simp; done) | (simp [*]; done)), (by first | rfl | (simp; done) | (simp [*]; done)), (by first | rfl | (simp; done) | (simp [*]; done)), H', ⟨by have := HK1.out; have := HJ2.out; have := HJ5.out; omega⟩, ⟨by (with_reducible repeat (first | apply Kd.R_alloc | apply Kd.R_drewN | apply Kd.R_drew)); exact HO30008.out⟩, ⟨by repeat (first | (with_reducible first | exact HB.out | apply below_alloc | apply pw_below_drewN | apply below_drew1) | exact HB.out)⟩⟩
                                    · rw [if_neg c19] at H
                                      exact absurd H (by simp)
                                  · rw [if_neg c18] at H
                                    exact absurd H (by simp)
                                · rw [if_neg c17] at H
                                  exact absurd H (by simp)
                              · rw [if_neg c16] at H
                                exact absurd H (by simp)
                            · rw [if_neg c14] at H
                              exact absurd H (by simp)
                          · rw [if_neg c13] at H
                            exact absurd H (by simp)
                        · rw [if_neg c12] at H
                          exact absurd H (by simp)
                    · rw [if_neg c10] at H
                      have c10b0 : ((rd l0 x7_1) == 0) = false := beq_eq_false_iff_ne.mpr c10
                      have c10b1 : ((rd l0 x7_1) != 0) = true := bne_iff_ne.mpr c10
                      have H' := Aside0.mk H
                      clear H
                      have p30003 : 0 ≤ (x7_1 : Int) := of_decide_eq_true (by first | (with_reducible assumption) | assumption)
                      have q30003 : x7_1 < (l0.length : Int) := of_decide_eq_true (by first | (with_reducible assumption) | assumption)
                      obtain ⟨ad30003, e30003, hx30003_0⟩ := Kd.at_int HR0.out x7_1 p30003 q30003
                      cases e30003
                      replace hx30003_0 := (HB.out.cell (World.block_lt_of_cell? w _ hx30003_0)).trans hx30003_0
                      replace p30003 := eq_true p30003
                      replace q30003 := eq_true q30003
                      go_wp2
                      go_roundg kj5
                      case measure => have := HK1.out; have := HJ2.out; have := HJ5.out; omega
                      case rel => exact ⟨(x4_1), (x5_1), (x6_5), (wrap64 (x7_1 + 1)), (by first | rfl | (simp; done) | (simp [*]; done)), (by first | rfl | (simp; done) | (simp [*]; done)), (by first | rfl | (simp; done) | (simp [*]; done)), H', ⟨by have := HK1.out; have := HJ2.out; have := HJ5.out; omega⟩, ⟨by (with_reducible repeat (first | apply Kd.R_alloc | apply Kd.R_drewN | apply Kd.R_drew)); exact HO_4.out⟩, ⟨by repeat (first | (with_reducible first | exact HB.out | apply below_alloc | apply pw_below_drewN | apply below_drew1) | exact HB.out)⟩⟩
                  · rw [if_neg c9] at H
                    exact absurd H (by simp)
                · rw [if_neg c8] at H
                  exact absurd H (by simp)
      · rw [if_neg c2] at H
        have c2b0 : decide (x7_1 < (l0.length : Int)) = false := decide_eq_false c2
        clear c2
        by_cases c28 : x5_1 = (l0.length : Int)
        · rw [if_pos c28] at H
          have c28b0 : (x5_1 == (l0.length : Int)) = true := beq_iff_eq.mpr c28
          have c28b1 : (x5_1 != (l0.length : Int)) = false := bne_eq_false_iff_eq.mpr c28
          clear c28
          replace H := Option.bind_eq_some_iff.mp H
          obtain ⟨t30001, A290, H⟩ := H
          replace H : (if t30001 = true then (some (x4_1, 0)) else (some (([] : List (S40)), 15))) = some (r1, r2) := H
          have A29 := Aside0.mk A290
          clear A290
          by_cases c30 : t30001 = true
          · subst c30
            have H1 : (some (x4_1, 0)) = some (r1, r2) := by rw [if_pos rfl] at H; exact H
            clear H
            have H := H1
            clear H1
            simp only [Option.some.injEq, Prod.mk.injEq] at H
            obtain ⟨rfl, rfl⟩ := H
            obtain ⟨Ao31, co31, eo31⟩ := Kd.R_slice HO_4.out
            subst eo31
            go_wp2_with (first | (go_at_call 25; (with_reducible refine (tinderref19_Right.calls k1 _ _ x4_1 true _ ?side1 ?side2 A29.out).mono ?_); (case side1 => repeat (first | exact (Kd.R_reads' HO_4.out).2.2 | (with_reducible refine Kd.C_alloc ?_ _) | (with_reducible refine Kd.C_drewN ?_ _) | (with_reducible refine Kd.C_drew ?_))); (case side2 => exact (Kd.R_reads' HO_4.out).2.1); rintro e w32 ⟨rfl, hb⟩; have n0_ := Aside0.mk (Kd.R_below (by (with_reducible repeat (first | apply Kd.R_alloc | apply Kd.R_drewN | apply Kd.R_drew)); exact HO_4.out) hb); have n1_ := Aside0.mk (below_step (by repeat (first | (with_reducible first | exact HB.out | apply below_alloc | apply pw_below_drewN | apply below_drew1) | exact HB.out)) hb); clear HO_4; clear HB; have HO_4 := n0_; have HB := n1_; clear n0_ n1_; (try clear hb); (try clear hb2); (try clear hk); (try clear hi)))
            go_ret2
            exact ⟨_, by first | rfl | (simp [errW_none, errW_some] <;> rfl) | (simp [*, errW_none, errW_some] <;> rfl), by (with_reducible repeat (first | apply Kd.R_alloc | apply Kd.R_drewN | apply Kd.R_drew)); exact HO_4.out, by repeat (first | (with_reducible first | exact HB.out | apply below_alloc | apply pw_below_drewN | apply below_drew1) | exact HB.out)⟩
          · replace c30 := Bool.eq_false_iff.mpr c30
            subst c30
            have H1 : (some (([] : List (S40)), 15)) = some (r1, r2) := by rw [if_neg (show ¬ (false = true) by decide)] at H; exact H
            clear H
            have H := H1
            clear H1
            simp only [Option.some.injEq, Prod.mk.injEq] at H
            obtain ⟨rfl, rfl⟩ := H
            obtain ⟨Ao33, co33, eo33⟩ := Kd.R_slice HO_4.out
            subst eo33
            go_wp2_with (first | (go_at_call 25; (with_reducible refine (tinderref19_Right.calls k1 _ _ x4_1 false _ ?side1 ?side2 A29.out).mono ?_); (case side1 => repeat (first | exact (Kd.R_reads' HO_4.out).2.2 | (with_reducible refine Kd.C_alloc ?_ _) | (with_reducible refine Kd.C_drewN ?_ _) | (with_reducible refine Kd.C_drew ?_))); (case side2 => exact (Kd.R_reads' HO_4.out).2.1); rintro e w34 ⟨rfl, hb⟩; have n0_ := Aside0.mk (Kd.R_below (by (with_reducible repeat (first | apply Kd.R_alloc | apply Kd.R_drewN | apply Kd.R_drew)); exact HO_4.out) hb); have n1_ := Aside0.mk (below_step (by repeat (first | (with_reducible first | exact HB.out | apply below_alloc | apply pw_below_drewN | apply below_drew1) | exact HB.out)) hb); clear HO_4; clear HB; have HO_4 := n0_; have HB := n1_; clear n0_ n1_; (try clear hb); (try clear hb2); (try clear hk); (try clear hi)))
            go_ret2
            exact ⟨_, by first | rfl | (simp [errW_none, errW_some] <;> rfl) | (simp [*, errW_none, errW_some] <;> rfl), by first | exact Kd.R_nil _ _ _ _ _ | exact Kd.N_nil _ _ _ _ _ | exact Kd.V_nil _ _ _ _ _ | exact Kd.Q_nil _ _ _ _ _ | exact Kd.S_nil _ _ _ _ _, by repeat (first | (with_reducible first | exact HB.out | apply below_alloc | apply pw_below_drewN | apply below_drew1) | exact HB.out)⟩
        · rw [if_neg c28] at H
          have c28b0 : (x5_1 == (l0.length : Int)) = false := beq_eq_false_iff_ne.mpr c28
          have c28b1 : (x5_1 != (l0.length : Int)) = true := bne_iff_ne.mpr c28
          simp only [Option.some.injEq, Prod.mk.injEq] at H
          obtain ⟨rfl, rfl⟩ := H
          go_wp2
          go_ret2
          exact ⟨_, by first | rfl | (simp [errW_none, errW_some] <;> rfl) | (simp [*, errW_none, errW_some] <;> rfl), by first | exact Kd.R_nil _ _ _ _ _ | exact Kd.N_nil _ _ _ _ _ | exact Kd.V_nil _ _ _ _ _ | exact Kd.Q_nil _ _ _ _ _ | exact Kd.S_nil _ _ _ _ _, by repeat (first | (with_reducible first | exact HB.out | apply below_alloc | apply pw_below_drewN | apply below_drew1) | exact HB.out)⟩

end Go.Proofs.YtefhngadeimklaaDoor.Q
end
section
set_option linter.unusedSimpArgs false
set_option linter.unusedVariables false
namespace Go.Proofs.YtefhngadeimklaaDoor.Q
open Go.RowKit Go.Proofs.YtefhngadeimklaaDoorW.PrintWords Go.Proofs.YtefhngadeimklaaDoorW.PrintLast
def cutL (c : Int) : List Int → Option (List Int × List Int)
  | [] => none
  | x :: r => if x = c then some ([], r) else (cutL c r).map fun p => (x :: p.1, p.2)
theorem cutL_snoc (c x : Int) : ∀ l : List Int, cutL c (l ++ [x]) = match cutL c l with | some (u, v) => some (u, v ++ [x]) | none => if x = c then some (l, []) else none
  | [] => by
    rw [List.nil_append, cutL, cutL]
    by_cases h : x = c
    · rw [if_pos h]; simp [h]
    · rw [if_neg h]; simp [h, cutL]
  | y :: l => by
    rw [List.cons_append, cutL, cutL, cutL_snoc c x l]
    by_cases h : y = c
    · rw [if_pos h, if_pos h]
    · rw [if_neg h, if_neg h]
      cases cutL c l with
      | some p => rfl
      | none =>
        dsimp only
        by_cases hx : x = c
        · rw [if_pos hx]; simp [hx]
        · rw [if_neg hx]; simp [hx]
theorem cutL_app (c : Int) : ∀ l {u v : List Int}, cutL c l = some (u, v) → l = u ++ c :: v
  | [], _, _, h => by cases h
  | y :: l, u, v, h => by
    rw [cutL] at h
    split at h
    · rename_i e
      simp only [Option.some.injEq, Prod.mk.injEq] at h
      obtain ⟨rfl, rfl⟩ := h
      rw [e, List.nil_append]
    · obtain ⟨⟨a, b⟩, h1, h2⟩ := Option.map_eq_some_iff.1 h
      simp only [Prod.mk.injEq] at h2
      obtain ⟨rfl, rfl⟩ := h2
      rw [cutL_app c l h1, List.cons_append]
/-- Pieces ended by 0, each a name, '=' and a value. -/
def decS : List Int → List Int → List S40 → Option (List S40)
  | pre, [], acc => if pre = [] then some acc else none
  | pre, x :: rest, acc => if x = 0 then (match cutL 61 pre with | none => none | some (u, v) => decS [] rest (acc ++ [⟨strOfNums u, strOfNums v⟩])) else decS (pre ++ [x]) rest acc
def decR (o : Option (List S40)) : List S40 × Int := match o with | none => (([] : List S40), 15) | some m => if rightF m = true then (m, 0) else (([] : List S40), 15)
theorem strOfNums_size (l : List Int) : (strOfNums l).size = l.length := by
  have : (strOfNums l).data.toList.length = l.length := by rw [strOfNums_data, List.length_map]
  simpa using this
theorem fits_snoc {acc : List S40} (h : Fits acc) {u v : List Int} (hu : u.length ≤ 140737488351232) (hv : v.length ≤ 140737488351232) : Fits (acc ++ [⟨strOfNums u, strOfNums v⟩]) := by
  intro x hx
  rcases List.mem_append.1 hx with hx | hx
  · exact h x hx
  · obtain rfl := List.mem_singleton.1 hx
    exact ⟨by rw [strOfNums_size]; exact hu, by rw [strOfNums_size]; exact hv⟩
theorem decS_fits : ∀ (rest pre : List Int) (acc : List S40) (m : List S40), Fits acc → pre.length + rest.length ≤ 140737488351232 → decS pre rest acc = some m → Fits m ∧ m.length ≤ acc.length + rest.length
  | [], pre, acc, m, hf, hl, h => by
    rw [decS] at h
    split at h
    · obtain rfl := Option.some.inj h
      exact ⟨hf, by simp⟩
    · cases h
  | x :: rest, pre, acc, m, hf, hl, h => by
    rw [decS] at h
    rw [List.length_cons] at hl
    split at h
    · cases hc : cutL 61 pre with
      | none => rw [hc] at h; cases h
      | some p =>
        obtain ⟨u, v⟩ := p
        rw [hc] at h
        have e := congrArg List.length (cutL_app 61 pre hc)
        rw [List.length_append, List.length_cons] at e
        have ih := decS_fits rest [] _ m (fits_snoc hf (u := u) (v := v) (by omega) (by omega)) (by simp; omega) h
        rw [List.length_append, List.length_singleton] at ih
        rw [List.length_cons]
        exact ⟨ih.1, by omega⟩
    · have ih := decS_fits rest (pre ++ [x]) acc m hf (by rw [List.length_append, List.length_singleton]; omega) h
      rw [List.length_cons]
      exact ⟨ih.1, by omega⟩
theorem drop_at (b : List Int) (i : Int) (h0 : 0 ≤ i) (h1 : i < b.length) : b.drop i.toNat = rd b i :: b.drop (i + 1).toNat := by
  rw [List.drop_eq_getElem_cons (show i.toNat < b.length by omega), show (i + 1).toNat = i.toNat + 1 by omega]
  simp [rd, List.getD_eq_getElem?_getD, List.getElem?_eq_getElem (show i.toNat < b.length by omega)]
theorem pre_snoc (b : List Int) (f i : Int) (h0 : 0 ≤ f) (hf : f ≤ i) (h1 : i < b.length) : (b.take (i + 1).toNat).drop f.toNat = (b.take i.toNat).drop f.toNat ++ [rd b i] := by
  rw [show (i + 1).toNat = i.toNat + 1 by omega, List.take_succ_eq_append_getElem (show i.toNat < b.length by omega), List.drop_append_of_le_length (by rw [List.length_take]; omega)]
  simp [rd, List.getD_eq_getElem?_getD, List.getElem?_eq_getElem (show i.toNat < b.length by omega)]
theorem refdecode_go (b : List Int) (hb : b.length ≤ 1048576) : ∀ (d k : Nat) (f eq i : Int) (acc : List S40), i + d = b.length → 0 ≤ f → f ≤ i → (eq = -1 ∨ (f ≤ eq ∧ eq < i)) → acc.length ≤ i → Fits acc →
    cutL 61 ((b.take i.toNat).drop f.toNat) = (if eq < 0 then none else some ((b.take eq.toNat).drop f.toNat, (b.take i.toNat).drop (eq + 1).toNat)) → 3 * d + 140737490000000 < k →
    tinderref19_Decode.l0 k b acc f eq i = some (decR (decS ((b.take i.toNat).drop f.toNat) (b.drop i.toNat) acc))
  | 0, k, f, eq, i, acc, h1, hf0, hfi, he, ha, hF, hc, hk => by
    obtain ⟨k, rfl⟩ : ∃ m, k = m + 1 := ⟨k - 1, by omega⟩
    have hr := refright_eq acc hF (by omega) k (by omega)
    rw [tinderref19_Decode.l0, if_neg (by omega), hr, Option.bind_some, show b.drop i.toNat = [] from List.drop_eq_nil_of_le (by omega), decS, List.take_of_length_le (by omega)]
    by_cases hfb : f = b.length
    · rw [if_pos hfb, List.drop_eq_nil_of_le (by omega), if_pos rfl, decR]
      by_cases h : rightF acc = true
      · simp [h]
      · simp [h]
    · rw [if_neg hfb, if_neg]
      · rfl
      · intro h
        have := congrArg List.length h
        rw [List.length_drop, List.length_nil] at this
        omega
  | d + 1, k, f, eq, i, acc, h1, hf0, hfi, he, ha, hF, hc, hk => by
    obtain ⟨k, rfl⟩ : ∃ m, k = m + 3 := ⟨k - 3, by omega⟩
    have hw : wrap64 (i + 1) = i + 1 := by unfold wrap64; omega
    have hpl : ((b.take i.toNat).drop f.toNat).length ≤ 1048576 := by rw [List.length_drop, List.length_take]; omega
    have hps := pre_snoc b f i hf0 hfi (by omega)
    rw [drop_at b i (by omega) (by omega), decS]
    -- the middle step
    have step2 : ∀ e2 : Int, (e2 = -1 ∨ (f ≤ e2 ∧ e2 ≤ i)) → (e2 = i → rd b i = 61) → cutL 61 ((b.take (i + 1).toNat).drop f.toNat) = (if e2 < 0 then none else some ((b.take e2.toNat).drop f.toNat, (b.take (i + 1).toNat).drop (e2 + 1).toNat)) → (rd b i = 0 → e2 = eq) →
        tinderref19_Decode.j2 (k + 1) b acc f e2 i = some (decR (if rd b i = 0 then (match cutL 61 ((b.take i.toNat).drop f.toNat) with | none => none | some (u, v) => decS [] (b.drop (i + 1).toNat) (acc ++ [⟨strOfNums u, strOfNums v⟩])) else decS ((b.take i.toNat).drop f.toNat ++ [rd b i]) (b.drop (i + 1).toNat) acc)) := by
      intro e2 he2 hei hc2 hez
      rw [tinderref19_Decode.j2, if_pos (by omega), if_pos (by omega), hw]
      by_cases h0 : rd b i = 0
      · rw [if_pos h0, if_pos h0]
        obtain rfl := hez h0
        by_cases hn : e2 < 0
        · rw [if_pos hn, hc, if_pos hn]
          rfl
        · have hlt : e2 < i := by
            rcases he with h | h <;> omega
          have hfe : f ≤ e2 := by
            rcases he with h | h <;> omega
          have hw2 : wrap64 (e2 + 1) = e2 + 1 := by unfold wrap64; omega
          rw [if_neg hn, if_pos hf0, if_pos hfe, if_pos (by omega), hw2, if_pos (by omega), if_pos (by omega), if_pos (by omega), if_pos (by omega), hc, if_neg hn]
          have ih := refdecode_go b hb d k (i + 1) (-1) (i + 1) (acc ++ [⟨strOfNums ((b.take e2.toNat).drop f.toNat), strOfNums ((b.take i.toNat).drop (e2 + 1).toNat)⟩]) (by omega) (by omega) (by omega) (.inl rfl) (by rw [List.length_append, List.length_singleton]; omega)
            (fits_snoc hF (by rw [List.length_drop, List.length_take]; omega) (by rw [List.length_drop, List.length_take]; omega)) (by rw [List.drop_eq_nil_of_le (by rw [List.length_take]; omega)]; rfl) (by omega)
          rw [show (b.take (i + 1).toNat).drop (i + 1).toNat = [] from List.drop_eq_nil_of_le (by rw [List.length_take]; omega)] at ih
          exact (at_rounds (fun k => (tinderref19_Decode.mono_l k).1 _ _ _ _ _) (Nat.le_refl _) ih)
      · rw [if_neg h0, if_neg h0, ← hps]
        refine at_rounds (fun k => (tinderref19_Decode.mono_l k).1 _ _ _ _ _) (Nat.le_refl _) (refdecode_go b hb d k f e2 (i + 1) acc (by omega) hf0 (by omega) ?_ (by omega) hF hc2 (by omega))
        rcases he2 with h | h
        · exact .inl h
        · exact .inr ⟨h.1, by omega⟩
    rw [tinderref19_Decode.l0, if_pos (by omega), if_pos (by omega)]
    by_cases h61 : rd b i = 61
    · rw [if_pos h61, tinderref19_Decode.j1]
      by_cases hn : eq < 0
      · rw [decide_eq_true hn, if_pos rfl]
        refine step2 i (.inr ⟨hfi, Int.le_refl _⟩) (fun _ => h61) ?_ (fun h => by omega)
        rw [hps, cutL_snoc, hc, if_pos hn, if_pos h61, if_neg (by omega)]
        rw [show (b.take (i + 1).toNat).drop (i + 1).toNat = [] from List.drop_eq_nil_of_le (by rw [List.length_take]; omega)]
      · rw [decide_eq_false hn, if_neg (by decide)]
        have hlt : f ≤ eq ∧ eq < i := by
          rcases he with h | h
          · omega
          · exact h
        refine step2 eq (.inr ⟨hlt.1, by omega⟩) (fun h => by omega) ?_ (fun _ => rfl)
        rw [hps, cutL_snoc, hc, if_neg hn, if_neg hn, pre_snoc b (eq + 1) i (by omega) (by omega) (by omega)]
    · rw [if_neg h61, tinderref19_Decode.j1, if_neg (by decide)]
      refine step2 eq ?_ (fun h => ?_) ?_ (fun _ => rfl)
      · rcases he with h | h
        · exact .inl h
        · exact .inr ⟨h.1, by omega⟩
      · rcases he with h2 | h2 <;> omega
      · rw [hps, cutL_snoc, hc]
        by_cases hn : eq < 0
        · rw [if_pos hn, if_pos hn, if_neg h61]
        · have hlt : f ≤ eq ∧ eq < i := by
            rcases he with h | h
            · omega
            · exact h
          rw [if_neg hn, if_neg hn, pre_snoc b (eq + 1) i (by omega) (by omega) (by omega)]
theorem refdecode_eq (b : List Int) (hb : b.length ≤ 1048576) (k : Nat) (hk : 140737500000000 < k) : tinderref19_Decode.f k b = some (decR (decS [] b [])) := by
  have := refdecode_go b hb b.length k 0 (-1) 0 [] (by omega) (Int.le_refl _) (Int.le_refl _) (.inl rfl) (by simp) (fun x hx => by cases hx) (by simp [cutL]) (by omega)
  unfold tinderref19_Decode.f
  simpa using this
end Go.Proofs.YtefhngadeimklaaDoor.Q
end
section
set_option linter.unusedSimpArgs false
set_option linter.unusedVariables false
namespace Go.Proofs.YtefhngadeimklaaDoor.Q
open Go.RowKit Go.Proofs.YtefhngadeimklaaDoorW.PrintWords Go.Proofs.YtefhngadeimklaaDoorW.PrintLast
def Bytes (l : List Int) : Prop := ∀ a ∈ l, 0 ≤ a ∧ a < 256
theorem head_size (c : UInt8) (s : ByteArray) : (headC c s).size ≤ s.size := by
  unfold headC
  split
  · rw [ByteArray.size_extract]; omega
  · exact Nat.le_refl _
theorem tail_size (c : UInt8) (s : ByteArray) : (tailC c s).size ≤ s.size := by
  unfold tailC
  split
  · rw [ByteArray.size_extract]; omega
  · exact Nat.zero_le _
theorem decS_cut : ∀ (rest pre : List Int) (acc : List S40), decS pre rest acc = match cutL 0 rest with
    | none => (if pre = [] ∧ rest = [] then some acc else none)
    | some (p, r) => (match cutL 61 (pre ++ p) with | none => none | some (u, v) => decS [] r (acc ++ [⟨strOfNums u, strOfNums v⟩]))
  | [], pre, acc => by
    rw [decS, cutL]
    by_cases h : pre = [] <;> simp [h]
  | x :: rest, pre, acc => by
    rw [decS, cutL]
    by_cases h : x = 0
    · rw [if_pos h, if_pos h]
      dsimp only
      rw [List.append_nil]
      all_goals (rcases cutL 61 pre with _ | ⟨u, v⟩ <;> rfl)
    · rw [if_neg h, if_neg h, decS_cut rest (pre ++ [x]) acc]
      cases cutL 0 rest with
      | none => simp
      | some p =>
        obtain ⟨p, r⟩ := p
        dsimp only [Option.map_some]
        rw [List.append_assoc]
        rfl
theorem cut_list (c : UInt8) : ∀ l : List UInt8, cutL (c.toNat : Int) (l.map fun b => (b.toNat : Int)) = if 0 ≤ Lib.indexByte l c then some ((l.take (Lib.indexByte l c).toNat).map fun b => (b.toNat : Int), (l.drop (Lib.indexByte l c + 1).toNat).map fun b => (b.toNat : Int)) else none
  | [] => rfl
  | b :: l => by
    have hg := Lib.indexByte_ge l c
    rw [List.map_cons, cutL, cut_list c l]
    by_cases h : b = c
    · subst h
      simp [Lib.indexByte]
    · have h2 : ¬ ((b.toNat : Int) = (c.toNat : Int)) := fun e => h (UInt8.toNat_inj.1 (by omega))
      have e1 : Lib.indexByte (b :: l) c = if Lib.indexByte l c = -1 then -1 else Lib.indexByte l c + 1 := by
        rw [Lib.indexByte, if_neg (by simpa using h)]
        by_cases hn : Lib.indexByte l c = -1 <;> simp [hn]
      rw [if_neg h2, e1]
      by_cases hn : Lib.indexByte l c = -1
      · rw [if_pos hn, if_neg (show ¬ 0 ≤ Lib.indexByte l c by omega), if_neg (by decide)]
        rfl
      · rw [if_neg hn, if_pos (show 0 ≤ Lib.indexByte l c by omega), if_pos (show 0 ≤ Lib.indexByte l c + 1 by omega)]
        rw [show (Lib.indexByte l c + 1 + 1).toNat = (Lib.indexByte l c + 1).toNat + 1 by omega, show (Lib.indexByte l c + 1).toNat = (Lib.indexByte l c).toNat + 1 by omega]
        rfl
theorem ext_data (s : ByteArray) (a b : Nat) : (s.extract a b).data.toList = (s.data.toList.take b).drop a := by
  rw [ByteArray.data_extract, Array.toList_extract, List.extract_eq_take_drop, List.drop_take]
theorem cut_bytes (c : UInt8) (s : ByteArray) : cutL (c.toNat : Int) (bytesOf s) = if 0 ≤ ixC c s then some (bytesOf (headC c s), bytesOf (tailC c s)) else none := by
  unfold bytesOf
  rw [cut_list]
  by_cases h : 0 ≤ ixC c s
  · have h2 : 0 ≤ Lib.indexByte s.data.toList c := h
    rw [if_pos h2, if_pos h, headC, tailC, if_pos h, if_pos h, ext_data, ext_data, List.drop_zero]
    have hs : s.data.toList.take s.size = s.data.toList := List.take_of_length_le (by rw [data_length]; exact Nat.le_refl _)
    rw [hs]
    rfl
  · have h2 : ¬ 0 ≤ Lib.indexByte s.data.toList c := h
    rw [if_neg h2, if_neg h]
theorem cut_0 (s : ByteArray) : cutL 0 (bytesOf s) = if 0 ≤ ixC 0 s then some (bytesOf (headC 0 s), bytesOf (tailC 0 s)) else none := cut_bytes 0 s
theorem cut_61 (s : ByteArray) : cutL 61 (bytesOf s) = if 0 ≤ ixC 61 s then some (bytesOf (headC 61 s), bytesOf (tailC 61 s)) else none := cut_bytes 61 s
theorem str_bytes (s : ByteArray) : strOfNums (bytesOf s) = s := by
  obtain ⟨⟨l⟩⟩ := s
  unfold strOfNums bytesOf
  rw [List.map_map]
  congr 2
  conv => rhs; rw [← List.map_id l]
  apply List.map_congr_left
  intro b _
  simp
theorem bytes_str (l : List Int) (h : Bytes l) : bytesOf (strOfNums l) = l := by
  unfold bytesOf
  rw [strOfNums_data, List.map_map]
  conv => rhs; rw [← List.map_id l]
  apply List.map_congr_left
  intro b hb
  have := h b hb
  show (((UInt8.ofNat b.toNat).toNat : Nat) : Int) = b
  rw [UInt8.toNat_ofNat']
  omega
theorem decode_go : ∀ (n k : Nat) (s : ByteArray) (acc : List S40), s.size < n → acc.length + s.size ≤ 1048576 → Fits acc → n + 140737490000000 < k → vars_Decode.l0 k acc s = some (decR (decS [] (bytesOf s) acc))
  | 0, _, _, _, h, _, _, _ => absurd h (by omega)
  | n + 1, k, s, acc, h, ha, hF, hk => by
    obtain ⟨k, rfl⟩ : ∃ m, k = m + 1 := ⟨k - 1, by omega⟩
    have hr := right_eq acc hF (by omega) k (by omega)
    rw [vars_Decode.l0]
    by_cases he : s.size = 0
    · have hb : bytesOf s = [] := List.eq_nil_of_length_eq_zero (by rw [bytesOf_length]; exact he)
      rw [if_pos ((empty_iff s).2 he), hr, Option.bind_some, hb, decS, if_pos rfl, decR]
      by_cases h : rightF acc = true <;> simp [h]
    · have hne : bytesOf s ≠ [] := fun e => he (by rw [← bytesOf_length, e]; rfl)
      have hc0 : strings_Cut.f s (⟨#[0]⟩ : ByteArray) = some (headC 0 s, tailC 0 s, decide (0 ≤ ixC 0 s)) := by
        unfold strings_Cut.f
        rw [if_pos (by omega)]
      have hhs := head_size 0 s
      have hc1 : strings_Cut.f (headC 0 s) (⟨#[61]⟩ : ByteArray) = some (headC 61 (headC 0 s), tailC 61 (headC 0 s), decide (0 ≤ ixC 61 (headC 0 s))) := by
        unfold strings_Cut.f
        rw [if_pos (by omega)]
      rw [if_neg (fun e => he ((empty_iff s).1 e)), hc0, Option.bind_some, hc1, Option.bind_some, decS_cut, cut_0 s]
      dsimp only
      by_cases h0 : 0 ≤ ixC 0 s
      · rw [decide_eq_true h0, if_pos rfl, if_pos h0]
        dsimp only
        rw [List.nil_append, cut_61 (headC 0 s)]
        have hlt := ixC_lt 0 s h0
        have hts : (tailC 0 s).size < s.size := by
          unfold tailC
          rw [if_pos h0, ByteArray.size_extract]
          omega
        by_cases h1 : 0 ≤ ixC 61 (headC 0 s)
        · rw [decide_eq_true h1, if_pos rfl, if_pos h1, if_pos (by omega)]
          dsimp only
          have hlt1 := ixC_lt 61 (headC 0 s) h1
          rw [str_bytes, str_bytes]
          refine decode_go n k (tailC 0 s) _ (by omega) ?_ ?_ (by omega)
          · rw [List.length_append, List.length_singleton]; omega
          · intro x hx
            rcases List.mem_append.1 hx with hx | hx
            · exact hF x hx
            · obtain rfl := List.mem_singleton.1 hx
              have h3 := head_size 61 (headC 0 s)
              have h4 := tail_size 61 (headC 0 s)
              exact ⟨by show (headC 61 (headC 0 s)).size ≤ _; omega, by show (tailC 61 (headC 0 s)).size ≤ _; omega⟩
        · rw [decide_eq_false h1, if_neg (by decide), if_neg h1]
          rfl
      · rw [decide_eq_false h0, if_neg (by decide), if_neg h0]
        dsimp only
        rw [if_neg (fun h => hne h.2)]
        rfl
theorem decode_eq (b : List Int) (hb : b.length ≤ 1048576) (hB : Bytes b) (k : Nat) (hk : 140737500000000 < k) : vars_Decode.f k b = some (decR (decS [] b [])) := by
  unfold vars_Decode.f
  rw [decode_go (b.length + 1) k (strOfNums b) [] (by rw [strOfNums_size]; omega) (by rw [strOfNums_size]; simpa using hb) (fun x hx => by cases hx) (by omega), bytes_str b hB]
end Go.Proofs.YtefhngadeimklaaDoor.Q
end
section
namespace Go.Proofs.YtefhngadeimklaaDoor.Q
open Go.RowKit Go.Proofs.YtefhngadeimklaaDoorW.PrintWords Go.Proofs.YtefhngadeimklaaDoorW.PrintLast Go.Proofs.YtefhngadeimklaaDoorW.PrintMore
/-- The row v of bytes xs, and the blocks bs that no append to it touches. -/
structure St (w0 : World) (W : World) (v : Value) (xs : List Int) (bs : List (Nat × Obj)) : Prop where
  row : Kd.R (Kd.int .u8) 5 W w0.heap.size (fun k => ∀ p ∈ bs, k ≠ p.1) v xs
  below : Below w0.heap.size w0 W
  held : ∀ p ∈ bs, W.heap[p.1]? = some p.2
theorem lt_of_some {W : World} {k : Nat} {o : Obj} (h : W.heap[k]? = some o) : k < W.heap.size := (Array.getElem?_eq_some_iff.1 h).1
theorem new_get (W : World) (o : Obj) : (W.alloc o).heap[W.heap.size]? = some o := by unfold World.alloc; simp
theorem old_get (W : World) (o : Obj) {k : Nat} {x : Obj} (h : W.heap[k]? = some x) : (W.alloc o).heap[k]? = some x := by
  have hl := lt_of_some h
  rw [(below_alloc (Below.refl W.heap.size W) o).block k hl]
  exact h
theorem St_alloc {w0 W : World} {v : Value} {xs : List Int} {bs : List (Nat × Obj)} (h : St w0 W v xs bs) (o : Obj) : St w0 (W.alloc o) v xs ((W.heap.size, o) :: bs) := by
  refine ⟨Kd.R_alloc (Kd.R_mono (Kd.R_bound h.row) (fun k hk p hp => ?_)) o, below_alloc h.below o, fun p hp => ?_⟩
  · rcases List.mem_cons.1 hp with rfl | hp
    · exact Nat.ne_of_lt hk.2.2.1
    · exact hk.1 p hp
  · rcases List.mem_cons.1 hp with rfl | hp
    · exact new_get W o
    · exact old_get W o (h.held p hp)
theorem St_start {w0 W : World} {v : Value} {xs : List Int} (h : Kd.R (Kd.int .u8) 5 W w0.heap.size (fun _ => True) v xs) (hb : Below w0.heap.size w0 W) : St w0 W v xs [] :=
  ⟨Kd.R_mono h (fun _ _ p hp => by cases hp), hb, fun p hp => by cases hp⟩
theorem St_drew {w0 W : World} {v : Value} {xs : List Int} {bs : List (Nat × Obj)} (h : St w0 W v xs bs) : St w0 W.drew v xs bs := ⟨Kd.R_drew h.row, below_drew h.below, h.held⟩
theorem held_mem {w0 W : World} {v : Value} {xs : List Int} {bs : List (Nat × Obj)} (h : St w0 W v xs bs) (b : Nat) (x : Value) (e : TypeId) (hm : (b, Obj.cells #[x] e (0, 0)) ∈ bs) : W.cell? ⟨b, 0, none⟩ = some x := (blk_cell (h.held _ hm) 0).trans rfl
theorem held_two {w0 W : World} {v : Value} {xs : List Int} {bs : List (Nat × Obj)} (h : St w0 W v xs bs) (b : Nat) (x y : Value) (e : TypeId) (hm : (b, Obj.cells #[x, y] e (0, 0)) ∈ bs) : W.cell? ⟨b, 0, none⟩ = some x ∧ W.cell? ⟨b, 1, none⟩ = some y := ⟨(blk_cell (h.held _ hm) 0).trans rfl, (blk_cell (h.held _ hm) 1).trans rfl⟩
theorem append_str_block {P : Program} {w : World} (base : Nat) (t u ty e : TypeId) (i : TypeInfo) (ht : P.underlying t = some (.slice e)) (hu : P.underlying u = some .string) (hi : P.info? e = some i) (hz : i.zero = some (.int .u8 0))
    (hsize : i.size = 1) (hby : i.bytes = 1) (v : Value) (n : Nat) (xs : List Value) (hown : w.ownsRow base e 1 v n xs) (s : ByteArray) (h63 : n + s.size ≤ maxLen) (hbytes : n + s.size ≤ 140737488355328) (v' : Value) (w' : World)
    (hr0 : (Builtin.append_ #[t, u] ty #[v, .string s]).run P w = .ok v' w') : v'.ownBlock = v.ownBlock ∨ v'.ownBlock = some w.heap.size := by
  have hsmall : n + s.size ≤ 9223372036854775807 := by simp only [maxLen] at h63; omega
  have hxl : xs.length = n := by simpa using hown.1
  rcases hown.2 with ⟨rfl, rfl⟩ | ⟨g, cap, cur, rfl, hbg, hg, hnc, hcm, hcs, htake⟩
  · by_cases hm : s.size = 0
    · have hn : Lib.strCells s = [] := List.eq_nil_of_length_eq_zero (by rw [Lib.strCells_length]; exact hm)
      have hf := Lib.run_firstCells_string (P := P) w 1 s
      rw [hm] at hf
      have hr : (Builtin.append_ #[t, u] ty #[.slice none 0 0, .string s]).run P w = .ok (.slice none 0 0) w := by
        simp [Builtin.append_, run_underlying ht, run_underlying hu, sizeOf, typeInfo, hi, hsize, Builtin.lenOf, hm, hf]
      rw [hr] at hr0
      injection hr0 with h1 h2
      subst h1
      exact .inl rfl
    · have hr := run_append_nil_string (P := P) w t u ty e i (.int .u8 0) ht hu hi hz s (by omega) (by omega) (by rw [hby]; omega)
      rw [hr] at hr0
      injection hr0 with h1 h2
      subst h1
      exact .inr rfl
  · by_cases hroom : n + s.size ≤ cap
    · have hcs' : cur.size = cap := by simpa using hcs
      have hr := Lib.run_append_room_string (P := P) w t u ty e i ht hu hi hsize g n cap cur hg s hroom (by omega)
      rw [hr] at hr0
      injection hr0 with h1 h2
      subst h1
      exact .inl rfl
    · have holds : ∀ j u, xs[j]? = some u → w.cell? ((⟨g, 0, none⟩ : Addr).add j) = some u := hown.cells (g := g) rfl
      have hr := Lib.run_append_grow_string (P := P) w t u ty e i (.int .u8 0) ht hu hi hz ⟨g, 0, none⟩ n cap xs (by rw [hsize]; simpa using hxl) holds s (by omega) (by omega) (by rw [hby]; exact growslice_fits (by omega) (by omega))
      rw [hr] at hr0
      injection hr0 with h1 h2
      subst h1
      exact .inr rfl
theorem ok_block {w0 W : World} {v v' : Value} {xs : List Int} {bs : List (Nat × Obj)} (hS : St w0 W v xs bs) (h : v'.ownBlock = v.ownBlock ∨ v'.ownBlock = some W.heap.size) (k : Nat) (hk : v'.ownBlock = some k) (p : Nat × Obj) (hp : p ∈ bs) : k ≠ p.1 := by
  rcases h with h | h
  · exact hS.row.1 k (h ▸ hk) p hp
  · rw [h] at hk
    obtain rfl := Option.some.inj hk
    exact Nat.ne_of_gt (lt_of_some (hS.held p hp))
section
variable {P : Program} {ops : Array Oper} {o : Oper} {a : Act} {K : Act → World → Prop} {Q : Exit → Act → World → Prop} {E : Prop}
theorem str_step {w0 W : World} {v : Value} {xs : List Int} {bs : List (Nat × Obj)} (hw : Region.wanted o (yielded ops a.tmps) = true) (s x : Operand) (t u : TypeId)
    (ho : o.op = .call { callee := .builtin .append, args := #[s, x], argTypes := #[t, u] })
    (ht : P.underlying t = some (.slice 5)) (hu : P.underlying u = some .string) (hinfo : (P.info? 5).map (fun i => (i.zero, i.size, i.bytes)) = some (some (.int .u8 0), 1, 1))
    (y : ByteArray) (hs : a.eval s = v) (hx : a.eval x = .string y) (hS : St w0 W v xs bs) (hl : xs.length + y.size ≤ 140737488355328)
    (h : ∀ v1 w1, St w0 w1 v1 (xs ++ bytesOf y) bs → K (a.put o.dst v1) w1) :
    if Region.wanted o (yielded ops a.tmps) = true then Oper.wp P o a W K Q else E := by
  obtain ⟨i0, hi, hzz⟩ := Option.map_eq_some_iff.1 hinfo
  simp only [Prod.mk.injEq] at hzz
  obtain ⟨hz0, hz1, hz2⟩ := hzz
  have hown := Kd.own_of_R hS.row
  obtain ⟨v', w', hr, h2, h3, h4⟩ := Lib.run_append_own_string (P := P) W w0.heap.size t u o.type 5 i0 ht hu hi hz0 hz1 hz2 v xs.length _ hown y (by simp only [maxLen]; omega) hl hS.below.size
  rw [if_pos hw]
  unfold Oper.wp execOp
  simp only [ho, resolve, invoke, builtin, Sem.run_bind, Sem.run_pure, Result.andThen_ok, List.map_toArray, List.map_cons, List.map_nil, hs, hx, hr]
  refine h _ _ ⟨Kd.R_of_own (xs := xs ++ bytesOf y) ?_ (fun k hk p hp => ?_), ?_, fun p hp => ?_⟩
  · have hl2 : (xs ++ bytesOf y).length = xs.length + y.size := by rw [List.length_append, bytesOf_length]
    rw [hl2, encs, List.map_append]
    have : Lib.strCells y = (bytesOf y).map (Value.int .u8) := by simp [bytesOf, Lib.strCells]
    rw [← this]
    exact h2
  · exact ok_block hS (append_str_block w0.heap.size t u o.type 5 i0 ht hu hi hz0 hz1 hz2 v xs.length _ hown y (by simp only [maxLen]; omega) hl v' w' hr) k hk p hp
  · exact hS.below.grown h3 hS.below.size (own_base hown)
  · rw [h3.block _ (lt_of_some (hS.held p hp)) (fun he => hS.row.1 _ he.symm p hp rfl)]
    exact hS.held p hp
theorem byte_step {w0 W : World} {v : Value} {xs : List Int} {bs : List (Nat × Obj)} (hw : Region.wanted o (yielded ops a.tmps) = true) (s x : Operand) (t : TypeId)
    (ho : o.op = .call { callee := .builtin .append, args := #[s, x], argTypes := #[t, t] })
    (ht : P.underlying t = some (.slice 5)) (hinfo : (P.info? 5).map (fun i => (i.zero, i.size, i.bytes)) = some (some (.int .u8 0), 1, 1))
    (b : Nat) (c : Int) (hs : a.eval s = v) (hx : a.eval x = .slice (some ⟨b, 0, none⟩) 1 1) (hS : St w0 W v xs bs) (hm : (b, Obj.cells #[.int .u8 c] 5 (0, 0)) ∈ bs) (hl : xs.length + 1 ≤ 140737488355328)
    (h : ∀ v1 w1, St w0 w1 v1 (xs ++ [c]) bs → K (a.put o.dst v1) w1) :
    if Region.wanted o (yielded ops a.tmps) = true then Oper.wp P o a W K Q else E := by
  obtain ⟨i0, hi, hzz⟩ := Option.map_eq_some_iff.1 hinfo
  simp only [Prod.mk.injEq] at hzz
  obtain ⟨hz0, hz1, hz2⟩ := hzz
  have hown := Kd.own_of_R hS.row
  have hc := held_mem hS b _ _ hm
  obtain ⟨v', w', hr, h2, h3, _, hat⟩ := run_append_own_at (P := P) W w0.heap.size t o.type 5 i0 (.int .u8 0) 1 1 ht hi hz0 hz1 hz2 rfl (by decide) v xs.length _ hown ⟨b, 0, none⟩ 1 1 [.int .u8 c] rfl (fun j u hj => by
    obtain ⟨hl, hu⟩ := List.getElem?_eq_some_iff.1 hj
    obtain rfl : j = 0 := by simpa using hl
    obtain rfl : Value.int .u8 c = u := hu
    exact hc) (by simp [Value.oneCell']) (by simp only [maxLen]; omega) (by omega) hS.below.size
  rw [if_pos hw]
  unfold Oper.wp execOp
  simp only [ho, resolve, invoke, builtin, Sem.run_bind, Sem.run_pure, Result.andThen_ok, List.map_toArray, List.map_cons, List.map_nil, hs, hx, hr]
  refine h _ _ ⟨Kd.R_of_own (xs := xs ++ [c]) ?_ (fun k hk p hp => ?_), ?_, fun p hp => ?_⟩
  · rw [List.length_append, encs, List.map_append]
    exact h2
  · exact ok_block hS hat k hk p hp
  · exact hS.below.grown h3 hS.below.size (own_base hown)
  · rw [h3.block _ (lt_of_some (hS.held p hp)) (fun he => hS.row.1 _ he.symm p hp rfl)]
    exact hS.held p hp
end
end Go.Proofs.YtefhngadeimklaaDoor.Q
end
section
namespace Go.Proofs.YtefhngadeimklaaDoor.Q
open Go.RowKit Go.Proofs.YtefhngadeimklaaDoorW.PrintWords Go.Proofs.YtefhngadeimklaaDoorW.PrintLast Go.Proofs.YtefhngadeimklaaDoorW.PrintMore
attribute [local go_sem] max2_int min2_int max_two min_two max_three min_three max_four min_four
set_option linter.unusedVariables false
set_option linter.unusedSimpArgs false
def encX (x : S40) : List Int := bytesOf x.f0 ++ [61] ++ bytesOf x.f1 ++ [0]
def encF (l : List S40) : List Int := (l.map encX).flatten
def vars_Encode.f (k : Nat) (l0 : List S40) : Option (List Int × Int) := (vars_Right.f k l0).bind fun t => if t = true then (if (encF l0).length ≤ 1000000 then (if 248 < (encF l0).length then some (([] : List Int), 10) else some (encF l0, 0)) else none) else some (([] : List Int), 1)
theorem vars_Encode.mono : ∀ l0 k, LeO (vars_Encode.f k l0) (vars_Encode.f (k + 1) l0) := by
  intro l0 k
  unfold vars_Encode.f
  repeat' first
      | (with_reducible exact vars_Right.mono _ _)
      | (with_reducible exact LeO.refl _)
      | (with_reducible refine LeO.ite ?_ ?_)
      | (with_reducible refine LeO.bind ?_ (fun _ => ?_))
theorem encF_take (l : List S40) (i : Nat) (h : i < l.length) : encF (l.take (i + 1)) = encF (l.take i) ++ encX (rd_T40 l i) := by
  rw [encF, encF, List.take_succ_eq_append_getElem h, List.map_append, List.flatten_append]
  simp [rd_T40, List.getD_eq_getElem?_getD, List.getElem?_eq_getElem h]
theorem encF_take_le (l : List S40) (i : Nat) : (encF (l.take i)).length ≤ (encF l).length := by
  rw [show encF l = encF (l.take i) ++ encF (l.drop i) from by rw [encF, encF, encF, ← List.flatten_append, ← List.map_append, List.take_append_drop], List.length_append]
  omega
theorem encX_length (x : S40) : (encX x).length = x.f0.size + x.f1.size + 2 := by
  unfold encX
  simp only [List.length_append, bytesOf_length, List.length_singleton]
  omega
theorem St_alloc2 {w0 W : World} {v : Value} {xs : List Int} {bs : List (Nat × Obj)} (h : St w0 W v xs bs) (o o2 : Obj) : St w0 ((W.alloc o).alloc o2) v xs ((W.heap.size + 1, o2) :: (W.heap.size, o) :: bs) := by
  have h2 := St_alloc (St_alloc h o) o2
  rw [show (W.alloc o).heap.size = W.heap.size + 1 from by unfold World.alloc; simp] at h2
  exact h2
set_option maxHeartbeats 16000000 in
set_option maxRecDepth 100000 in
theorem vars_Encode.calls (k : Nat) (A0 : Option Addr) (c0 : Nat) (l0 : List S40) (r1 : List Int) (r2 : Int) (w : World) (ht : Tabs w) (hr0 : Kd.C k40 w A0 l0.length l0) (hc0 : l0.length ≤ c0) (h : vars_Encode.f k l0 = some (r1, r2)) :
    Calls Tryd.prog 26 #[.slice A0 l0.length c0] w fun e w' => ∃ v0_ : Value, e = .returned (.tuple #[v0_, .int .i64 r2]) ∧ Kd.R (Kd.int .u8) 5 w' w.heap.size (fun _ => True) v0_ r1 ∧ Below w.heap.size w w' := by
  have hu40 := Tryd.underlying40
  unfold vars_Encode.f at h
  obtain ⟨t, A1, H⟩ := Option.bind_eq_some_iff.mp h
  clear h
  have HRI := Aside0.mk (vars_Right.calls k A0 c0 l0 t w ht hr0 hc0 A1)
  have HC := Aside0.mk hr0
  cases t with
  | false =>
    rw [if_neg (by decide)] at H
    simp only [Option.some.injEq, Prod.mk.injEq] at H
    obtain ⟨rfl, rfl⟩ := H
    clear hr0 hc0 ht A1
    go_enter Tryd.func26, Tryd.ntmps26
    go_wp2_with (first
      | (go_at_call 16; refine HRI.out.mono ?_; rintro e w1 ⟨rfl, hb⟩; have HB := Aside0.mk hb; clear hb))
    go_ret2
    exact ⟨_, rfl, Kd.R_nil _ _ _ _ _, HB.out⟩
  | true =>
    rw [if_pos rfl] at H
    by_cases hl : (encF l0).length ≤ 1000000
    · rw [if_pos hl] at H
      have HL := Aside0.mk hl
      have HM := Aside0.mk (Kd.C_max hr0)
      have HH := Aside0.mk H
      clear hr0 hc0 ht A1 hl H
      go_enter Tryd.func26, Tryd.ntmps26
      go_wp2_with (first
        | (go_at_call 16; refine HRI.out.mono ?_; rintro e w1 ⟨rfl, hb⟩; have HB := Aside0.mk hb; clear hb))
      clear HRI
      go_loopg [4, 12] l0.length (fun kq v4 v12 w' => ∃ i : Int, v12 = .int .i64 i ∧ Aside0 (0 ≤ i ∧ i + kq = l0.length) ∧ Aside0 (Kd.R (Kd.int .u8) 5 w' w.heap.size (fun _ => True) v4 (encF (l0.take i.toNat))) ∧ Aside0 (Below w.heap.size w w'))
      case atStart => exact ⟨0, rfl, ⟨by omega, by omega⟩, ⟨Kd.R_nil _ _ _ _ _⟩, HB⟩
      case round =>
        clear HB
        obtain ⟨i, rfl, HI, HR, HB⟩ := hrel
        cases gk with
        | zero =>
          have hlt : decide (i < (l0.length : Int)) = false := decide_eq_false (by have := HI.out; omega)
          have hr := HR.out
          rw [List.take_of_length_le (by have := HI.out; omega)] at hr
          obtain ⟨A, c, rfl, hcl, hC⟩ := Kd.R_reads hr
          have HRR := Aside0.mk hr
          clear hr hC hcl HR
          have hh := HH.out
          by_cases h248 : 248 < (encF l0).length
          · rw [if_pos h248] at hh
            simp only [Option.some.injEq, Prod.mk.injEq] at hh
            obtain ⟨rfl, rfl⟩ := hh
            obtain ⟨m, hm⟩ : ∃ m, m = (encF l0).length := ⟨_, rfl⟩
            rw [← hm] at h248
            have d1 : decide ((m : Int) > 248) = true := decide_eq_true (by omega)
            have d2 : decide (248 < (m : Int)) = true := decide_eq_true (by omega)
            simp only [← hm]
            clear h248 HI HL HM hm
            go_wp2
            go_ret2
            exact ⟨_, rfl, Kd.R_nil _ _ _ _ _, HB.out⟩
          · rw [if_neg h248] at hh
            simp only [Option.some.injEq, Prod.mk.injEq] at hh
            obtain ⟨rfl, rfl⟩ := hh
            obtain ⟨m, hm⟩ : ∃ m, m = (encF l0).length := ⟨_, rfl⟩
            rw [← hm] at h248
            have d1 : decide ((m : Int) > 248) = false := decide_eq_false (by omega)
            have d2 : decide (248 < (m : Int)) = false := decide_eq_false (by omega)
            have HRR := Aside0.mk (show Kd.R (Kd.int .u8) 5 _ w.heap.size (fun _ => True) (.slice A m c) (encF l0) from by rw [hm]; exact HRR.out)
            simp only [← hm]
            clear h248 HI HL HM hm
            go_wp2
            go_ret2
            exact ⟨_, rfl, HRR.out, HB.out⟩
        | succ k1 =>
          have hi := HI.out
          have hm := HM.out
          have hlt : decide (i < (l0.length : Int)) = true := decide_eq_true (by omega)
          have p1 : (0 ≤ i) = True := eq_true (by omega)
          have p2 : (i < (l0.length : Int)) = True := eq_true (by omega)
          obtain ⟨ad, eA, hx0, hx1⟩ := at_T40 (Kd.C_below HC.out HB.out) i (by omega) (by omega)
          cases eA
          have hwr : IntKind.i64.wrap (i + 1) = i + 1 := (i64_w _).trans (by unfold wrap64; omega)
          have hwr2 : wrap64 (i + 1) = i + 1 := by unfold wrap64; omega
          have htk := encF_take l0 i.toNat (by omega)
          rw [show ((i.toNat : Nat) : Int) = i by omega] at htk
          have hle := encF_take_le l0 (i.toNat + 1)
          rw [htk, List.length_append, encX_length] at hle
          obtain ⟨x, hx⟩ : ∃ x, x = rd_T40 l0 i := ⟨_, rfl⟩
          rw [← hx] at hx0 hx1 htk hle
          obtain ⟨xs, hxs⟩ : ∃ xs, xs = encF (l0.take i.toNat) := ⟨_, rfl⟩
          rw [← hxs] at htk hle HR
          have HLE := Aside0.mk (Nat.le_trans hle HL.out)
          have HTK := Aside0.mk htk
          clear hi hm htk hle hx hxs
          go_wp2
          have HST := Aside0.mk (St_drew (St_alloc (St_start HR.out HB.out) (.cells #[.string x.f0, .string x.f1] 40)))
          revert HST
          generalize wr.alloc (.cells #[.string x.f0, .string x.f1] 40) = W0
          intro HST
          clear HB HR hx0 hx1
          go_region_held3 (fun w' => w'.cell? ⟨wr.heap.size, 0, none⟩ = some (.string x.f0) ∧ w'.cell? ⟨wr.heap.size, 1, none⟩ = some (.string x.f1)) (first | exact held_two HST.out _ _ _ _ (by repeat (first | exact List.mem_cons_self | refine List.mem_cons_of_mem _ ?_)) | exact held_two (St_alloc HST.out _) _ _ _ _ (by repeat (first | exact List.mem_cons_self | refine List.mem_cons_of_mem _ ?_)) | exact held_two (St_alloc2 HST.out _ _) _ _ _ _ (by repeat (first | exact List.mem_cons_self | refine List.mem_cons_of_mem _ ?_))) (first
            | (refine str_step (bs := _) (by rfl) (.tmp 16) (.tmp 18) 42 9 rfl Tryd.underlying42 Tryd.underlying9 info5 x.f0 rfl rfl HST.out (by have := HLE.out; (try simp only [List.length_append, bytesOf_length, List.length_singleton]); omega) ?_; intro v1 w1 hst; have HST := Aside0.mk hst; clear hst)
            | (refine byte_step (bs := _) (by rfl) (.tmp 19) (.tmp 20) 42 rfl Tryd.underlying42 info5 _ 61 rfl rfl HST.out (by repeat (first | exact List.mem_cons_self | refine List.mem_cons_of_mem _ ?_)) (by have := HLE.out; (try simp only [List.length_append, bytesOf_length, List.length_singleton]); omega) ?_; intro v1 w1 hst; have HST := Aside0.mk hst; clear hst)
            | (refine str_step (bs := _) (by rfl) (.tmp 21) (.tmp 23) 42 9 rfl Tryd.underlying42 Tryd.underlying9 info5 x.f1 rfl rfl HST.out (by have := HLE.out; (try simp only [List.length_append, bytesOf_length, List.length_singleton]); omega) ?_; intro v1 w1 hst; have HST := Aside0.mk hst; clear hst)
            | (refine byte_step (bs := _) (by rfl) (.tmp 24) (.tmp 25) 42 rfl Tryd.underlying42 info5 _ 0 rfl rfl HST.out (by repeat (first | exact List.mem_cons_self | refine List.mem_cons_of_mem _ ?_)) (by have := HLE.out; (try simp only [List.length_append, bytesOf_length, List.length_singleton]); omega) ?_; intro v1 w1 hst; have HST := Aside0.mk hst; clear hst)
            | (refine str_step (bs := _) (by rfl) (.tmp 16) (.tmp 18) 42 9 rfl Tryd.underlying42 Tryd.underlying9 info5 x.f0 rfl rfl (St_alloc HST.out _) (by have := HLE.out; (try simp only [List.length_append, bytesOf_length, List.length_singleton]); omega) ?_; intro v1 w1 hst; have HST := Aside0.mk hst; clear hst)
            | (refine byte_step (bs := _) (by rfl) (.tmp 19) (.tmp 20) 42 rfl Tryd.underlying42 info5 _ 61 rfl rfl (St_alloc HST.out _) (by repeat (first | exact List.mem_cons_self | refine List.mem_cons_of_mem _ ?_)) (by have := HLE.out; (try simp only [List.length_append, bytesOf_length, List.length_singleton]); omega) ?_; intro v1 w1 hst; have HST := Aside0.mk hst; clear hst)
            | (refine str_step (bs := _) (by rfl) (.tmp 21) (.tmp 23) 42 9 rfl Tryd.underlying42 Tryd.underlying9 info5 x.f1 rfl rfl (St_alloc HST.out _) (by have := HLE.out; (try simp only [List.length_append, bytesOf_length, List.length_singleton]); omega) ?_; intro v1 w1 hst; have HST := Aside0.mk hst; clear hst)
            | (refine byte_step (bs := _) (by rfl) (.tmp 24) (.tmp 25) 42 rfl Tryd.underlying42 info5 _ 0 rfl rfl (St_alloc HST.out _) (by repeat (first | exact List.mem_cons_self | refine List.mem_cons_of_mem _ ?_)) (by have := HLE.out; (try simp only [List.length_append, bytesOf_length, List.length_singleton]); omega) ?_; intro v1 w1 hst; have HST := Aside0.mk hst; clear hst)
            | (refine str_step (bs := _) (by rfl) (.tmp 16) (.tmp 18) 42 9 rfl Tryd.underlying42 Tryd.underlying9 info5 x.f0 rfl rfl (St_alloc2 HST.out _ _) (by have := HLE.out; (try simp only [List.length_append, bytesOf_length, List.length_singleton]); omega) ?_; intro v1 w1 hst; have HST := Aside0.mk hst; clear hst)
            | (refine byte_step (bs := _) (by rfl) (.tmp 19) (.tmp 20) 42 rfl Tryd.underlying42 info5 _ 61 rfl rfl (St_alloc2 HST.out _ _) (by repeat (first | exact List.mem_cons_self | refine List.mem_cons_of_mem _ ?_)) (by have := HLE.out; (try simp only [List.length_append, bytesOf_length, List.length_singleton]); omega) ?_; intro v1 w1 hst; have HST := Aside0.mk hst; clear hst)
            | (refine str_step (bs := _) (by rfl) (.tmp 21) (.tmp 23) 42 9 rfl Tryd.underlying42 Tryd.underlying9 info5 x.f1 rfl rfl (St_alloc2 HST.out _ _) (by have := HLE.out; (try simp only [List.length_append, bytesOf_length, List.length_singleton]); omega) ?_; intro v1 w1 hst; have HST := Aside0.mk hst; clear hst)
            | (refine byte_step (bs := _) (by rfl) (.tmp 24) (.tmp 25) 42 rfl Tryd.underlying42 info5 _ 0 rfl rfl (St_alloc2 HST.out _ _) (by repeat (first | exact List.mem_cons_self | refine List.mem_cons_of_mem _ ?_)) (by have := HLE.out; (try simp only [List.length_append, bytesOf_length, List.length_singleton]); omega) ?_; intro v1 w1 hst; have HST := Aside0.mk hst; clear hst))
          all_goals (
            have HN := Aside0.mk (show Kd.R (Kd.int .u8) 5 _ w.heap.size (fun _ => True) _ (encF (l0.take (i + 1).toNat)) from by
              have hi := HI.out
              rw [show (i + 1).toNat = i.toNat + 1 by omega, HTK.out, encX, ← List.append_assoc, ← List.append_assoc, ← List.append_assoc]
              exact Kd.R_mono HST.out.row (fun _ _ => trivial))
            have HB := Aside0.mk HST.out.below
            go_wp2
            go_roundg k1
            case measure => omega
            case rel => exact ⟨i + 1, rfl, ⟨by have := HI.out; omega, by have := HI.out; omega⟩, HN, HB⟩)
    · rw [if_neg hl] at H
      cases H
end Go.Proofs.YtefhngadeimklaaDoor.Q
end
section
namespace Go.Proofs.YtefhngadeimklaaDoor.Q
open Go.RowKit Go.Proofs.YtefhngadeimklaaDoorW.PrintWords Go.Proofs.YtefhngadeimklaaDoorW.PrintLast Go.Proofs.YtefhngadeimklaaDoorW.PrintMore
set_option linter.unusedVariables false
set_option linter.unusedSimpArgs false

attribute [local go_sem] max2_int min2_int max_two min_two max_three min_three max_four min_four
/-! ### tinderref04_Same: function 30 -/
def tinderref04_Same.f (l0 : List Int) (l1 : List Int) : Option (Bool) := some ((strOfNums l0).toList == (strOfNums l1).toList)
set_option maxHeartbeats 8000000 in
set_option maxRecDepth 100000 in
theorem tinderref04_Same.calls (A0 : Option Addr) (c0 : Nat) (l0 : List Int) (A1 : Option Addr) (c1 : Nat) (l1 : List Int) (r : Bool) (w : World) (hr0 : Kd.C (Kd.int .u8) w A0 l0.length l0) (hc0 : l0.length ≤ c0) (hr1 : Kd.C (Kd.int .u8) w A1 l1.length l1) (hc1 : l1.length ≤ c1) (h : tinderref04_Same.f l0 l1 = some r) :
    Calls Tryd.prog 30 #[.slice A0 l0.length c0, .slice A1 l1.length c1] w fun e w' => e = .returned (.bool r) ∧ Drawn0 w w' := by
  have HR0 := Aside0.mk hr0
  have HC0 := Aside0.mk hc0
  clear hr0 hc0
  have HR1 := Aside0.mk hr1
  have HC1 := Aside0.mk hc1
  clear hr1 hc1
  have H : (some ((strOfNums l0).toList == (strOfNums l1).toList)) = some r := h
  clear h
  obtain rfl := Option.some.inj H
  have hcv3 := Kd.C_string (P := Tryd.prog) (A := A0) (c := c0) Tryd.underlying42 Tryd.underlying5 Tryd.underlying9 HR0.out
  have hcv4 := Kd.C_string (P := Tryd.prog) (A := A1) (c := c1) Tryd.underlying42 Tryd.underlying5 Tryd.underlying9 HR1.out
  go_enter Tryd.func30, Tryd.ntmps30
  go_wp2
  go_ret
  exact ⟨by first | rfl | (simp; done) | (simp [*]; done), by repeat (first | exact Drawn0.refl _ | apply Drawn0.step)⟩

end Go.Proofs.YtefhngadeimklaaDoor.Q
end
section
namespace Go.Proofs.YtefhngadeimklaaDoor.Q
open Go.RowKit Go.Proofs.YtefhngadeimklaaDoorW.PrintWords Go.Proofs.YtefhngadeimklaaDoorW.PrintLast Go.Proofs.YtefhngadeimklaaDoorW.PrintMore
set_option linter.unusedVariables false
set_option linter.unusedSimpArgs false

attribute [local go_sem] max2_int min2_int max_two min_two max_three min_three max_four min_four
/-! ### tinderref19_bytes: function 51 -/
def tinderref19_bytes.l0 : Nat → List (S40) → List Int → Int → Option (List Int)
  | 0, _, _, _ => none
  | k + 1, x0, x3, x4 => if x4 < (x0.length : Int) then (if 0 ≤ x4 then (if x3.length + ((rd_T40 x0 x4).f0).size < 140737488355328 then ((some (x3 ++ bytesOf ((rd_T40 x0 x4).f0) : List Int)).bind fun y52002 => (if y52002.length < 140737488355328 then ((some (y52002 ++ [61] : List Int)).bind fun y52005 => (if y52005.length + ((rd_T40 x0 x4).f1).size < 140737488355328 then ((some (y52005 ++ bytesOf ((rd_T40 x0 x4).f1) : List Int)).bind fun y52009 => (if y52009.length < 140737488355328 then (tinderref19_bytes.l0 k x0 (y52009 ++ [0]) (wrap64 (x4 + 1))) else (none))) else (none))) else (none))) else (none)) else (none)) else (some x3)
def tinderref19_bytes.f (k : Nat) (l0 : List (S40)) : Option (List Int) := tinderref19_bytes.l0 k l0 ([] : List Int) 0
theorem tinderref19_bytes.mono_l : ∀ k, (∀ y0 y1 y2, LeO (tinderref19_bytes.l0 k y0 y1 y2) (tinderref19_bytes.l0 (k + 1) y0 y1 y2))
  | 0 => fun _ _ _ r h => by simp [tinderref19_bytes.l0] at h
  | k + 1 => by
    have ih0 := tinderref19_bytes.mono_l k
    · intro y0 y1 y2
      unfold tinderref19_bytes.l0
      repeat' first
      | (with_reducible exact ih0 _ _ _)
      | (with_reducible exact LeO.refl _)
      | (with_reducible exact LeO.none _)
      | (with_reducible refine LeO.ite ?_ ?_)
      | (with_reducible refine LeO.bind ?_ (fun _ => ?_))
      | exact ih0 _ _ _
      | exact LeO.none _
      | refine LeO.ite ?_ ?_
      | refine LeO.bind ?_ (fun _ => ?_)
theorem tinderref19_bytes.mono : ∀ a0 k, LeO (tinderref19_bytes.f k a0) (tinderref19_bytes.f (k + 1) a0) := by
  intro a0 k
  have ih0 := tinderref19_bytes.mono_l k
  unfold tinderref19_bytes.f
  repeat' first
      | (with_reducible exact ih0 _ _ _)
      | (with_reducible exact LeO.refl _)
      | (with_reducible exact LeO.none _)
      | (with_reducible refine LeO.ite ?_ ?_)
      | (with_reducible refine LeO.bind ?_ (fun _ => ?_))
      | exact ih0 _ _ _
      | exact LeO.none _
      | refine LeO.ite ?_ ?_
      | refine LeO.bind ?_ (fun _ => ?_)
set_option maxHeartbeats 8000000 in
set_option maxRecDepth 100000 in
theorem tinderref19_bytes.calls (k : Nat) (A0 : Option Addr) (c0 : Nat) (l0 : List (S40)) (r : List Int) (w : World) (hr0 : Kd.C k40 w A0 l0.length l0) (hc0 : l0.length ≤ c0) (h : tinderref19_bytes.f k l0 = some r) :
    Calls Tryd.prog 51 #[.slice A0 l0.length c0] w fun e w' => ∃ v0_ : Value, e = .returned (v0_) ∧ Kd.R (Kd.int .u8) 5 w' w.heap.size (fun _ => True) v0_ r ∧ Below w.heap.size w w' := by
  have HR0 := Aside0.mk hr0
  have HC0 := Aside0.mk hc0
  clear hr0 hc0
  have HB := Aside0.mk (Below.refl w.heap.size w)
  have H : (tinderref19_bytes.l0 k l0 ([] : List Int) 0) = some r := h
  clear h
  have H' := Aside0.mk H
  clear H
  go_enter Tryd.func51, Tryd.ntmps51
  go_wp2
  go_loopg [3, 4] k (fun kq v3 v4 w' => ∃ (x3_1 : List Int) (x4_1 : Int), v4 = .int .i64 x4_1 ∧ Aside0 (tinderref19_bytes.l0 kq l0 x3_1 x4_1 = some r) ∧ Aside0 (kq ≤ k) ∧ Aside0 (Kd.R (Kd.int .u8) 5 w' w.heap.size (fun _ => True) v3 x3_1) ∧ Aside0 (Below w.heap.size w w'))
  case atStart => exact ⟨(([] : List Int)), (0), (by first | rfl | (simp; done) | (simp [*]; done)), H', ⟨Nat.le_refl _⟩, ⟨by first | exact Kd.R_nil _ _ _ _ _ | exact Kd.N_nil _ _ _ _ _ | exact Kd.V_nil _ _ _ _ _ | exact Kd.Q_nil _ _ _ _ _ | exact Kd.S_nil _ _ _ _ _⟩, ⟨by repeat (first | (with_reducible first | exact HB.out | apply below_alloc | apply pw_below_drewN | apply below_drew1) | exact HB.out)⟩⟩
  case round =>
    clear H'
    obtain ⟨x3_1, x4_1, rfl, HA, HK1, HO_3, HB⟩ := hrel
    cases gk with
    | zero => exact absurd HA.out (by simp [tinderref19_bytes.l0])
    | succ k1 =>
      have H := HA.out
      clear HA
      simp only [tinderref19_bytes.l0] at H
      by_cases c2 : x4_1 < (l0.length : Int)
      · rw [if_pos c2] at H
        have c2b0 : decide (x4_1 < (l0.length : Int)) = true := decide_eq_true c2
        clear c2
        by_cases c3 : 0 ≤ x4_1
        · rw [if_pos c3] at H
          have c3b0 : decide (0 ≤ x4_1) = true := decide_eq_true c3
          clear c3
          by_cases c4 : x3_1.length + ((rd_T40 l0 x4_1).f0).size < 140737488355328
          · rw [if_pos c4] at H
            have LMc4 := Aside0.mk c4
            clear c4
            obtain ⟨y52002, hy52002⟩ : ∃ y_ : List Int, y_ = (x3_1 ++ bytesOf ((rd_T40 l0 x4_1).f0)) := ⟨_, rfl⟩
            replace H : (if y52002.length < 140737488355328 then ((some (y52002 ++ [61] : List Int)).bind fun y52005 => (if y52005.length + ((rd_T40 l0 x4_1).f1).size < 140737488355328 then ((some (y52005 ++ bytesOf ((rd_T40 l0 x4_1).f1) : List Int)).bind fun y52009 => (if y52009.length < 140737488355328 then (tinderref19_bytes.l0 k1 l0 (y52009 ++ [0]) (wrap64 (x4_1 + 1))) else (none))) else (none))) else (none)) = some r := by first | (rw [hy52002]; with_reducible exact H) | (have H2_ := (Option.bind_some _ _).symm.trans H; rw [hy52002]; with_reducible exact H2_) | (have H2_ := (Option.bind_some _ _).symm.trans H; with_reducible exact H2_) | with_reducible exact H | (rw [hy52002]; exact H) | exact H
            have Ny52002 := Aside0.mk hy52002
            clear hy52002
            by_cases c5 : y52002.length < 140737488355328
            · rw [if_pos c5] at H
              have LMc5 := Aside0.mk c5
              clear c5
              obtain ⟨y52005, hy52005⟩ : ∃ y_ : List Int, y_ = (y52002 ++ [61]) := ⟨_, rfl⟩
              replace H : (if y52005.length + ((rd_T40 l0 x4_1).f1).size < 140737488355328 then ((some (y52005 ++ bytesOf ((rd_T40 l0 x4_1).f1) : List Int)).bind fun y52009 => (if y52009.length < 140737488355328 then (tinderref19_bytes.l0 k1 l0 (y52009 ++ [0]) (wrap64 (x4_1 + 1))) else (none))) else (none)) = some r := by first | (rw [hy52005]; with_reducible exact H) | (have H2_ := (Option.bind_some _ _).symm.trans H; rw [hy52005]; with_reducible exact H2_) | (have H2_ := (Option.bind_some _ _).symm.trans H; with_reducible exact H2_) | with_reducible exact H | (rw [hy52005]; exact H) | exact H
              have Ny52005 := Aside0.mk hy52005
              clear hy52005
              by_cases c6 : y52005.length + ((rd_T40 l0 x4_1).f1).size < 140737488355328
              · rw [if_pos c6] at H
                have LMc6 := Aside0.mk c6
                clear c6
                obtain ⟨y52009, hy52009⟩ : ∃ y_ : List Int, y_ = (y52005 ++ bytesOf ((rd_T40 l0 x4_1).f1)) := ⟨_, rfl⟩
                replace H : (if y52009.length < 140737488355328 then (tinderref19_bytes.l0 k1 l0 (y52009 ++ [0]) (wrap64 (x4_1 + 1))) else (none)) = some r := by first | (rw [hy52009]; with_reducible exact H) | (have H2_ := (Option.bind_some _ _).symm.trans H; rw [hy52009]; with_reducible exact H2_) | (have H2_ := (Option.bind_some _ _).symm.trans H; with_reducible exact H2_) | with_reducible exact H | (rw [hy52009]; exact H) | exact H
                have Ny52009 := Aside0.mk hy52009
                clear hy52009
                by_cases c7 : y52009.length < 140737488355328
                · rw [if_pos c7] at H
                  have LMc7 := Aside0.mk c7
                  clear c7
                  obtain ⟨y52012, hy52012⟩ : ∃ y_ : List Int, y_ = (y52009 ++ [0]) := ⟨_, rfl⟩
                  replace H : (tinderref19_bytes.l0 k1 l0 y52012 (wrap64 (x4_1 + 1))) = some r := by first | (rw [hy52012]; with_reducible exact H) | (have H2_ := (Option.bind_some _ _).symm.trans H; rw [hy52012]; with_reducible exact H2_) | (have H2_ := (Option.bind_some _ _).symm.trans H; with_reducible exact H2_) | with_reducible exact H | (rw [hy52012]; exact H) | exact H
                  have Ny52012 := Aside0.mk hy52012
                  clear hy52012
                  have H' := Aside0.mk H
                  clear H
                  have p52001 : 0 ≤ (x4_1 : Int) := of_decide_eq_true (by first | (with_reducible assumption) | assumption)
                  have q52001 : x4_1 < (l0.length : Int) := of_decide_eq_true (by first | (with_reducible assumption) | assumption)
                  obtain ⟨ad52001, e52001, hx52001_0, hx52001_1⟩ := at_T40 HR0.out x4_1 p52001 q52001
                  cases e52001
                  replace hx52001_0 := (HB.out.cell (World.block_lt_of_cell? w _ hx52001_0)).trans hx52001_0
                  replace hx52001_1 := (HB.out.cell (World.block_lt_of_cell? w _ hx52001_1)).trans hx52001_1
                  replace p52001 := eq_true p52001
                  replace q52001 := eq_true q52001
                  go_wp2_with (first | (at_builtin; refine print_append_str (w0 := w) w.heap.size rfl (.tmp 11) _ 42 9 5 rfl Tryd.underlying42 Tryd.underlying9 info5 u3 x3_1 ((rd_T40 l0 x4_1).f0) rfl rfl ?aO ?aB ?aS ?aL ?_; (case aB => exact (by repeat (first | (with_reducible first | exact HB.out | apply below_alloc | apply pw_below_drewN | apply below_drew1) | exact HB.out))); (case aO => exact (Kd.own_of_R (by (with_reducible repeat (first | apply Kd.R_alloc | apply Kd.R_drewN | apply Kd.R_drew)); exact HO_3.out))); (case aS => exact (below_size (by repeat (first | (with_reducible first | exact HB.out | apply below_alloc | apply pw_below_drewN | apply below_drew1) | exact HB.out)))); (case aL => have := LMc4.out; omega); intro v52003 w8 ho0 hb hg; have ho := Kd.R_of_own (h1 := fun _ => rfl) (ok := fun _ => True) ho0 (fun _ _ => trivial); clear ho0; have hat := True.intro; rw [← Ny52002.out] at ho; change Kd.R (Kd.int .u8) 5 w8 w.heap.size (fun _ => True) v52003 y52002 at ho; have n0_ := Aside0.mk (hb); have n1_ := Aside0.mk (ho); clear HB; clear HO_3; have HB := n0_; have HO52004 := n1_; clear n0_ n1_; clear ho hb hg hat) | ((with_reducible refine gate_builtin (b := .append) (xs := #[.tmp 18, .tmp 19]) rfl ?_); at_builtin; refine Kd.R_append (Kd.int .u8) (w0 := w) w.heap.size rfl (.tmp 18) (.tmp 19) 42 5 (.int .u8 0) 1 rfl Tryd.underlying42 info5 rfl (by decide) (by omega) v52003 y52002 61 [.int .u8 61] (fun _ => True) (fun _ => False) rfl rfl ?aP (fun _ hk => hk.elim) ?aF ?aO ?aB ?aS ?aL ?_; (case aP => exact rfl); (case aB => exact (by repeat (first | (with_reducible first | exact HB.out | apply below_alloc | apply pw_below_drewN | apply below_drew1) | exact HB.out))); (case aF => exact (fun _ _ => trivial)); (case aO => exact (by (with_reducible repeat (first | apply Kd.R_alloc | apply Kd.R_drewN | apply Kd.R_drew)); exact HO52004.out)); (case aS => exact (below_size (by repeat (first | (with_reducible first | exact HB.out | apply below_alloc | apply pw_below_drewN | apply below_drew1) | exact HB.out)))); (case aL => have := LMc5.out; omega); intro v52006 w9 ho hb hg hat; rw [← Ny52005.out] at ho; have n0_ := Aside0.mk (hb); have n1_ := Aside0.mk (ho); clear HB; clear HO52004; have HB := n0_; have HO52007 := n1_; clear n0_ n1_; clear ho hb hg hat; have p52008 : 0 ≤ (x4_1 : Int) := of_decide_eq_true (by first | (with_reducible assumption) | assumption); have q52008 : x4_1 < (l0.length : Int) := of_decide_eq_true (by first | (with_reducible assumption) | assumption); obtain ⟨ad52008, e52008, hx52008_0, hx52008_1⟩ := at_T40 HR0.out x4_1 p52008 q52008; obtain rfl : ad52001 = ad52008 := (by injection e52008); replace hx52008_0 := (HB.out.cell (World.block_lt_of_cell? w _ hx52008_0)).trans hx52008_0; replace hx52008_1 := (HB.out.cell (World.block_lt_of_cell? w _ hx52008_1)).trans hx52008_1; replace p52008 := eq_true p52008; replace q52008 := eq_true q52008) | (at_builtin; refine print_append_str (w0 := w) w.heap.size rfl (.tmp 21) _ 42 9 5 rfl Tryd.underlying42 Tryd.underlying9 info5 v52006 y52005 ((rd_T40 l0 x4_1).f1) rfl rfl ?aO ?aB ?aS ?aL ?_; (case aB => exact (by repeat (first | (with_reducible first | exact HB.out | apply below_alloc | apply pw_below_drewN | apply below_drew1) | exact HB.out))); (case aO => exact (Kd.own_of_R (by (with_reducible repeat (first | apply Kd.R_alloc | apply Kd.R_drewN | apply Kd.R_drew)); exact HO52007.out))); (case aS => exact (below_size (by repeat (first | (with_reducible first | exact HB.out | apply below_alloc | apply pw_below_drewN | apply below_drew1) | exact HB.out)))); (case aL => have := LMc6.out; omega); intro v52010 w10 ho0 hb hg; have ho := Kd.R_of_own (h1 := fun _ => rfl) (ok := fun _ => True) ho0 (fun _ _ => trivial); clear ho0; have hat := True.intro; rw [← Ny52009.out] at ho; change Kd.R (Kd.int .u8) 5 w10 w.heap.size (fun _ => True) v52010 y52009 at ho; have n0_ := Aside0.mk (hb); have n1_ := Aside0.mk (ho); clear HB; clear HO52007; have HB := n0_; have HO52011 := n1_; clear n0_ n1_; clear ho hb hg hat) | ((with_reducible refine gate_builtin (b := .append) (xs := #[.tmp 28, .tmp 29]) rfl ?_); at_builtin; refine Kd.R_append (Kd.int .u8) (w0 := w) w.heap.size rfl (.tmp 28) (.tmp 29) 42 5 (.int .u8 0) 1 rfl Tryd.underlying42 info5 rfl (by decide) (by omega) v52010 y52009 0 [.int .u8 0] (fun _ => True) (fun _ => False) rfl rfl ?aP (fun _ hk => hk.elim) ?aF ?aO ?aB ?aS ?aL ?_; (case aP => exact rfl); (case aB => exact (by repeat (first | (with_reducible first | exact HB.out | apply below_alloc | apply pw_below_drewN | apply below_drew1) | exact HB.out))); (case aF => exact (fun _ _ => trivial)); (case aO => exact (by (with_reducible repeat (first | apply Kd.R_alloc | apply Kd.R_drewN | apply Kd.R_drew)); exact HO52011.out)); (case aS => exact (below_size (by repeat (first | (with_reducible first | exact HB.out | apply below_alloc | apply pw_below_drewN | apply below_drew1) | exact HB.out)))); (case aL => have := LMc7.out; omega); intro v52013 w11 ho hb hg hat; rw [← Ny52012.out] at ho; have n0_ := Aside0.mk (hb); have n1_ := Aside0.mk (ho); clear HB; clear HO52011; have HB := n0_; have HO52014 := n1_; clear n0_ n1_; clear ho hb hg hat))
                  go_roundg k1
                  case measure => have := HK1.out; omega
                  case rel => exact ⟨(y52012), (wrap64 (x4_1 + 1)), (by first | rfl | (simp; done) | (simp [*]; done)), H', ⟨by have := HK1.out; omega⟩, ⟨by (with_reducible repeat (first | apply Kd.R_alloc | apply Kd.R_drewN | apply Kd.R_drew)); exact HO52014.out⟩, ⟨by repeat (first | (with_reducible first | exact HB.out | apply below_alloc | apply pw_below_drewN | apply below_drew1) | exact HB.out)⟩⟩
                · rw [if_neg c7] at H
                  exact absurd H (by simp)
              · rw [if_neg c6] at H
                exact absurd H (by simp)
            · rw [if_neg c5] at H
              exact absurd H (by simp)
          · rw [if_neg c4] at H
            exact absurd H (by simp)
        · rw [if_neg c3] at H
          exact absurd H (by simp)
      · rw [if_neg c2] at H
        have c2b0 : decide (x4_1 < (l0.length : Int)) = false := decide_eq_false c2
        clear c2
        obtain rfl := Option.some.inj H
        go_wp2
        go_ret
        exact ⟨_, by first | rfl | (simp [errW_none, errW_some] <;> rfl) | (simp [*, errW_none, errW_some] <;> rfl), by (with_reducible repeat (first | apply Kd.R_alloc | apply Kd.R_drewN | apply Kd.R_drew)); exact HO_3.out, by repeat (first | (with_reducible first | exact HB.out | apply below_alloc | apply pw_below_drewN | apply below_drew1) | exact HB.out)⟩

end Go.Proofs.YtefhngadeimklaaDoor.Q
end
section
namespace Go.Proofs.YtefhngadeimklaaDoor.Q
open Go.RowKit Go.Proofs.YtefhngadeimklaaDoorW.PrintWords Go.Proofs.YtefhngadeimklaaDoorW.PrintLast Go.Proofs.YtefhngadeimklaaDoorW.PrintMore
set_option linter.unusedVariables false
set_option linter.unusedSimpArgs false

attribute [local go_sem] max2_int min2_int max_two min_two max_three min_three max_four min_four
/-! ### tinderref19_Encode: function 27 -/
def tinderref19_Encode.f (k : Nat) (l0 : List (S40)) : Option (List Int × Int) := (tinderref19_Right.f k l0).bind fun t28001 => (if t28001 = true then ((tinderref19_bytes.f k l0).bind fun t28002 => (if (t28002.length : Int) > 248 then (some (([] : List Int), 10)) else (some (t28002, 0)))) else (some (([] : List Int), 1)))
theorem tinderref19_Encode.mono : ∀ a0 k, LeO (tinderref19_Encode.f k a0) (tinderref19_Encode.f (k + 1) a0) := by
  intro a0 k
  unfold tinderref19_Encode.f
  repeat' first
      | (with_reducible exact tinderref19_Right.mono _ _)
      | (with_reducible exact tinderref19_bytes.mono _ _)
      | (with_reducible exact LeO.refl _)
      | (with_reducible exact LeO.none _)
      | (with_reducible refine LeO.ite ?_ ?_)
      | (with_reducible refine LeO.bind ?_ (fun _ => ?_))
      | exact tinderref19_Right.mono _ _
      | exact tinderref19_bytes.mono _ _
      | exact LeO.none _
      | refine LeO.ite ?_ ?_
      | refine LeO.bind ?_ (fun _ => ?_)
set_option maxHeartbeats 8000000 in
set_option maxRecDepth 100000 in
theorem tinderref19_Encode.calls (k : Nat) (A0 : Option Addr) (c0 : Nat) (l0 : List (S40)) (r1 : List Int) (r2 : Int) (w : World) (hr0 : Kd.C k40 w A0 l0.length l0) (hc0 : l0.length ≤ c0) (h : tinderref19_Encode.f k l0 = some (r1, r2)) :
    Calls Tryd.prog 27 #[.slice A0 l0.length c0] w fun e w' => ∃ v0_ : Value, e = .returned (.tuple #[v0_, .int .i64 r2]) ∧ Kd.R (Kd.int .u8) 5 w' w.heap.size (fun _ => True) v0_ r1 ∧ Below w.heap.size w w' := by
  have HR0 := Aside0.mk hr0
  have HC0 := Aside0.mk hc0
  clear hr0 hc0
  have HB := Aside0.mk (Below.refl w.heap.size w)
  have H : ((tinderref19_Right.f k l0).bind fun t28001 => (if t28001 = true then ((tinderref19_bytes.f k l0).bind fun t28002 => (if (t28002.length : Int) > 248 then (some (([] : List Int), 10)) else (some (t28002, 0)))) else (some (([] : List Int), 1)))) = some (r1, r2) := h
  clear h
  replace H := Option.bind_eq_some_iff.mp H
  obtain ⟨t28001, A20, H⟩ := H
  replace H : (if t28001 = true then ((tinderref19_bytes.f k l0).bind fun t28002 => (if (t28002.length : Int) > 248 then (some (([] : List Int), 10)) else (some (t28002, 0)))) else (some (([] : List Int), 1))) = some (r1, r2) := H
  have A2 := Aside0.mk A20
  clear A20
  by_cases c3 : t28001 = true
  · subst c3
    have H1 : ((tinderref19_bytes.f k l0).bind fun t28002 => (if (t28002.length : Int) > 248 then (some (([] : List Int), 10)) else (some (t28002, 0)))) = some (r1, r2) := by rw [if_pos rfl] at H; exact H
    clear H
    have H := H1
    clear H1
    replace H := Option.bind_eq_some_iff.mp H
    obtain ⟨t28002, A40, H⟩ := H
    replace H : (if (t28002.length : Int) > 248 then (some (([] : List Int), 10)) else (some (t28002, 0))) = some (r1, r2) := H
    have A4 := Aside0.mk A40
    clear A40
    by_cases c5 : (t28002.length : Int) > 248
    · rw [if_pos c5] at H
      have c5b0 : decide (248 < (t28002.length : Int)) = true := decide_eq_true c5
      have c5b1 : decide (248 < t28002.length) = true := decide_eq_true (by omega)
      clear c5
      simp only [Option.some.injEq, Prod.mk.injEq] at H
      obtain ⟨rfl, rfl⟩ := H
      go_enter Tryd.func27, Tryd.ntmps27
      go_wp2_with (first | ((with_reducible refine gate_callee (f := 25) rfl ?_); refine goesL_ (some 6) rfl rfl Tryd.func25 (by kernel_rfl) rfl #[.slice A0 l0.length c0] rfl (by (try simp only [List.map_toArray, List.map_cons, List.map_nil]); first | done | rfl | (simp only [List.length_drop, List.length_take]; rfl)) ?_; (with_reducible refine (tinderref19_Right.calls k _ _ l0 true _ ?side1 ?side2 A2.out).mono ?_); (case side1 => repeat (first | exact HR0.out | (with_reducible refine Kd.C_alloc ?_ _) | (with_reducible refine Kd.C_drewN ?_ _) | (with_reducible refine Kd.C_drew ?_))); (case side2 => exact HC0.out); rintro e w6 ⟨rfl, hb⟩; refine ⟨_, rfl, ?_⟩; have n0_ := Aside0.mk (below_step (by repeat (first | (with_reducible first | exact HB.out | apply below_alloc | apply pw_below_drewN | apply below_drew1) | exact HB.out)) hb); clear HB; have HB := n0_; clear n0_; (try clear hb); (try clear hb2); (try clear hk); (try clear hi)) | ((with_reducible refine gate_callee (f := 51) rfl ?_); refine goesL_ (some 9) rfl rfl Tryd.func51 (by kernel_rfl) rfl #[.slice A0 l0.length c0] rfl (by (try simp only [List.map_toArray, List.map_cons, List.map_nil]); first | done | rfl | (simp only [List.length_drop, List.length_take]; rfl)) ?_; (with_reducible refine (tinderref19_bytes.calls k _ _ l0 t28002 _ ?side1 ?side2 A4.out).mono ?_); (case side1 => repeat (first | exact (Kd.C_below HR0.out HB.out) | (with_reducible refine Kd.C_alloc ?_ _) | (with_reducible refine Kd.C_drewN ?_ _) | (with_reducible refine Kd.C_drew ?_))); (case side2 => exact HC0.out); rintro e w7 ⟨v28003, rfl, ho0, hb⟩; refine ⟨_, rfl, ?_⟩; have n0_ := Aside0.mk (Kd.R_lower ho0 (below_size (by repeat (first | (with_reducible first | exact HB.out | apply below_alloc | apply pw_below_drewN | apply below_drew1) | exact HB.out)))); have n1_ := Aside0.mk (below_step (by repeat (first | (with_reducible first | exact HB.out | apply below_alloc | apply pw_below_drewN | apply below_drew1) | exact HB.out)) hb); clear HB; have HO28004 := n0_; have HB := n1_; clear n0_ n1_; (try clear hb); (try clear hb2); (try clear hk); (try clear hi); (try clear ho0); obtain ⟨Ao8, co8, eo8⟩ := Kd.R_slice HO28004.out; subst eo8))
      go_ret2
      exact ⟨_, by first | rfl | (simp [errW_none, errW_some] <;> rfl) | (simp [*, errW_none, errW_some] <;> rfl), by first | exact Kd.R_nil _ _ _ _ _ | exact Kd.N_nil _ _ _ _ _ | exact Kd.V_nil _ _ _ _ _ | exact Kd.Q_nil _ _ _ _ _ | exact Kd.S_nil _ _ _ _ _, by repeat (first | (with_reducible first | exact HB.out | apply below_alloc | apply pw_below_drewN | apply below_drew1) | exact HB.out)⟩
    · rw [if_neg c5] at H
      have c5b0 : decide (248 < (t28002.length : Int)) = false := decide_eq_false c5
      have c5b1 : decide (248 < t28002.length) = false := decide_eq_false (by omega)
      clear c5
      simp only [Option.some.injEq, Prod.mk.injEq] at H
      obtain ⟨rfl, rfl⟩ := H
      go_enter Tryd.func27, Tryd.ntmps27
      go_wp2_with (first | ((with_reducible refine gate_callee (f := 25) rfl ?_); refine goesL_ (some 6) rfl rfl Tryd.func25 (by kernel_rfl) rfl #[.slice A0 l0.length c0] rfl (by (try simp only [List.map_toArray, List.map_cons, List.map_nil]); first | done | rfl | (simp only [List.length_drop, List.length_take]; rfl)) ?_; (with_reducible refine (tinderref19_Right.calls k _ _ l0 true _ ?side1 ?side2 A2.out).mono ?_); (case side1 => repeat (first | exact HR0.out | (with_reducible refine Kd.C_alloc ?_ _) | (with_reducible refine Kd.C_drewN ?_ _) | (with_reducible refine Kd.C_drew ?_))); (case side2 => exact HC0.out); rintro e w9 ⟨rfl, hb⟩; refine ⟨_, rfl, ?_⟩; have n0_ := Aside0.mk (below_step (by repeat (first | (with_reducible first | exact HB.out | apply below_alloc | apply pw_below_drewN | apply below_drew1) | exact HB.out)) hb); clear HB; have HB := n0_; clear n0_; (try clear hb); (try clear hb2); (try clear hk); (try clear hi)) | ((with_reducible refine gate_callee (f := 51) rfl ?_); refine goesL_ (some 9) rfl rfl Tryd.func51 (by kernel_rfl) rfl #[.slice A0 l0.length c0] rfl (by (try simp only [List.map_toArray, List.map_cons, List.map_nil]); first | done | rfl | (simp only [List.length_drop, List.length_take]; rfl)) ?_; (with_reducible refine (tinderref19_bytes.calls k _ _ l0 t28002 _ ?side1 ?side2 A4.out).mono ?_); (case side1 => repeat (first | exact (Kd.C_below HR0.out HB.out) | (with_reducible refine Kd.C_alloc ?_ _) | (with_reducible refine Kd.C_drewN ?_ _) | (with_reducible refine Kd.C_drew ?_))); (case side2 => exact HC0.out); rintro e w10 ⟨v28003, rfl, ho0, hb⟩; refine ⟨_, rfl, ?_⟩; have n0_ := Aside0.mk (Kd.R_lower ho0 (below_size (by repeat (first | (with_reducible first | exact HB.out | apply below_alloc | apply pw_below_drewN | apply below_drew1) | exact HB.out)))); have n1_ := Aside0.mk (below_step (by repeat (first | (with_reducible first | exact HB.out | apply below_alloc | apply pw_below_drewN | apply below_drew1) | exact HB.out)) hb); clear HB; have HO28004 := n0_; have HB := n1_; clear n0_ n1_; (try clear hb); (try clear hb2); (try clear hk); (try clear hi); (try clear ho0); obtain ⟨Ao11, co11, eo11⟩ := Kd.R_slice HO28004.out; subst eo11))
      go_ret2
      exact ⟨_, by first | rfl | (simp [errW_none, errW_some] <;> rfl) | (simp [*, errW_none, errW_some] <;> rfl), by (with_reducible repeat (first | apply Kd.R_alloc | apply Kd.R_drewN | apply Kd.R_drew)); exact HO28004.out, by repeat (first | (with_reducible first | exact HB.out | apply below_alloc | apply pw_below_drewN | apply below_drew1) | exact HB.out)⟩
  · replace c3 := Bool.eq_false_iff.mpr c3
    subst c3
    have H1 : (some (([] : List Int), 1)) = some (r1, r2) := by rw [if_neg (show ¬ (false = true) by decide)] at H; exact H
    clear H
    have H := H1
    clear H1
    simp only [Option.some.injEq, Prod.mk.injEq] at H
    obtain ⟨rfl, rfl⟩ := H
    go_enter Tryd.func27, Tryd.ntmps27
    go_wp2_with (first | ((with_reducible refine gate_callee (f := 25) rfl ?_); refine goesL_ (some 6) rfl rfl Tryd.func25 (by kernel_rfl) rfl #[.slice A0 l0.length c0] rfl (by (try simp only [List.map_toArray, List.map_cons, List.map_nil]); first | done | rfl | (simp only [List.length_drop, List.length_take]; rfl)) ?_; (with_reducible refine (tinderref19_Right.calls k _ _ l0 false _ ?side1 ?side2 A2.out).mono ?_); (case side1 => repeat (first | exact HR0.out | (with_reducible refine Kd.C_alloc ?_ _) | (with_reducible refine Kd.C_drewN ?_ _) | (with_reducible refine Kd.C_drew ?_))); (case side2 => exact HC0.out); rintro e w12 ⟨rfl, hb⟩; refine ⟨_, rfl, ?_⟩; have n0_ := Aside0.mk (below_step (by repeat (first | (with_reducible first | exact HB.out | apply below_alloc | apply pw_below_drewN | apply below_drew1) | exact HB.out)) hb); clear HB; have HB := n0_; clear n0_; (try clear hb); (try clear hb2); (try clear hk); (try clear hi)))
    go_ret2
    exact ⟨_, by first | rfl | (simp [errW_none, errW_some] <;> rfl) | (simp [*, errW_none, errW_some] <;> rfl), by first | exact Kd.R_nil _ _ _ _ _ | exact Kd.N_nil _ _ _ _ _ | exact Kd.V_nil _ _ _ _ _ | exact Kd.Q_nil _ _ _ _ _ | exact Kd.S_nil _ _ _ _ _, by repeat (first | (with_reducible first | exact HB.out | apply below_alloc | apply pw_below_drewN | apply below_drew1) | exact HB.out)⟩

end Go.Proofs.YtefhngadeimklaaDoor.Q
end
section
namespace Go.Proofs.YtefhngadeimklaaDoor.Q
open Go.RowKit Go.Proofs.YtefhngadeimklaaDoorW.PrintWords Go.Proofs.YtefhngadeimklaaDoorW.PrintLast Go.Proofs.YtefhngadeimklaaDoorW.PrintMore
set_option linter.unusedVariables false
set_option linter.unusedSimpArgs false

attribute [local go_sem] max2_int min2_int max_two min_two max_three min_three max_four min_four
theorem eqA40 (d : Nat) (w : World) (x0 y0 : ByteArray) (x1 y1 : ByteArray) :
    (Op.equalIn (d + 2) 40 (.agg #[.string x0, .string x1]) (.agg #[.string y0, .string y1])).run Tryd.prog w = .ok (x0.toList == y0.toList && (x1.toList == y1.toList)) w := by
  refine eqA_of Tryd.underlying40 (by kernel_rfl) ?_
  refine eqf_cons (by rfl) (by go_simp; rfl) (by go_simp; rfl) (by go_simp) ?_
  exact eqf_last (by rfl) (by go_simp; rfl) (by go_simp; rfl) (by go_simp)
end Go.Proofs.YtefhngadeimklaaDoor.Q
end
section
namespace Go.Proofs.YtefhngadeimklaaDoor.Q
open Go.RowKit Go.Proofs.YtefhngadeimklaaDoorW.PrintWords Go.Proofs.YtefhngadeimklaaDoorW.PrintLast Go.Proofs.YtefhngadeimklaaDoorW.PrintMore
set_option linter.unusedVariables false
set_option linter.unusedSimpArgs false

attribute [local go_sem] max2_int min2_int max_two min_two max_three min_three max_four min_four
attribute [local go_sem high] eqA40
/-! ### tinderref19_Same: function 15 -/
def tinderref19_Same.l0 : Nat → List (S40) → List (S40) → Int → Option (Bool)
  | 0, _, _, _ => none
  | k + 1, x0, x1, x5 => if x5 < (x0.length : Int) then (if 0 ≤ x5 then (if x5 < (x1.length : Int) then (if (!((((rd_T40 x0 x5).f0).toList) == (((rd_T40 x1 x5).f0).toList)) || (!((((rd_T40 x0 x5).f1).toList) == (((rd_T40 x1 x5).f1).toList)))) = true then (some false) else (tinderref19_Same.l0 k x0 x1 (wrap64 (x5 + 1)))) else (none)) else (none)) else (some true)
def tinderref19_Same.f (k : Nat) (l0 : List (S40)) (l1 : List (S40)) : Option (Bool) := if (l0.length : Int) = (l1.length : Int) then (tinderref19_Same.l0 k l0 l1 0) else (some false)
theorem tinderref19_Same.mono_l : ∀ k, (∀ y0 y1 y2, LeO (tinderref19_Same.l0 k y0 y1 y2) (tinderref19_Same.l0 (k + 1) y0 y1 y2))
  | 0 => fun _ _ _ r h => by simp [tinderref19_Same.l0] at h
  | k + 1 => by
    have ih0 := tinderref19_Same.mono_l k
    · intro y0 y1 y2
      unfold tinderref19_Same.l0
      repeat' first
      | (with_reducible exact ih0 _ _ _)
      | (with_reducible exact LeO.refl _)
      | (with_reducible exact LeO.none _)
      | (with_reducible refine LeO.ite ?_ ?_)
      | (with_reducible refine LeO.bind ?_ (fun _ => ?_))
      | exact ih0 _ _ _
      | exact LeO.none _
      | refine LeO.ite ?_ ?_
      | refine LeO.bind ?_ (fun _ => ?_)
theorem tinderref19_Same.mono : ∀ a0 a1 k, LeO (tinderref19_Same.f k a0 a1) (tinderref19_Same.f (k + 1) a0 a1) := by
  intro a0 a1 k
  have ih0 := tinderref19_Same.mono_l k
  unfold tinderref19_Same.f
  repeat' first
      | (with_reducible exact ih0 _ _ _)
      | (with_reducible exact LeO.refl _)
      | (with_reducible exact LeO.none _)
      | (with_reducible refine LeO.ite ?_ ?_)
      | (with_reducible refine LeO.bind ?_ (fun _ => ?_))
      | exact ih0 _ _ _
      | exact LeO.none _
      | refine LeO.ite ?_ ?_
      | refine LeO.bind ?_ (fun _ => ?_)
set_option maxHeartbeats 8000000 in
set_option maxRecDepth 100000 in
theorem tinderref19_Same.calls (k : Nat) (A0 : Option Addr) (c0 : Nat) (l0 : List (S40)) (A1 : Option Addr) (c1 : Nat) (l1 : List (S40)) (r : Bool) (w : World) (hr0 : Kd.C k40 w A0 l0.length l0) (hc0 : l0.length ≤ c0) (hr1 : Kd.C k40 w A1 l1.length l1) (hc1 : l1.length ≤ c1) (h : tinderref19_Same.f k l0 l1 = some r) :
    Calls Tryd.prog 15 #[.slice A0 l0.length c0, .slice A1 l1.length c1] w fun e w' => e = .returned (.bool r) ∧ Drawn0 w w' := by
  have hu40 := Tryd.underlying40
  have HR0 := Aside0.mk hr0
  have HC0 := Aside0.mk hc0
  clear hr0 hc0
  have HR1 := Aside0.mk hr1
  have HC1 := Aside0.mk hc1
  clear hr1 hc1
  have H : (if (l0.length : Int) = (l1.length : Int) then (tinderref19_Same.l0 k l0 l1 0) else (some false)) = some r := h
  clear h
  by_cases c3 : (l0.length : Int) = (l1.length : Int)
  · rw [if_pos c3] at H
    have c3b0 : ((l0.length : Int) == (l1.length : Int)) = true := beq_iff_eq.mpr c3
    have c3b1 : ((l0.length : Int) != (l1.length : Int)) = false := bne_eq_false_iff_eq.mpr c3
    have c3b2 : (l0.length == l1.length) = true := by first | simpa using c3 | (simp at c3 ⊢; omega)
    clear c3
    have H' := Aside0.mk H
    clear H
    go_enter Tryd.func15, Tryd.ntmps15
    go_wp2
    repeat (go_quiet (fail); try go_wp2)
    go_loopg [5] k (fun kq v5 w' => ∃ (x5_1 : Int), v5 = .int .i64 x5_1 ∧ Aside0 (tinderref19_Same.l0 kq l0 l1 x5_1 = some r) ∧ Aside0 (kq ≤ k) ∧ Drawn0 w w')
    case atStart => exact ⟨(0), (by first | rfl | (simp; done) | (simp [*]; done)), H', ⟨Nat.le_refl _⟩, by repeat (first | exact Drawn0.refl _ | apply Drawn0.step)⟩
    case round =>
      clear H'
      try clear c1
      try clear p2
      try clear c3
      try clear c3b0
      try clear c3b1
      try clear c3b2
      obtain ⟨x5_1, rfl, HA, HK1, ⟨m1, rfl⟩⟩ := hrel
      cases gk with
      | zero => exact absurd HA.out (by simp [tinderref19_Same.l0])
      | succ k1 =>
        have H := HA.out
        clear HA
        simp only [tinderref19_Same.l0] at H
        by_cases c4 : x5_1 < (l0.length : Int)
        · rw [if_pos c4] at H
          have c4b0 : decide (x5_1 < (l0.length : Int)) = true := decide_eq_true c4
          clear c4
          by_cases c5 : 0 ≤ x5_1
          · rw [if_pos c5] at H
            have c5b0 : decide (0 ≤ x5_1) = true := decide_eq_true c5
            clear c5
            by_cases c6 : x5_1 < (l1.length : Int)
            · rw [if_pos c6] at H
              have c6b0 : decide (x5_1 < (l1.length : Int)) = true := decide_eq_true c6
              clear c6
              by_cases c7 : (!((((rd_T40 l0 x5_1).f0).toList) == (((rd_T40 l1 x5_1).f0).toList)) || (!((((rd_T40 l0 x5_1).f1).toList) == (((rd_T40 l1 x5_1).f1).toList)))) = true
              · rw [if_pos c7] at H
                have c7b0 : (!((((rd_T40 l0 x5_1).f0).toList) == (((rd_T40 l1 x5_1).f0).toList)) || (!((((rd_T40 l0 x5_1).f1).toList) == (((rd_T40 l1 x5_1).f1).toList)))) = true := c7
                clear c7
                obtain rfl := Option.some.inj H
                have p16001 : 0 ≤ (x5_1 : Int) := of_decide_eq_true (by first | (with_reducible assumption) | assumption)
                have q16001 : x5_1 < (l0.length : Int) := of_decide_eq_true (by first | (with_reducible assumption) | assumption)
                obtain ⟨ad16001, e16001, hx16001_0, hx16001_1⟩ := at_T40 HR0.out x5_1 p16001 q16001
                cases e16001
                replace p16001 := eq_true p16001
                replace q16001 := eq_true q16001
                have p16002 : 0 ≤ (x5_1 : Int) := of_decide_eq_true (by first | (with_reducible assumption) | assumption)
                have q16002 : x5_1 < (l1.length : Int) := of_decide_eq_true (by first | (with_reducible assumption) | assumption)
                obtain ⟨ad16002, e16002, hx16002_0, hx16002_1⟩ := at_T40 HR1.out x5_1 p16002 q16002
                cases e16002
                replace p16002 := eq_true p16002
                replace q16002 := eq_true q16002
                go_wp2
                repeat (go_quiet (fail); try go_wp2)
                go_ret
                exact ⟨by first | rfl | (simp; done) | (simp [*]; done), by repeat (first | exact Drawn0.refl _ | apply Drawn0.step)⟩
              · rw [if_neg c7] at H
                have c7b0 : (!((((rd_T40 l0 x5_1).f0).toList) == (((rd_T40 l1 x5_1).f0).toList)) || (!((((rd_T40 l0 x5_1).f1).toList) == (((rd_T40 l1 x5_1).f1).toList)))) = false := by simpa using c7
                clear c7
                have H' := Aside0.mk H
                clear H
                have p16001 : 0 ≤ (x5_1 : Int) := of_decide_eq_true (by first | (with_reducible assumption) | assumption)
                have q16001 : x5_1 < (l0.length : Int) := of_decide_eq_true (by first | (with_reducible assumption) | assumption)
                obtain ⟨ad16001, e16001, hx16001_0, hx16001_1⟩ := at_T40 HR0.out x5_1 p16001 q16001
                cases e16001
                replace p16001 := eq_true p16001
                replace q16001 := eq_true q16001
                have p16002 : 0 ≤ (x5_1 : Int) := of_decide_eq_true (by first | (with_reducible assumption) | assumption)
                have q16002 : x5_1 < (l1.length : Int) := of_decide_eq_true (by first | (with_reducible assumption) | assumption)
                obtain ⟨ad16002, e16002, hx16002_0, hx16002_1⟩ := at_T40 HR1.out x5_1 p16002 q16002
                cases e16002
                replace p16002 := eq_true p16002
                replace q16002 := eq_true q16002
                go_wp2
                repeat (go_quiet (fail); try go_wp2)
                go_roundg k1
                case measure => have := HK1.out; omega
                case rel => exact ⟨(wrap64 (x5_1 + 1)), (by first | rfl | (simp; done) | (simp [*]; done)), H', ⟨by have := HK1.out; omega⟩, by repeat (first | exact Drawn0.refl _ | apply Drawn0.step)⟩
            · rw [if_neg c6] at H
              exact absurd H (by simp)
          · rw [if_neg c5] at H
            exact absurd H (by simp)
        · rw [if_neg c4] at H
          have c4b0 : decide (x5_1 < (l0.length : Int)) = false := decide_eq_false c4
          clear c4
          obtain rfl := Option.some.inj H
          go_wp2
          repeat (go_quiet (fail); try go_wp2)
          go_ret
          exact ⟨by first | rfl | (simp; done) | (simp [*]; done), by repeat (first | exact Drawn0.refl _ | apply Drawn0.step)⟩
  · rw [if_neg c3] at H
    have c3b0 : ((l0.length : Int) == (l1.length : Int)) = false := beq_eq_false_iff_ne.mpr c3
    have c3b1 : ((l0.length : Int) != (l1.length : Int)) = true := bne_iff_ne.mpr c3
    have c3b2 : (l0.length == l1.length) = false := by first | simpa using c3 | (simp at c3 ⊢; omega)
    obtain rfl := Option.some.inj H
    go_enter Tryd.func15, Tryd.ntmps15
    go_wp2
    repeat (go_quiet (fail); try go_wp2)
    go_ret
    exact ⟨by first | rfl | (simp; done) | (simp [*]; done), by repeat (first | exact Drawn0.refl _ | apply Drawn0.step)⟩

end Go.Proofs.YtefhngadeimklaaDoor.Q
end
section
namespace Go.Proofs.YtefhngadeimklaaDoor.Q
open Go.RowKit Go.Proofs.YtefhngadeimklaaDoorW.PrintWords Go.Proofs.YtefhngadeimklaaDoorW.PrintLast Go.Proofs.YtefhngadeimklaaDoorW.PrintMore
set_option linter.unusedVariables false
attribute [local go_sem] max2_int min2_int max_two min_two max_three min_three max_four min_four
set_option maxHeartbeats 1000000 in
theorem named_calls (s : ByteArray) (w : World) :
    Calls Tryd.prog 40 #[.string s] w fun e w' => ∃ gb, e = .returned (.func (.func 58) #[] #[.pointer (some ⟨gb, 0, none⟩)]) ∧ w.heap.size ≤ gb ∧ w'.heap[gb]? = some (.cells #[.string s] 9 (0, 0)) ∧ Below w.heap.size w w' := by
  have HB := Aside0.mk (Below.refl w.heap.size w)
  go_enter Tryd.func40, Tryd.ntmps40
  go_wp2_with (first
    | ((with_reducible refine gate_dst (N := 1) rfl ?_); refine box_event ?hg (N := 1) ?hd (cs := #[.string s]) (t := 9) ?hr ?_; (case hd => rfl); (case hg => rfl); (case hr => first | (go_simp; done) | (go_simp; rfl)); intro gb hg w1 hbox hb; have BK := Aside0.mk hbox; have HB := Aside0.mk hb; have GB := Aside0.mk (show w.heap.size ≤ gb from hg ▸ Nat.le_refl _); clear hbox hb hg))
  go_ret
  exact ⟨gb, rfl, GB.out, BK.out, HB.out⟩
set_option maxHeartbeats 1000000 in
theorem namedC_calls (x : S40) (s : ByteArray) (gb : Nat) (w : World) (hh : w.heap[gb]? = some (.cells #[.string s] 9 (0, 0))) :
    Calls Tryd.prog 58 #[.agg #[.string x.f0, .string x.f1], .pointer (some ⟨gb, 0, none⟩)] w fun e w' => e = .returned (.bool (x.f0.toList == s.toList)) ∧ Below w.heap.size w w' := by
  have hu40 := Tryd.underlying40
  have hlt : gb < w.heap.size := by
    rw [Array.getElem?_eq_some_iff] at hh
    exact hh.1
  have HB := Aside0.mk (Below.refl w.heap.size w)
  have HH := Aside0.mk hh
  have HLT := Aside0.mk hlt
  clear hh hlt
  go_enter Tryd.func58, Tryd.ntmps58
  go_wp2_with (first
    | ((with_reducible refine gate_dst (N := 2) rfl ?_); refine box_event ?hg (N := 2) ?hd (cs := #[.string x.f0, .string x.f1]) (t := 40) ?hr ?_; (case hd => rfl); (case hg => rfl); (case hr => first | (go_simp; done) | (go_simp; rfl)); intro ga hg w1 hbox hb; have BK := Aside0.mk hbox; have hz0 := (blk_cell BK.out 0).trans rfl; have hz1 := (blk_cell BK.out 1).trans rfl; have hf0 := blk_frozen BK.out 0; have hf1 := blk_frozen BK.out 1; have hz2 : w1.cell? ⟨gb, 0, none⟩ = some (.string s) := (hb.cell (p := ⟨gb, 0, none⟩) HLT.out).trans ((blk_cell HH.out 0).trans rfl); have HB := Aside0.mk hb; clear hbox hb hg))
  go_ret
  exact ⟨rfl, HB.out⟩
/-- The first place of a name; -1: none. -/
def idxN (s : ByteArray) : List S40 → Int
  | [] => -1
  | x :: r => if x.f0.toList = s.toList then 0 else if idxN s r < 0 then -1 else idxN s r + 1
theorem idxN_range (s : ByteArray) : ∀ l : List S40, -1 ≤ idxN s l ∧ idxN s l < l.length
  | [] => ⟨Int.le_refl _, by simp [idxN]⟩
  | x :: r => by
    have ih := idxN_range s r
    unfold idxN
    rw [List.length_cons]
    split
    · omega
    · split <;> omega
theorem idxN_drop (s : ByteArray) : ∀ (l : List S40) (i : Nat), (∀ j, j < i → (rd_T40 l j).f0.toList ≠ s.toList) → idxN s l = if idxN s (l.drop i) < 0 then -1 else idxN s (l.drop i) + i
  | l, 0, _ => by
    have := idxN_range s l
    rw [List.drop_zero]
    split <;> omega
  | [], i + 1, _ => by simp [idxN]
  | x :: r, i + 1, h => by
    have ih := idxN_drop s r i (fun j hj => by
      have := h (j + 1) (by omega)
      rw [show ((j + 1 : Nat) : Int) = ((j + 1 : Nat) : Int) from rfl] at this
      simpa [rd_T40] using this)
    have h0 : x.f0.toList ≠ s.toList := by simpa [rd_T40] using h 0 (by omega)
    have hr := idxN_range s (r.drop i)
    rw [List.drop_succ_cons, idxN, if_neg h0, ih]
    by_cases hq : idxN s (List.drop i r) < 0
    · simp [hq]
    · simp only [hq, if_false]
      rw [if_neg (by omega)]
      omega
set_option maxHeartbeats 2000000 in
set_option maxRecDepth 100000 in
theorem indexNamed_calls (s : ByteArray) (gb : Nat) (A : Option Addr) (c : Nat) (l : List S40) (w : World) (hC : Kd.C k40 w A l.length l) (hh : w.heap[gb]? = some (.cells #[.string s] 9 (0, 0))) :
    Calls Tryd.prog 41 #[.slice A l.length c, .func (.func 58) #[] #[.pointer (some ⟨gb, 0, none⟩)]] w fun e w' => e = .returned (.int .i64 (idxN s l)) ∧ Below w.heap.size w w' := by
  have hu40 := Tryd.underlying40
  have hlt : gb < w.heap.size := by
    rw [Array.getElem?_eq_some_iff] at hh
    exact hh.1
  have HC := Aside0.mk hC
  have HH := Aside0.mk hh
  have HLT := Aside0.mk hlt
  have HF := Aside0.mk (fun (x : S40) (W : World) (hb : Below w.heap.size w W) => namedC_calls x s gb W (by rw [hb.block gb hlt]; exact hh))
  clear hC hh hlt
  go_enter Tryd.func41, Tryd.ntmps41
  go_wp2
  go_loopg [8] l.length (fun kq v8 w' => ∃ i : Int, v8 = .int .i64 i ∧ Aside0 (0 ≤ i ∧ i + kq = l.length) ∧ Aside0 (∀ j : Nat, j < i.toNat → (rd_T40 l j).f0.toList ≠ s.toList) ∧ Aside0 (Below w.heap.size w w'))
  case atStart => exact ⟨0, rfl, ⟨by omega, by omega⟩, ⟨fun j hj => absurd hj (by simp)⟩, ⟨Below.refl _ _⟩⟩
  case round =>
    obtain ⟨i, rfl, HI, HZ, HB⟩ := hrel
    cases gk with
    | zero =>
      have hlt : decide (i < (l.length : Int)) = false := decide_eq_false (by have := HI.out; omega)
      go_wp2
      go_ret
      have hz := HZ.out
      have hi := HI.out
      refine ⟨?_, HB.out⟩
      rw [idxN_drop s l i.toNat hz, List.drop_eq_nil_of_le (by omega)]
      rfl
    | succ k1 =>
      have hi := HI.out
      have hm := Kd.C_max HC.out
      have hlt : decide (i < (l.length : Int)) = true := decide_eq_true (by omega)
      have p1 : (0 ≤ i) = True := eq_true (by omega)
      have p2 : (i < (l.length : Int)) = True := eq_true (by omega)
      obtain ⟨ad, eA, hx0, hx1⟩ := at_T40 (Kd.C_below HC.out HB.out) i (by omega) (by omega)
      cases eA
      have HIN := Aside0.mk (show (rd_T40 l i).f0.toList = s.toList → idxN s l = i from fun h => by
        rw [idxN_drop s l i.toNat HZ.out, List.drop_eq_getElem_cons (show i.toNat < l.length by omega)]
        have hg : l[i.toNat]'(by omega) = rd_T40 l i := by simp [rd_T40, List.getD_eq_getElem?_getD, List.getElem?_eq_getElem (show i.toNat < l.length by omega)]
        rw [hg, idxN, if_pos h, if_neg (by omega)]
        omega)
      have hwr : IntKind.i64.wrap (i + 1) = i + 1 := (i64_w _).trans (by unfold wrap64; omega)
      have hwr2 : wrap64 (i + 1) = i + 1 := by unfold wrap64; omega
      clear hi hm
      by_cases hz : (rd_T40 l i).f0.toList = s.toList
      · have hzb : ((rd_T40 l i).f0.toList == s.toList) = true := beq_iff_eq.2 hz
        go_wp2_with (first
          | (go_at_call 58; (with_reducible refine (HF.out (rd_T40 l i) _ HB.out).mono ?_); rintro e w2 ⟨rfl, hb⟩; have HB2 := Aside0.mk (below_step HB.out hb); clear hb))
        go_ret
        exact ⟨by rw [HIN.out hz]; rfl, HB2.out⟩
      · have hzb : ((rd_T40 l i).f0.toList == s.toList) = false := beq_eq_false_iff_ne.2 hz
        have HZN := Aside0.mk hz
        clear hz
        go_wp2_with (first
          | (go_at_call 58; (with_reducible refine (HF.out (rd_T40 l i) _ HB.out).mono ?_); rintro e w2 ⟨rfl, hb⟩; have HB2 := Aside0.mk (below_step HB.out hb); clear hb))
        go_roundg k1
        case measure => omega
        case rel =>
          have hi := HI.out
          refine ⟨i + 1, rfl, ⟨by omega, by omega⟩, ⟨fun j hj => ?_⟩, HB2⟩
          by_cases hji : j = i.toNat
          · subst hji
            rw [show ((i.toNat : Nat) : Int) = i by omega]
            exact HZN.out
          · exact HZ.out j (by omega)
set_option maxHeartbeats 1000000 in
theorem indexNil_calls (fn : Value) (w : World) :
    Calls Tryd.prog 41 #[.slice none 0 0, fn] w fun e w' => e = .returned (.int .i64 (-1)) ∧ Below w.heap.size w w' := by
  have HB := Aside0.mk (Below.refl w.heap.size w)
  go_enter Tryd.func41, Tryd.ntmps41
  go_wp2
  go_loopg [8] 0 (fun kq v8 w' => v8 = .int .i64 0 ∧ w' = w)
  case atStart => exact ⟨rfl, rfl⟩
  case round =>
    obtain ⟨rfl, rfl⟩ := hrel
    cases gk with
    | zero =>
      go_wp2
      go_ret
      exact ⟨rfl, HB.out⟩
    | succ k1 =>
      go_wp2
      go_ret
      exact ⟨rfl, HB.out⟩
set_option maxHeartbeats 1000000 in
theorem deleteNil_calls (fn : Value) (w : World) :
    Calls Tryd.prog 38 #[.slice none 0 0, fn] w fun e w' => e = .returned (.slice none 0 0) ∧ Below w.heap.size w w' := by
  have HI := Aside0.mk (fun W => indexNil_calls fn W)
  go_enter Tryd.func38, Tryd.ntmps38
  go_wp2_with (first
    | (go_at_call 41; (with_reducible refine (HI.out _).mono ?_); rintro e w2 ⟨rfl, hb⟩; have HB := Aside0.mk hb; clear hb))
  go_ret
  exact ⟨rfl, HB.out⟩
set_option maxHeartbeats 4000000 in
set_option maxRecDepth 100000 in
theorem cloneNil_calls (w : World) :
    Calls Tryd.prog 39 #[.slice none 0 0] w fun e w' => e = .returned (.slice none 0 0) ∧ Below w.heap.size w w' := by
  have HB := Aside0.mk (Below.refl w.heap.size w)
  have q : ∀ (w : World) (a : Option Addr) (n c n' c' : Nat), (binOp .eql 22 (.slice a n c) (.slice none n' c')).run Tryd.prog w = .ok (.bool a.isNone) w := fun w a n c n' c' => Lib.run_eql_slice_nil w _ _ a n c n' c' Tryd.underlying22
  go_enter Tryd.func39, Tryd.ntmps39
  go_wp2
  go_ret
  exact ⟨rfl, HB.out⟩
set_option maxHeartbeats 4000000 in
set_option maxRecDepth 100000 in
theorem insertNil_calls (A : Addr) (x : S40) (w : World) (hC : Kd.C k40 w (some A) 1 [x]) :
    Calls Tryd.prog 43 #[.slice none 0 0, .int .i64 0, .slice (some A) 1 1] w fun e w' => ∃ v, e = .returned v ∧ Kd.R k40 40 w' w.heap.size (fun _ => True) v [x] ∧ Below w.heap.size w w' := by
  have HR0 := Aside0.mk hC
  have HB := Aside0.mk (Below.refl w.heap.size w)
  clear hC
  go_enter Tryd.func43, Tryd.ntmps43
  go_wp2_with (first
    | ((with_reducible refine gate_builtin (b := .append) (xs := #[.tmp 23, .tmp 24]) rfl ?_); at_builtin; refine Kd.R_append_rows k40 (w0 := w) w.heap.size rfl (.tmp 23) (.tmp 24) 22 40 (.agg #[(.string ⟨#[]⟩), (.string ⟨#[]⟩)]) 32 rfl Tryd.underlying22 info40 rfl (by decide) (by omega) (.slice none 0 0) ([] : List (S40)) [x] _ _ _ (fun _ => True) (fun _ => False) rfl rfl ?aO ?aR (fun _ _ h => h) (fun _ h => h.elim) ?aF ?aB ?aS ?aL ?_; (case aR => exact HR0.out); (case aB => exact HB.out); (case aF => exact (fun _ _ => trivial)); (case aO => exact ((Kd.R_nil _ _ _ _ (fun _ => True)))); (case aS => exact Nat.le_refl _); (case aL => decide); intro v13002 w3 ho hb hg hat; have n0_ := Aside0.mk (hb); have n1_ := Aside0.mk (ho); clear HB; have HB := n0_; have HO13003 := n1_; clear n0_ n1_; clear ho hb hg hat))
  go_ret
  exact ⟨_, rfl, HO13003.out, HB.out⟩
end Go.Proofs.YtefhngadeimklaaDoor.Q
end
section
namespace Go.Proofs.YtefhngadeimklaaDoor.Q
open Go.RowKit Go.Proofs.YtefhngadeimklaaDoorW.PrintWords Go.Proofs.YtefhngadeimklaaDoorW.PrintLast Go.Proofs.YtefhngadeimklaaDoorW.PrintMore
attribute [local go_sem] max2_int min2_int max_two min_two max_three min_three max_four min_four
set_option linter.unusedVariables false
def limS : ByteArray := ⟨#[98, 111, 111, 116, 45, 108, 105, 109, 105, 116]⟩
def tinderlaw19_alive.f : Option Bool := some true
theorem par_007 : parF (⟨#[48, 48, 55]⟩ : ByteArray) 10 = (7, 0) := by kernel_rfl
theorem show_7 : showB 10 7 = ⟨#[55]⟩ := by
  unfold showB
  rw [showL_small (by decide)]
  rfl
theorem find_lim : vars_find.f 20 (⟨#[98, 111, 111, 116, 45, 108, 105, 109, 105, 116]⟩ : ByteArray) = some (⟨#[98, 111, 111, 116, 45, 108, 105, 109, 105, 116]⟩, 1, ⟨#[53, 48, 48, 48]⟩, 3, true) := by kernel_rfl
theorem right_nil : vars_Right.f 5 [] = some true := by kernel_rfl
theorem form_7 : vars_Form.f 100 (⟨#[98, 111, 111, 116, 45, 108, 105, 109, 105, 116]⟩ : ByteArray) (⟨#[48, 48, 55]⟩ : ByteArray) = some (⟨#[55]⟩, 0) := by
  have h1 : vars_find.f 100 (⟨#[98, 111, 111, 116, 45, 108, 105, 109, 105, 116]⟩ : ByteArray) = some (⟨#[98, 111, 111, 116, 45, 108, 105, 109, 105, 116]⟩, 1, ⟨#[53, 48, 48, 48]⟩, 3, true) := by kernel_rfl
  have h2 : digit_Parse.f 100 (⟨#[48, 48, 55]⟩ : ByteArray) 10 = some (7, 0) := by rw [parse_eq _ _ _ (by decide) (by decide), par_007]
  have h3 : digit_Show.f 7 10 = some (⟨#[55]⟩, 0) := by
    unfold digit_Show.f
    rw [if_pos (by decide), if_pos rfl, show_7]
  unfold vars_Form.f vars_variable_form.f
  rw [h1, Option.bind_some, if_pos rfl, if_neg (by decide), if_pos rfl, h2, Option.bind_some, if_pos rfl, h3]
  rfl
theorem blk_keep {n i : Nat} {w w1 : World} {o : Obj} (hb : Below n w w1) (hi : i < n) (h : w.heap[i]? = some o) : w1.heap[i]? = some o := by rw [hb.block _ hi]; exact h
theorem two_get (w : World) (o o2 : Obj) : ((w.alloc o).alloc o2).heap[w.heap.size]? = some o := by
  unfold World.alloc
  simp [Array.getElem?_push]
theorem size_one (w : World) (o : Obj) : (w.alloc o).heap.size = w.heap.size + 1 := by
  unfold World.alloc
  simp
theorem size_two (w : World) (o o2 : Obj) : ((w.alloc o).alloc o2).heap.size = w.heap.size + 2 := by rw [size_one, size_one]
theorem get_one (w : World) (o : Obj) : (w.alloc o).heap[w.heap.size]? = some o := by
  unfold World.alloc
  simp
theorem C_one40 (W : World) (b : Nat) (x : S40) (h : W.heap[b]? = some (.cells #[.string x.f0, .string x.f1] 40 (0, 0))) : Kd.C k40 W (some ⟨b, 0, none⟩) 1 [x] := by
  refine ⟨rfl, by decide, fun _ => ⟨_, rfl, fun j p hj => ?_⟩⟩
  obtain ⟨hl, hp⟩ := List.getElem?_eq_some_iff.1 hj
  obtain rfl : j = 0 := by simpa using hl
  obtain rfl : x = p := hp
  refine ⟨_, rfl, k40_mk W x, fun j u hu => ?_⟩
  have := blk_cell h j
  rw [show (⟨b, 0, none⟩ : Addr).add (0 * k40.sz + j) = ⟨b, j, none⟩ from by rw [Nat.zero_mul, Nat.zero_add]; unfold Addr.add; split <;> simp_all]
  rw [this]
  simpa using hu
set_option maxHeartbeats 4000000 in
set_option maxRecDepth 100000 in
theorem setSeven_calls (w : World) (ht : Tabs w) :
    Calls Tryd.prog 13 #[.slice none 0 0, .string ⟨#[98, 111, 111, 116, 45, 108, 105, 109, 105, 116]⟩, .string ⟨#[48, 48, 55]⟩] w fun e w' => ∃ v, e = .returned (.tuple #[v, .int .i64 0]) ∧ Kd.R k40 40 w' w.heap.size (fun _ => True) v [⟨⟨#[98, 111, 111, 116, 45, 108, 105, 109, 105, 116]⟩, ⟨#[55]⟩⟩] ∧ Below w.heap.size w w' := by
  have hu57 := Tryd.underlying57
  have HT := Aside0.mk ht
  have HRI := Aside0.mk (fun (W : World) (hT : Tabs W) => (show Calls Tryd.prog 16 #[.slice none 0 0] W (fun e w' => e = .returned (.bool true) ∧ Below W.heap.size W w') from vars_Right.calls 5 none 0 [] true W hT (Kd.C_nil _ _) (Nat.le_refl _) right_nil))
  have HFM := Aside0.mk (fun (W : World) (hT : Tabs W) => vars_Form.calls 100 _ _ _ _ W hT form_7)
  have HFD := Aside0.mk (fun (W : World) => vars_find.calls 20 _ _ _ _ _ _ W find_lim)
  have HB := Aside0.mk (Below.refl w.heap.size w)
  clear ht
  go_enter Tryd.func13, Tryd.ntmps13
  go_wp2_with (first
    | (go_at_call 16; (with_reducible refine (HRI.out _ HT.out).mono ?_); rintro e w1 ⟨rfl, hb⟩; have HB := Aside0.mk hb; have HT := Aside0.mk (HT.out.below hb); clear hb)
    | (go_at_call 17; (with_reducible refine (HFM.out _ HT.out).mono ?_); rintro e w2 ⟨rfl, hb⟩; have HB := Aside0.mk (below_step HB.out hb); clear hb)
    | (go_at_call 39; (with_reducible refine (cloneNil_calls _).mono ?_); rintro e w4 ⟨rfl, hb⟩; have BK := Aside0.mk (show w4.heap[w3.heap.size]? = some (.cells #[.string ⟨#[98, 111, 111, 116, 45, 108, 105, 109, 105, 116]⟩, .int .i64 1, .string ⟨#[53, 48, 48, 48]⟩] 57 (0, 0)) from by rw [hb.block _ (by rw [size_two]; omega)]; exact two_get _ _ _); have HS := Aside0.mk (show w3.heap.size < w4.heap.size from Nat.lt_of_lt_of_le (by rw [size_two]; omega) hb.size); have HB := Aside0.mk (below_step (below_alloc (below_alloc HB.out _) _) hb); clear hb)
    | (go_at_call 40; (with_reducible refine (named_calls _ _).mono ?_); rintro e w5 ⟨gb, rfl, _, _, hb⟩; have BK := Aside0.mk (blk_keep hb HS.out BK.out); have HS := Aside0.mk (Nat.lt_of_lt_of_le HS.out hb.size); have HB := Aside0.mk (below_step HB.out hb); clear hb)
    | (go_at_call 38; (with_reducible refine (deleteNil_calls _ _).mono ?_); rintro e w6 ⟨rfl, hb⟩; have BK := Aside0.mk (blk_keep hb HS.out BK.out); have HB := Aside0.mk (below_step HB.out hb); clear hb; have hz0 := (blk_cell BK.out 0).trans rfl; have hz1 := (blk_cell BK.out 1).trans rfl; have hz2 := (blk_cell BK.out 2).trans rfl; have hf2 := blk_frozen BK.out 2)
    | (go_at_call 41; (with_reducible refine (indexNil_calls _ _).mono ?_); rintro e w7 ⟨rfl, hb⟩; have HB := Aside0.mk (below_step HB.out hb); clear hb)
    | (go_at_call 43; (with_reducible refine (insertNil_calls _ _ _ (C_one40 _ _ ⟨⟨#[98, 111, 111, 116, 45, 108, 105, 109, 105, 116]⟩, ⟨#[55]⟩⟩ ?hC)).mono ?_); (case hC => exact get_one _ _); rintro e w8 ⟨v, rfl, hr, hb⟩; have HR := Aside0.mk (Kd.R_lower hr (below_size (below_alloc HB.out _))); have HB := Aside0.mk (below_step (below_alloc HB.out _) hb); clear hb hr)
    | (go_at_call 37; (with_reducible refine (HFD.out _).mono ?_); rintro e w3 ⟨rfl, hb⟩; have HB := Aside0.mk (below_step HB.out hb); clear hb))
  go_ret2
  exact ⟨_, rfl, HR.out, HB.out⟩
set_option maxHeartbeats 2000000 in
set_option maxRecDepth 100000 in
theorem tinderlaw19_alive.calls (r : Bool) (w : World) (ht : Tabs w) (h : tinderlaw19_alive.f = some r) :
    Calls Tryd.prog 11 #[] w fun e w' => e = .returned (.bool r) ∧ Below w.heap.size w w' := by
  obtain rfl := Option.some.inj h
  have hu40 := Tryd.underlying40
  have HI := Aside0.mk (setSeven_calls w ht)
  have e1 : ((⟨#[98, 111, 111, 116, 45, 108, 105, 109, 105, 116]⟩ : ByteArray).toList == (⟨#[98, 111, 111, 116, 45, 108, 105, 109, 105, 116]⟩ : ByteArray).toList) = true := by rw [beq_iff_eq]
  clear ht h
  go_enter Tryd.func11, Tryd.ntmps11
  go_wp2_with (first
    | (go_at_call 13; refine HI.out.mono ?_; rintro e w1 ⟨v, rfl, hr, hb⟩; obtain ⟨A, c, rfl, hc, hC⟩ := Kd.R_reads hr; obtain ⟨ad, eA, hx0, hx1⟩ := at_T40 hC 0 (by decide) (by decide); cases eA; replace hx0 : w1.cell? ad = some (.string ⟨#[98, 111, 111, 116, 45, 108, 105, 109, 105, 116]⟩) := hx0; replace hx1 : w1.cell? ⟨ad.block, ad.off + 1, none⟩ = some (.string ⟨#[55]⟩) := hx1; have HB1 := Aside0.mk hb; clear hb hr hC hc))
  go_ret
  exact ⟨rfl, HB1.out⟩
end Go.Proofs.YtefhngadeimklaaDoor.Q
end
section
namespace Go.Proofs.YtefhngadeimklaaDoor.Q
open Go.RowKit Go.Proofs.YtefhngadeimklaaDoorW.PrintWords Go.Proofs.YtefhngadeimklaaDoorW.PrintLast Go.Proofs.YtefhngadeimklaaDoorW.PrintMore
set_option linter.unusedVariables false
set_option linter.unusedSimpArgs false

attribute [local go_sem] max2_int min2_int max_two min_two max_three min_three max_four min_four
/-! ### tinderlaw19_VarsBytes: function 7 -/
def tinderlaw19_VarsBytes.f (k : Nat) (l0 : List (S40)) (l1 : List Int) : Option (Bool) := (tinderlaw19_alive.f).bind fun t8001 => (if t8001 = true then ((vars_Encode.f k l0).bind fun bt8002 => ((tinderref19_Encode.f k l0).bind fun bt8006 => ((vars_Decode.f k l1).bind fun bt8010 => ((tinderref19_Decode.f k l1).bind fun bt8014 => ((tinderref04_Same.f bt8002.1 bt8006.1).bind fun t8018 => (if t8018 = true then (if bt8002.2 = bt8006.2 then ((tinderref19_Same.f k bt8010.1 bt8014.1).bind fun t8019 => (if t8019 = true then (some (bt8010.2 == bt8014.2)) else (some false))) else (some false)) else (some false))))))) else (some false))
theorem tinderlaw19_VarsBytes.mono : ∀ a0 a1 k, LeO (tinderlaw19_VarsBytes.f k a0 a1) (tinderlaw19_VarsBytes.f (k + 1) a0 a1) := by
  intro a0 a1 k
  unfold tinderlaw19_VarsBytes.f
  repeat' first
      | (with_reducible exact tinderref19_Decode.mono _ _)
      | (with_reducible exact tinderref19_Encode.mono _ _)
      | (with_reducible exact tinderref19_Same.mono _ _ _)
      | (with_reducible exact vars_Decode.mono _ _)
      | (with_reducible exact vars_Encode.mono _ _)
      | (with_reducible exact LeO.refl _)
      | (with_reducible exact LeO.none _)
      | (with_reducible refine LeO.ite ?_ ?_)
      | (with_reducible refine LeO.bind ?_ (fun _ => ?_))
      | exact tinderref19_Decode.mono _ _
      | exact tinderref19_Encode.mono _ _
      | exact tinderref19_Same.mono _ _ _
      | exact vars_Decode.mono _ _
      | exact vars_Encode.mono _ _
      | exact LeO.none _
      | refine LeO.ite ?_ ?_
      | refine LeO.bind ?_ (fun _ => ?_)
set_option maxHeartbeats 8000000 in
set_option maxRecDepth 100000 in
theorem tinderlaw19_VarsBytes.calls (k : Nat) (A0 : Option Addr) (c0 : Nat) (l0 : List (S40)) (A1 : Option Addr) (c1 : Nat) (l1 : List Int) (r : Bool) (w : World) (ht : Tabs w) (hr0 : Kd.C k40 w A0 l0.length l0) (hc0 : l0.length ≤ c0) (hr1 : Kd.C (Kd.int .u8) w A1 l1.length l1) (hc1 : l1.length ≤ c1) (h : tinderlaw19_VarsBytes.f k l0 l1 = some r) :
    Calls Tryd.prog 7 #[.slice A0 l0.length c0, .slice A1 l1.length c1] w fun e w' => e = .returned (.bool r) ∧ Below w.heap.size w w' := by
  have HR0 := Aside0.mk hr0
  have HC0 := Aside0.mk hc0
  clear hr0 hc0
  have HR1 := Aside0.mk hr1
  have HC1 := Aside0.mk hc1
  clear hr1 hc1
  have HB := Aside0.mk (Below.refl w.heap.size w)
  have H : ((tinderlaw19_alive.f).bind fun t8001 => (if t8001 = true then ((vars_Encode.f k l0).bind fun bt8002 => ((tinderref19_Encode.f k l0).bind fun bt8006 => ((vars_Decode.f k l1).bind fun bt8010 => ((tinderref19_Decode.f k l1).bind fun bt8014 => ((tinderref04_Same.f bt8002.1 bt8006.1).bind fun t8018 => (if t8018 = true then (if bt8002.2 = bt8006.2 then ((tinderref19_Same.f k bt8010.1 bt8014.1).bind fun t8019 => (if t8019 = true then (some (bt8010.2 == bt8014.2)) else (some false))) else (some false)) else (some false))))))) else (some false))) = some r := h
  clear h
  replace H := Option.bind_eq_some_iff.mp H
  obtain ⟨t8001, A30, H⟩ := H
  replace H : (if t8001 = true then ((vars_Encode.f k l0).bind fun bt8002 => ((tinderref19_Encode.f k l0).bind fun bt8006 => ((vars_Decode.f k l1).bind fun bt8010 => ((tinderref19_Decode.f k l1).bind fun bt8014 => ((tinderref04_Same.f bt8002.1 bt8006.1).bind fun t8018 => (if t8018 = true then (if bt8002.2 = bt8006.2 then ((tinderref19_Same.f k bt8010.1 bt8014.1).bind fun t8019 => (if t8019 = true then (some (bt8010.2 == bt8014.2)) else (some false))) else (some false)) else (some false))))))) else (some false)) = some r := H
  have A3 := Aside0.mk A30
  clear A30
  by_cases c4 : t8001 = true
  · subst c4
    have H1 : ((vars_Encode.f k l0).bind fun bt8002 => ((tinderref19_Encode.f k l0).bind fun bt8006 => ((vars_Decode.f k l1).bind fun bt8010 => ((tinderref19_Decode.f k l1).bind fun bt8014 => ((tinderref04_Same.f bt8002.1 bt8006.1).bind fun t8018 => (if t8018 = true then (if bt8002.2 = bt8006.2 then ((tinderref19_Same.f k bt8010.1 bt8014.1).bind fun t8019 => (if t8019 = true then (some (bt8010.2 == bt8014.2)) else (some false))) else (some false)) else (some false))))))) = some r := by rw [if_pos rfl] at H; exact H
    clear H
    have H := H1
    clear H1
    replace H := Option.bind_eq_some_iff.mp H
    obtain ⟨⟨t8002, t8003⟩, A50, H⟩ := H
    replace H : ((tinderref19_Encode.f k l0).bind fun bt8006 => ((vars_Decode.f k l1).bind fun bt8010 => ((tinderref19_Decode.f k l1).bind fun bt8014 => ((tinderref04_Same.f t8002 bt8006.1).bind fun t8018 => (if t8018 = true then (if t8003 = bt8006.2 then ((tinderref19_Same.f k bt8010.1 bt8014.1).bind fun t8019 => (if t8019 = true then (some (bt8010.2 == bt8014.2)) else (some false))) else (some false)) else (some false)))))) = some r := H
    have A5 := Aside0.mk A50
    clear A50
    replace H := Option.bind_eq_some_iff.mp H
    obtain ⟨⟨t8006, t8007⟩, A60, H⟩ := H
    replace H : ((vars_Decode.f k l1).bind fun bt8010 => ((tinderref19_Decode.f k l1).bind fun bt8014 => ((tinderref04_Same.f t8002 t8006).bind fun t8018 => (if t8018 = true then (if t8003 = t8007 then ((tinderref19_Same.f k bt8010.1 bt8014.1).bind fun t8019 => (if t8019 = true then (some (bt8010.2 == bt8014.2)) else (some false))) else (some false)) else (some false))))) = some r := H
    have A6 := Aside0.mk A60
    clear A60
    replace H := Option.bind_eq_some_iff.mp H
    obtain ⟨⟨t8010, t8011⟩, A70, H⟩ := H
    replace H : ((tinderref19_Decode.f k l1).bind fun bt8014 => ((tinderref04_Same.f t8002 t8006).bind fun t8018 => (if t8018 = true then (if t8003 = t8007 then ((tinderref19_Same.f k t8010 bt8014.1).bind fun t8019 => (if t8019 = true then (some (t8011 == bt8014.2)) else (some false))) else (some false)) else (some false)))) = some r := H
    have A7 := Aside0.mk A70
    clear A70
    replace H := Option.bind_eq_some_iff.mp H
    obtain ⟨⟨t8014, t8015⟩, A80, H⟩ := H
    replace H : ((tinderref04_Same.f t8002 t8006).bind fun t8018 => (if t8018 = true then (if t8003 = t8007 then ((tinderref19_Same.f k t8010 t8014).bind fun t8019 => (if t8019 = true then (some (t8011 == t8015)) else (some false))) else (some false)) else (some false))) = some r := H
    have A8 := Aside0.mk A80
    clear A80
    replace H := Option.bind_eq_some_iff.mp H
    obtain ⟨t8018, A90, H⟩ := H
    replace H : (if t8018 = true then (if t8003 = t8007 then ((tinderref19_Same.f k t8010 t8014).bind fun t8019 => (if t8019 = true then (some (t8011 == t8015)) else (some false))) else (some false)) else (some false)) = some r := H
    have A9 := Aside0.mk A90
    clear A90
    by_cases c10 : t8018 = true
    · subst c10
      have H1 : (if t8003 = t8007 then ((tinderref19_Same.f k t8010 t8014).bind fun t8019 => (if t8019 = true then (some (t8011 == t8015)) else (some false))) else (some false)) = some r := by rw [if_pos rfl] at H; exact H
      clear H
      have H := H1
      clear H1
      by_cases c11 : t8003 = t8007
      · rw [if_pos c11] at H
        have c11b0 : (t8003 == t8007) = true := beq_iff_eq.mpr c11
        have c11b1 : (t8003 != t8007) = false := bne_eq_false_iff_eq.mpr c11
        clear c11
        replace H := Option.bind_eq_some_iff.mp H
        obtain ⟨t8019, A120, H⟩ := H
        replace H : (if t8019 = true then (some (t8011 == t8015)) else (some false)) = some r := H
        have A12 := Aside0.mk A120
        clear A120
        by_cases c13 : t8019 = true
        · subst c13
          have H1 : (some (t8011 == t8015)) = some r := by rw [if_pos rfl] at H; exact H
          clear H
          have H := H1
          clear H1
          obtain rfl := Option.some.inj H
          go_enter Tryd.func7, Tryd.ntmps7
          go_wp2_with (first | ((with_reducible refine gate_callee (f := 11) rfl ?_); refine goesL_ (some 13) rfl rfl Tryd.func11 (by kernel_rfl) rfl #[] rfl (by (try simp only [List.map_toArray, List.map_cons, List.map_nil]); first | done | rfl | (simp only [List.length_drop, List.length_take]; rfl)) ?_; (with_reducible refine (tinderlaw19_alive.calls  true _ ht A3.out).mono ?_); rintro e w14 ⟨rfl, hb⟩; refine ⟨_, rfl, ?_⟩; have n0_ := Aside0.mk (below_step (by repeat (first | (with_reducible first | exact HB.out | apply below_alloc | apply pw_below_drewN | apply below_drew1) | exact HB.out)) hb); clear HB; have HB := n0_; clear n0_; (try clear hb); (try clear hb2); (try clear hk); (try clear hi)) | ((with_reducible refine gate_callee (f := 26) rfl ?_); refine goesL_ (some 17) rfl rfl Tryd.func26 (by kernel_rfl) rfl #[.slice A0 l0.length c0] rfl (by (try simp only [List.map_toArray, List.map_cons, List.map_nil]); first | done | rfl | (simp only [List.length_drop, List.length_take]; rfl)) ?_; (with_reducible refine (vars_Encode.calls k _ _ l0 t8002 t8003 _ (Tabs.below ht (by repeat (first | (with_reducible first | exact HB.out | apply below_alloc | apply pw_below_drewN | apply below_drew1 | refine below_set ?_ (Aside0.out (by assumption))) | exact HB.out))) ?side1 ?side2 A5.out).mono ?_); (case side1 => repeat (first | exact (Kd.C_below HR0.out HB.out) | (with_reducible refine Kd.C_alloc ?_ _) | (with_reducible refine Kd.C_drewN ?_ _) | (with_reducible refine Kd.C_drew ?_))); (case side2 => exact HC0.out); rintro e w15 ⟨v8004, rfl, ho0, hb⟩; refine ⟨_, rfl, ?_⟩; have n0_ := Aside0.mk (Kd.R_lower ho0 (below_size (by repeat (first | (with_reducible first | exact HB.out | apply below_alloc | apply pw_below_drewN | apply below_drew1) | exact HB.out)))); have n1_ := Aside0.mk (below_step (by repeat (first | (with_reducible first | exact HB.out | apply below_alloc | apply pw_below_drewN | apply below_drew1) | exact HB.out)) hb); clear HB; have HO8005 := n0_; have HB := n1_; clear n0_ n1_; (try clear hb); (try clear hb2); (try clear hk); (try clear hi); (try clear ho0)) | ((with_reducible refine gate_callee (f := 27) rfl ?_); refine goesL_ (some 22) rfl rfl Tryd.func27 (by kernel_rfl) rfl #[.slice A0 l0.length c0] rfl (by (try simp only [List.map_toArray, List.map_cons, List.map_nil]); first | done | rfl | (simp only [List.length_drop, List.length_take]; rfl)) ?_; (with_reducible refine (tinderref19_Encode.calls k _ _ l0 t8006 t8007 _ ?side1 ?side2 A6.out).mono ?_); (case side1 => repeat (first | exact (Kd.C_below HR0.out HB.out) | (with_reducible refine Kd.C_alloc ?_ _) | (with_reducible refine Kd.C_drewN ?_ _) | (with_reducible refine Kd.C_drew ?_))); (case side2 => exact HC0.out); rintro e w16 ⟨v8008, rfl, ho0, hb⟩; refine ⟨_, rfl, ?_⟩; have n0_ := Aside0.mk (Kd.R_elder' (by (with_reducible repeat (first | apply Kd.R_alloc | apply Kd.R_drewN | apply Kd.R_drew)); exact HO8005.out) (Kd.R_base ho0) hb); have n1_ := Aside0.mk (Kd.R_lower (Kd.R_new' ho0 (Kd.R_lt (by (with_reducible repeat (first | apply Kd.R_alloc | apply Kd.R_drewN | apply Kd.R_drew)); exact HO8005.out))) (below_size (by repeat (first | (with_reducible first | exact HB.out | apply below_alloc | apply pw_below_drewN | apply below_drew1) | exact HB.out)))); have n2_ := Aside0.mk (below_step (by repeat (first | (with_reducible first | exact HB.out | apply below_alloc | apply pw_below_drewN | apply below_drew1) | exact HB.out)) hb); clear HO8005; clear HB; have HO8005 := n0_; have HO8009 := n1_; have HB := n2_; clear n0_ n1_ n2_; (try clear hb); (try clear hb2); (try clear hk); (try clear hi); (try clear ho0)) | ((with_reducible refine gate_callee (f := 28) rfl ?_); refine goesL_ (some 27) rfl rfl Tryd.func28 (by kernel_rfl) rfl #[.slice A1 l1.length c1] rfl (by (try simp only [List.map_toArray, List.map_cons, List.map_nil]); first | done | rfl | (simp only [List.length_drop, List.length_take]; rfl)) ?_; (with_reducible refine (vars_Decode.calls k _ _ l1 t8010 t8011 _ (Tabs.below ht (by repeat (first | (with_reducible first | exact HB.out | apply below_alloc | apply pw_below_drewN | apply below_drew1 | refine below_set ?_ (Aside0.out (by assumption))) | exact HB.out))) ?side1 ?side2 A7.out).mono ?_); (case side1 => repeat (first | exact (Kd.C_below HR1.out HB.out) | (with_reducible refine Kd.C_alloc ?_ _) | (with_reducible refine Kd.C_drewN ?_ _) | (with_reducible refine Kd.C_drew ?_))); (case side2 => exact HC1.out); rintro e w17 ⟨v8012, rfl, ho0, hb⟩; refine ⟨_, rfl, ?_⟩; have n0_ := Aside0.mk (Kd.R_below (by (with_reducible repeat (first | apply Kd.R_alloc | apply Kd.R_drewN | apply Kd.R_drew)); exact HO8005.out) hb); have n1_ := Aside0.mk (Kd.R_below (by (with_reducible repeat (first | apply Kd.R_alloc | apply Kd.R_drewN | apply Kd.R_drew)); exact HO8009.out) hb); have n2_ := Aside0.mk (Kd.R_lower ho0 (below_size (by repeat (first | (with_reducible first | exact HB.out | apply below_alloc | apply pw_below_drewN | apply below_drew1) | exact HB.out)))); have n3_ := Aside0.mk (below_step (by repeat (first | (with_reducible first | exact HB.out | apply below_alloc | apply pw_below_drewN | apply below_drew1) | exact HB.out)) hb); clear HO8005; clear HO8009; clear HB; have HO8005 := n0_; have HO8009 := n1_; have HO8013 := n2_; have HB := n3_; clear n0_ n1_ n2_ n3_; (try clear hb); (try clear hb2); (try clear hk); (try clear hi); (try clear ho0)) | ((with_reducible refine gate_callee (f := 29) rfl ?_); refine goesL_ (some 32) rfl rfl Tryd.func29 (by kernel_rfl) rfl #[.slice A1 l1.length c1] rfl (by (try simp only [List.map_toArray, List.map_cons, List.map_nil]); first | done | rfl | (simp only [List.length_drop, List.length_take]; rfl)) ?_; (with_reducible refine (tinderref19_Decode.calls k _ _ l1 t8014 t8015 _ ?side1 ?side2 A8.out).mono ?_); (case side1 => repeat (first | exact (Kd.C_below HR1.out HB.out) | (with_reducible refine Kd.C_alloc ?_ _) | (with_reducible refine Kd.C_drewN ?_ _) | (with_reducible refine Kd.C_drew ?_))); (case side2 => exact HC1.out); rintro e w18 ⟨v8016, rfl, ho0, hb⟩; refine ⟨_, rfl, ?_⟩; have n0_ := Aside0.mk (Kd.R_below (by (with_reducible repeat (first | apply Kd.R_alloc | apply Kd.R_drewN | apply Kd.R_drew)); exact HO8005.out) hb); have n1_ := Aside0.mk (Kd.R_below (by (with_reducible repeat (first | apply Kd.R_alloc | apply Kd.R_drewN | apply Kd.R_drew)); exact HO8009.out) hb); have n2_ := Aside0.mk (Kd.R_elder' (by (with_reducible repeat (first | apply Kd.R_alloc | apply Kd.R_drewN | apply Kd.R_drew)); exact HO8013.out) (Kd.R_base ho0) hb); have n3_ := Aside0.mk (Kd.R_lower (Kd.R_new' ho0 (Kd.R_lt (by (with_reducible repeat (first | apply Kd.R_alloc | apply Kd.R_drewN | apply Kd.R_drew)); exact HO8013.out))) (below_size (by repeat (first | (with_reducible first | exact HB.out | apply below_alloc | apply pw_below_drewN | apply below_drew1) | exact HB.out)))); have n4_ := Aside0.mk (below_step (by repeat (first | (with_reducible first | exact HB.out | apply below_alloc | apply pw_below_drewN | apply below_drew1) | exact HB.out)) hb); clear HO8005; clear HO8009; clear HO8013; clear HB; have HO8005 := n0_; have HO8009 := n1_; have HO8013 := n2_; have HO8017 := n3_; have HB := n4_; clear n0_ n1_ n2_ n3_ n4_; (try clear hb); (try clear hb2); (try clear hk); (try clear hi); (try clear ho0); obtain ⟨Ao19, co19, eo19⟩ := Kd.R_slice HO8005.out; subst eo19; obtain ⟨Ao20, co20, eo20⟩ := Kd.R_slice HO8009.out; subst eo20) | ((with_reducible refine gate_callee (f := 30) rfl ?_); refine goesL_ (some 37) rfl rfl Tryd.func30 (by kernel_rfl) rfl #[.slice Ao19 t8002.length co19, .slice Ao20 t8006.length co20] rfl (by (try simp only [List.map_toArray, List.map_cons, List.map_nil]); first | done | rfl | (simp only [List.length_drop, List.length_take]; rfl)) ?_; (with_reducible refine (tinderref04_Same.calls _ _ t8002 _ _ t8006 true _ ?side1 ?side2 ?side3 ?side4 A9.out).mono ?_); (case side1 => repeat (first | exact (Kd.R_reads' HO8005.out).2.2 | (with_reducible refine Kd.C_alloc ?_ _) | (with_reducible refine Kd.C_drewN ?_ _) | (with_reducible refine Kd.C_drew ?_))); (case side2 => exact (Kd.R_reads' HO8005.out).2.1); (case side3 => repeat (first | exact (Kd.R_reads' HO8009.out).2.2 | (with_reducible refine Kd.C_alloc ?_ _) | (with_reducible refine Kd.C_drewN ?_ _) | (with_reducible refine Kd.C_drew ?_))); (case side4 => exact (Kd.R_reads' HO8009.out).2.1); rintro e w' ⟨rfl, ⟨nd, rfl⟩⟩; refine ⟨_, rfl, ?_⟩; obtain ⟨Ao21, co21, eo21⟩ := Kd.R_slice HO8013.out; subst eo21; obtain ⟨Ao22, co22, eo22⟩ := Kd.R_slice HO8017.out; subst eo22) | (go_at_call 15; (with_reducible refine (tinderref19_Same.calls k _ _ t8010 _ _ t8014 true _ ?side1 ?side2 ?side3 ?side4 A12.out).mono ?_); (case side1 => repeat (first | exact (Kd.R_reads' HO8013.out).2.2 | (with_reducible refine Kd.C_alloc ?_ _) | (with_reducible refine Kd.C_drewN ?_ _) | (with_reducible refine Kd.C_drew ?_))); (case side2 => exact (Kd.R_reads' HO8013.out).2.1); (case side3 => repeat (first | exact (Kd.R_reads' HO8017.out).2.2 | (with_reducible refine Kd.C_alloc ?_ _) | (with_reducible refine Kd.C_drewN ?_ _) | (with_reducible refine Kd.C_drew ?_))); (case side4 => exact (Kd.R_reads' HO8017.out).2.1); rintro e w' ⟨rfl, ⟨nd, rfl⟩⟩))
          go_ret
          exact ⟨by first | rfl | (simp [errW_none, errW_some] <;> rfl) | (simp [*, errW_none, errW_some] <;> rfl), by repeat (first | (with_reducible first | exact HB.out | apply below_alloc | apply pw_below_drewN | apply below_drew1) | exact HB.out)⟩
        · replace c13 := Bool.eq_false_iff.mpr c13
          subst c13
          have H1 : (some false) = some r := by rw [if_neg (show ¬ (false = true) by decide)] at H; exact H
          clear H
          have H := H1
          clear H1
          obtain rfl := Option.some.inj H
          go_enter Tryd.func7, Tryd.ntmps7
          go_wp2_with (first | ((with_reducible refine gate_callee (f := 11) rfl ?_); refine goesL_ (some 13) rfl rfl Tryd.func11 (by kernel_rfl) rfl #[] rfl (by (try simp only [List.map_toArray, List.map_cons, List.map_nil]); first | done | rfl | (simp only [List.length_drop, List.length_take]; rfl)) ?_; (with_reducible refine (tinderlaw19_alive.calls  true _ ht A3.out).mono ?_); rintro e w23 ⟨rfl, hb⟩; refine ⟨_, rfl, ?_⟩; have n0_ := Aside0.mk (below_step (by repeat (first | (with_reducible first | exact HB.out | apply below_alloc | apply pw_below_drewN | apply below_drew1) | exact HB.out)) hb); clear HB; have HB := n0_; clear n0_; (try clear hb); (try clear hb2); (try clear hk); (try clear hi)) | ((with_reducible refine gate_callee (f := 26) rfl ?_); refine goesL_ (some 17) rfl rfl Tryd.func26 (by kernel_rfl) rfl #[.slice A0 l0.length c0] rfl (by (try simp only [List.map_toArray, List.map_cons, List.map_nil]); first | done | rfl | (simp only [List.length_drop, List.length_take]; rfl)) ?_; (with_reducible refine (vars_Encode.calls k _ _ l0 t8002 t8003 _ (Tabs.below ht (by repeat (first | (with_reducible first | exact HB.out | apply below_alloc | apply pw_below_drewN | apply below_drew1 | refine below_set ?_ (Aside0.out (by assumption))) | exact HB.out))) ?side1 ?side2 A5.out).mono ?_); (case side1 => repeat (first | exact (Kd.C_below HR0.out HB.out) | (with_reducible refine Kd.C_alloc ?_ _) | (with_reducible refine Kd.C_drewN ?_ _) | (with_reducible refine Kd.C_drew ?_))); (case side2 => exact HC0.out); rintro e w24 ⟨v8004, rfl, ho0, hb⟩; refine ⟨_, rfl, ?_⟩; have n0_ := Aside0.mk (Kd.R_lower ho0 (below_size (by repeat (first | (with_reducible first | exact HB.out | apply below_alloc | apply pw_below_drewN | apply below_drew1) | exact HB.out)))); have n1_ := Aside0.mk (below_step (by repeat (first | (with_reducible first | exact HB.out | apply below_alloc | apply pw_below_drewN | apply below_drew1) | exact HB.out)) hb); clear HB; have HO8005 := n0_; have HB := n1_; clear n0_ n1_; (try clear hb); (try clear hb2); (try clear hk); (try clear hi); (try clear ho0)) | ((with_reducible refine gate_callee (f := 27) rfl ?_); refine goesL_ (some 22) rfl rfl Tryd.func27 (by kernel_rfl) rfl #[.slice A0 l0.length c0] rfl (by (try simp only [List.map_toArray, List.map_cons, List.map_nil]); first | done | rfl | (simp only [List.length_drop, List.length_take]; rfl)) ?_; (with_reducible refine (tinderref19_Encode.calls k _ _ l0 t8006 t8007 _ ?side1 ?side2 A6.out).mono ?_); (case side1 => repeat (first | exact (Kd.C_below HR0.out HB.out) | (with_reducible refine Kd.C_alloc ?_ _) | (with_reducible refine Kd.C_drewN ?_ _) | (with_reducible refine Kd.C_drew ?_))); (case side2 => exact HC0.out); rintro e w25 ⟨v8008, rfl, ho0, hb⟩; refine ⟨_, rfl, ?_⟩; have n0_ := Aside0.mk (Kd.R_elder' (by (with_reducible repeat (first | apply Kd.R_alloc | apply Kd.R_drewN | apply Kd.R_drew)); exact HO8005.out) (Kd.R_base ho0) hb); have n1_ := Aside0.mk (Kd.R_lower (Kd.R_new' ho0 (Kd.R_lt (by (with_reducible repeat (first | apply Kd.R_alloc | apply Kd.R_drewN | apply Kd.R_drew)); exact HO8005.out))) (below_size (by repeat (first | (with_reducible first | exact HB.out | apply below_alloc | apply pw_below_drewN | apply below_drew1) | exact HB.out)))); have n2_ := Aside0.mk (below_step (by repeat (first | (with_reducible first | exact HB.out | apply below_alloc | apply pw_below_drewN | apply below_drew1) | exact HB.out)) hb); clear HO8005; clear HB; have HO8005 := n0_; have HO8009 := n1_; have HB := n2_; clear n0_ n1_ n2_; (try clear hb); (try clear hb2); (try clear hk); (try clear hi); (try clear ho0)) | ((with_reducible refine gate_callee (f := 28) rfl ?_); refine goesL_ (some 27) rfl rfl Tryd.func28 (by kernel_rfl) rfl #[.slice A1 l1.length c1] rfl (by (try simp only [List.map_toArray, List.map_cons, List.map_nil]); first | done | rfl | (simp only [List.length_drop, List.length_take]; rfl)) ?_; (with_reducible refine (vars_Decode.calls k _ _ l1 t8010 t8011 _ (Tabs.below ht (by repeat (first | (with_reducible first | exact HB.out | apply below_alloc | apply pw_below_drewN | apply below_drew1 | refine below_set ?_ (Aside0.out (by assumption))) | exact HB.out))) ?side1 ?side2 A7.out).mono ?_); (case side1 => repeat (first | exact (Kd.C_below HR1.out HB.out) | (with_reducible refine Kd.C_alloc ?_ _) | (with_reducible refine Kd.C_drewN ?_ _) | (with_reducible refine Kd.C_drew ?_))); (case side2 => exact HC1.out); rintro e w26 ⟨v8012, rfl, ho0, hb⟩; refine ⟨_, rfl, ?_⟩; have n0_ := Aside0.mk (Kd.R_below (by (with_reducible repeat (first | apply Kd.R_alloc | apply Kd.R_drewN | apply Kd.R_drew)); exact HO8005.out) hb); have n1_ := Aside0.mk (Kd.R_below (by (with_reducible repeat (first | apply Kd.R_alloc | apply Kd.R_drewN | apply Kd.R_drew)); exact HO8009.out) hb); have n2_ := Aside0.mk (Kd.R_lower ho0 (below_size (by repeat (first | (with_reducible first | exact HB.out | apply below_alloc | apply pw_below_drewN | apply below_drew1) | exact HB.out)))); have n3_ := Aside0.mk (below_step (by repeat (first | (with_reducible first | exact HB.out | apply below_alloc | apply pw_below_drewN | apply below_drew1) | exact HB.out)) hb); clear HO8005; clear HO8009; clear HB; have HO8005 := n0_; have HO8009 := n1_; have HO8013 := n2_; have HB := n3_; clear n0_ n1_ n2_ n3_; (try clear hb); (try clear hb2); (try clear hk); (try clear hi); (try clear ho0)) | ((with_reducible refine gate_callee (f := 29) rfl ?_); refine goesL_ (some 32) rfl rfl Tryd.func29 (by kernel_rfl) rfl #[.slice A1 l1.length c1] rfl (by (try simp only [List.map_toArray, List.map_cons, List.map_nil]); first | done | rfl | (simp only [List.length_drop, List.length_take]; rfl)) ?_; (with_reducible refine (tinderref19_Decode.calls k _ _ l1 t8014 t8015 _ ?side1 ?side2 A8.out).mono ?_); (case side1 => repeat (first | exact (Kd.C_below HR1.out HB.out) | (with_reducible refine Kd.C_alloc ?_ _) | (with_reducible refine Kd.C_drewN ?_ _) | (with_reducible refine Kd.C_drew ?_))); (case side2 => exact HC1.out); rintro e w27 ⟨v8016, rfl, ho0, hb⟩; refine ⟨_, rfl, ?_⟩; have n0_ := Aside0.mk (Kd.R_below (by (with_reducible repeat (first | apply Kd.R_alloc | apply Kd.R_drewN | apply Kd.R_drew)); exact HO8005.out) hb); have n1_ := Aside0.mk (Kd.R_below (by (with_reducible repeat (first | apply Kd.R_alloc | apply Kd.R_drewN | apply Kd.R_drew)); exact HO8009.out) hb); have n2_ := Aside0.mk (Kd.R_elder' (by (with_reducible repeat (first | apply Kd.R_alloc | apply Kd.R_drewN | apply Kd.R_drew)); exact HO8013.out) (Kd.R_base ho0) hb); have n3_ := Aside0.mk (Kd.R_lower (Kd.R_new' ho0 (Kd.R_lt (by (with_reducible repeat (first | apply Kd.R_alloc | apply Kd.R_drewN | apply Kd.R_drew)); exact HO8013.out))) (below_size (by repeat (first | (with_reducible first | exact HB.out | apply below_alloc | apply pw_below_drewN | apply below_drew1) | exact HB.out)))); have n4_ := Aside0.mk (below_step (by repeat (first | (with_reducible first | exact HB.out | apply below_alloc | apply pw_below_drewN | apply below_drew1) | exact HB.out)) hb); clear HO8005; clear HO8009; clear HO8013; clear HB; have HO8005 := n0_; have HO8009 := n1_; have HO8013 := n2_; have HO8017 := n3_; have HB := n4_; clear n0_ n1_ n2_ n3_ n4_; (try clear hb); (try clear hb2); (try clear hk); (try clear hi); (try clear ho0); obtain ⟨Ao28, co28, eo28⟩ := Kd.R_slice HO8005.out; subst eo28; obtain ⟨Ao29, co29, eo29⟩ := Kd.R_slice HO8009.out; subst eo29) | ((with_reducible refine gate_callee (f := 30) rfl ?_); refine goesL_ (some 37) rfl rfl Tryd.func30 (by kernel_rfl) rfl #[.slice Ao28 t8002.length co28, .slice Ao29 t8006.length co29] rfl (by (try simp only [List.map_toArray, List.map_cons, List.map_nil]); first | done | rfl | (simp only [List.length_drop, List.length_take]; rfl)) ?_; (with_reducible refine (tinderref04_Same.calls _ _ t8002 _ _ t8006 true _ ?side1 ?side2 ?side3 ?side4 A9.out).mono ?_); (case side1 => repeat (first | exact (Kd.R_reads' HO8005.out).2.2 | (with_reducible refine Kd.C_alloc ?_ _) | (with_reducible refine Kd.C_drewN ?_ _) | (with_reducible refine Kd.C_drew ?_))); (case side2 => exact (Kd.R_reads' HO8005.out).2.1); (case side3 => repeat (first | exact (Kd.R_reads' HO8009.out).2.2 | (with_reducible refine Kd.C_alloc ?_ _) | (with_reducible refine Kd.C_drewN ?_ _) | (with_reducible refine Kd.C_drew ?_))); (case side4 => exact (Kd.R_reads' HO8009.out).2.1); rintro e w' ⟨rfl, ⟨nd, rfl⟩⟩; refine ⟨_, rfl, ?_⟩; obtain ⟨Ao30, co30, eo30⟩ := Kd.R_slice HO8013.out; subst eo30; obtain ⟨Ao31, co31, eo31⟩ := Kd.R_slice HO8017.out; subst eo31) | (go_at_call 15; (with_reducible refine (tinderref19_Same.calls k _ _ t8010 _ _ t8014 false _ ?side1 ?side2 ?side3 ?side4 A12.out).mono ?_); (case side1 => repeat (first | exact (Kd.R_reads' HO8013.out).2.2 | (with_reducible refine Kd.C_alloc ?_ _) | (with_reducible refine Kd.C_drewN ?_ _) | (with_reducible refine Kd.C_drew ?_))); (case side2 => exact (Kd.R_reads' HO8013.out).2.1); (case side3 => repeat (first | exact (Kd.R_reads' HO8017.out).2.2 | (with_reducible refine Kd.C_alloc ?_ _) | (with_reducible refine Kd.C_drewN ?_ _) | (with_reducible refine Kd.C_drew ?_))); (case side4 => exact (Kd.R_reads' HO8017.out).2.1); rintro e w' ⟨rfl, ⟨nd, rfl⟩⟩))
          go_ret
          exact ⟨by first | rfl | (simp [errW_none, errW_some] <;> rfl) | (simp [*, errW_none, errW_some] <;> rfl), by repeat (first | (with_reducible first | exact HB.out | apply below_alloc | apply pw_below_drewN | apply below_drew1) | exact HB.out)⟩
      · rw [if_neg c11] at H
        have c11b0 : (t8003 == t8007) = false := beq_eq_false_iff_ne.mpr c11
        have c11b1 : (t8003 != t8007) = true := bne_iff_ne.mpr c11
        obtain rfl := Option.some.inj H
        go_enter Tryd.func7, Tryd.ntmps7
        go_wp2_with (first | ((with_reducible refine gate_callee (f := 11) rfl ?_); refine goesL_ (some 13) rfl rfl Tryd.func11 (by kernel_rfl) rfl #[] rfl (by (try simp only [List.map_toArray, List.map_cons, List.map_nil]); first | done | rfl | (simp only [List.length_drop, List.length_take]; rfl)) ?_; (with_reducible refine (tinderlaw19_alive.calls  true _ ht A3.out).mono ?_); rintro e w32 ⟨rfl, hb⟩; refine ⟨_, rfl, ?_⟩; have n0_ := Aside0.mk (below_step (by repeat (first | (with_reducible first | exact HB.out | apply below_alloc | apply pw_below_drewN | apply below_drew1) | exact HB.out)) hb); clear HB; have HB := n0_; clear n0_; (try clear hb); (try clear hb2); (try clear hk); (try clear hi)) | ((with_reducible refine gate_callee (f := 26) rfl ?_); refine goesL_ (some 17) rfl rfl Tryd.func26 (by kernel_rfl) rfl #[.slice A0 l0.length c0] rfl (by (try simp only [List.map_toArray, List.map_cons, List.map_nil]); first | done | rfl | (simp only [List.length_drop, List.length_take]; rfl)) ?_; (with_reducible refine (vars_Encode.calls k _ _ l0 t8002 t8003 _ (Tabs.below ht (by repeat (first | (with_reducible first | exact HB.out | apply below_alloc | apply pw_below_drewN | apply below_drew1 | refine below_set ?_ (Aside0.out (by assumption))) | exact HB.out))) ?side1 ?side2 A5.out).mono ?_); (case side1 => repeat (first | exact (Kd.C_below HR0.out HB.out) | (with_reducible refine Kd.C_alloc ?_ _) | (with_reducible refine Kd.C_drewN ?_ _) | (with_reducible refine Kd.C_drew ?_))); (case side2 => exact HC0.out); rintro e w33 ⟨v8004, rfl, ho0, hb⟩; refine ⟨_, rfl, ?_⟩; have n0_ := Aside0.mk (Kd.R_lower ho0 (below_size (by repeat (first | (with_reducible first | exact HB.out | apply below_alloc | apply pw_below_drewN | apply below_drew1) | exact HB.out)))); have n1_ := Aside0.mk (below_step (by repeat (first | (with_reducible first | exact HB.out | apply below_alloc | apply pw_below_drewN | apply below_drew1) | exact HB.out)) hb); clear HB; have HO8005 := n0_; have HB := n1_; clear n0_ n1_; (try clear hb); (try clear hb2); (try clear hk); (try clear hi); (try clear ho0)) | ((with_reducible refine gate_callee (f := 27) rfl ?_); refine goesL_ (some 22) rfl rfl Tryd.func27 (by kernel_rfl) rfl #[.slice A0 l0.length c0] rfl (by (try simp only [List.map_toArray, List.map_cons, List.map_nil]); first | done | rfl | (simp only [List.length_drop, List.length_take]; rfl)) ?_; (with_reducible refine (tinderref19_Encode.calls k _ _ l0 t8006 t8007 _ ?side1 ?side2 A6.out).mono ?_); (case side1 => repeat (first | exact (Kd.C_below HR0.out HB.out) | (with_reducible refine Kd.C_alloc ?_ _) | (with_reducible refine Kd.C_drewN ?_ _) | (with_reducible refine Kd.C_drew ?_))); (case side2 => exact HC0.out); rintro e w34 ⟨v8008, rfl, ho0, hb⟩; refine ⟨_, rfl, ?_⟩; have n0_ := Aside0.mk (Kd.R_elder' (by (with_reducible repeat (first | apply Kd.R_alloc | apply Kd.R_drewN | apply Kd.R_drew)); exact HO8005.out) (Kd.R_base ho0) hb); have n1_ := Aside0.mk (Kd.R_lower (Kd.R_new' ho0 (Kd.R_lt (by (with_reducible repeat (first | apply Kd.R_alloc | apply Kd.R_drewN | apply Kd.R_drew)); exact HO8005.out))) (below_size (by repeat (first | (with_reducible first | exact HB.out | apply below_alloc | apply pw_below_drewN | apply below_drew1) | exact HB.out)))); have n2_ := Aside0.mk (below_step (by repeat (first | (with_reducible first | exact HB.out | apply below_alloc | apply pw_below_drewN | apply below_drew1) | exact HB.out)) hb); clear HO8005; clear HB; have HO8005 := n0_; have HO8009 := n1_; have HB := n2_; clear n0_ n1_ n2_; (try clear hb); (try clear hb2); (try clear hk); (try clear hi); (try clear ho0)) | ((with_reducible refine gate_callee (f := 28) rfl ?_); refine goesL_ (some 27) rfl rfl Tryd.func28 (by kernel_rfl) rfl #[.slice A1 l1.length c1] rfl (by (try simp only [List.map_toArray, List.map_cons, List.map_nil]); first | done | rfl | (simp only [List.length_drop, List.length_take]; rfl)) ?_; (with_reducible refine (vars_Decode.calls k _ _ l1 t8010 t8011 _ (Tabs.below ht (by repeat (first | (with_reducible first | exact HB.out | apply below_alloc | apply pw_below_drewN | apply below_drew1 | refine below_set ?_ (Aside0.out (by assumption))) | exact HB.out))) ?side1 ?side2 A7.out).mono ?_); (case side1 => repeat (first | exact (Kd.C_below HR1.out HB.out) | (with_reducible refine Kd.C_alloc ?_ _) | (with_reducible refine Kd.C_drewN ?_ _) | (with_reducible refine Kd.C_drew ?_))); (case side2 => exact HC1.out); rintro e w35 ⟨v8012, rfl, ho0, hb⟩; refine ⟨_, rfl, ?_⟩; have n0_ := Aside0.mk (Kd.R_below (by (with_reducible repeat (first | apply Kd.R_alloc | apply Kd.R_drewN | apply Kd.R_drew)); exact HO8005.out) hb); have n1_ := Aside0.mk (Kd.R_below (by (with_reducible repeat (first | apply Kd.R_alloc | apply Kd.R_drewN | apply Kd.R_drew)); exact HO8009.out) hb); have n2_ := Aside0.mk (Kd.R_lower ho0 (below_size (by repeat (first | (with_reducible first | exact HB.out | apply below_alloc | apply pw_below_drewN | apply below_drew1) | exact HB.out)))); have n3_ := Aside0.mk (below_step (by repeat (first | (with_reducible first | exact HB.out | apply below_alloc | apply pw_below_drewN | apply below_drew1) | exact HB.out)) hb); clear HO8005; clear HO8009; clear HB; have HO8005 := n0_; have HO8009 := n1_; have HO8013 := n2_; have HB := n3_; clear n0_ n1_ n2_ n3_; (try clear hb); (try clear hb2); (try clear hk); (try clear hi); (try clear ho0)) | ((with_reducible refine gate_callee (f := 29) rfl ?_); refine goesL_ (some 32) rfl rfl Tryd.func29 (by kernel_rfl) rfl #[.slice A1 l1.length c1] rfl (by (try simp only [List.map_toArray, List.map_cons, List.map_nil]); first | done | rfl | (simp only [List.length_drop, List.length_take]; rfl)) ?_; (with_reducible refine (tinderref19_Decode.calls k _ _ l1 t8014 t8015 _ ?side1 ?side2 A8.out).mono ?_); (case side1 => repeat (first | exact (Kd.C_below HR1.out HB.out) | (with_reducible refine Kd.C_alloc ?_ _) | (with_reducible refine Kd.C_drewN ?_ _) | (with_reducible refine Kd.C_drew ?_))); (case side2 => exact HC1.out); rintro e w36 ⟨v8016, rfl, ho0, hb⟩; refine ⟨_, rfl, ?_⟩; have n0_ := Aside0.mk (Kd.R_below (by (with_reducible repeat (first | apply Kd.R_alloc | apply Kd.R_drewN | apply Kd.R_drew)); exact HO8005.out) hb); have n1_ := Aside0.mk (Kd.R_below (by (with_reducible repeat (first | apply Kd.R_alloc | apply Kd.R_drewN | apply Kd.R_drew)); exact HO8009.out) hb); have n2_ := Aside0.mk (Kd.R_elder' (by (with_reducible repeat (first | apply Kd.R_alloc | apply Kd.R_drewN | apply Kd.R_drew)); exact HO8013.out) (Kd.R_base ho0) hb); have n3_ := Aside0.mk (Kd.R_lower (Kd.R_new' ho0 (Kd.R_lt (by (with_reducible repeat (first | apply Kd.R_alloc | apply Kd.R_drewN | apply Kd.R_drew)); exact HO8013.out))) (below_size (by repeat (first | (with_reducible first | exact HB.out | apply below_alloc | apply pw_below_drewN | apply below_drew1) | exact HB.out)))); have n4_ := Aside0.mk (below_step (by repeat (first | (with_reducible first | exact HB.out | apply below_alloc | apply pw_below_drewN | apply below_drew1) | exact HB.out)) hb); clear HO8005; clear HO8009; clear HO8013; clear HB; have HO8005 := n0_; have HO8009 := n1_; have HO8013 := n2_; have HO8017 := n3_; have HB := n4_; clear n0_ n1_ n2_ n3_ n4_; (try clear hb); (try clear hb2); (try clear hk); (try clear hi); (try clear ho0); obtain ⟨Ao37, co37, eo37⟩ := Kd.R_slice HO8005.out; subst eo37; obtain ⟨Ao38, co38, eo38⟩ := Kd.R_slice HO8009.out; subst eo38) | ((with_reducible refine gate_callee (f := 30) rfl ?_); refine goesL_ (some 37) rfl rfl Tryd.func30 (by kernel_rfl) rfl #[.slice Ao37 t8002.length co37, .slice Ao38 t8006.length co38] rfl (by (try simp only [List.map_toArray, List.map_cons, List.map_nil]); first | done | rfl | (simp only [List.length_drop, List.length_take]; rfl)) ?_; (with_reducible refine (tinderref04_Same.calls _ _ t8002 _ _ t8006 true _ ?side1 ?side2 ?side3 ?side4 A9.out).mono ?_); (case side1 => repeat (first | exact (Kd.R_reads' HO8005.out).2.2 | (with_reducible refine Kd.C_alloc ?_ _) | (with_reducible refine Kd.C_drewN ?_ _) | (with_reducible refine Kd.C_drew ?_))); (case side2 => exact (Kd.R_reads' HO8005.out).2.1); (case side3 => repeat (first | exact (Kd.R_reads' HO8009.out).2.2 | (with_reducible refine Kd.C_alloc ?_ _) | (with_reducible refine Kd.C_drewN ?_ _) | (with_reducible refine Kd.C_drew ?_))); (case side4 => exact (Kd.R_reads' HO8009.out).2.1); rintro e w' ⟨rfl, ⟨nd, rfl⟩⟩; refine ⟨_, rfl, ?_⟩))
        go_ret
        exact ⟨by first | rfl | (simp [errW_none, errW_some] <;> rfl) | (simp [*, errW_none, errW_some] <;> rfl), by repeat (first | (with_reducible first | exact HB.out | apply below_alloc | apply pw_below_drewN | apply below_drew1) | exact HB.out)⟩
    · replace c10 := Bool.eq_false_iff.mpr c10
      subst c10
      have H1 : (some false) = some r := by rw [if_neg (show ¬ (false = true) by decide)] at H; exact H
      clear H
      have H := H1
      clear H1
      obtain rfl := Option.some.inj H
      go_enter Tryd.func7, Tryd.ntmps7
      go_wp2_with (first | ((with_reducible refine gate_callee (f := 11) rfl ?_); refine goesL_ (some 13) rfl rfl Tryd.func11 (by kernel_rfl) rfl #[] rfl (by (try simp only [List.map_toArray, List.map_cons, List.map_nil]); first | done | rfl | (simp only [List.length_drop, List.length_take]; rfl)) ?_; (with_reducible refine (tinderlaw19_alive.calls  true _ ht A3.out).mono ?_); rintro e w39 ⟨rfl, hb⟩; refine ⟨_, rfl, ?_⟩; have n0_ := Aside0.mk (below_step (by repeat (first | (with_reducible first | exact HB.out | apply below_alloc | apply pw_below_drewN | apply below_drew1) | exact HB.out)) hb); clear HB; have HB := n0_; clear n0_; (try clear hb); (try clear hb2); (try clear hk); (try clear hi)) | ((with_reducible refine gate_callee (f := 26) rfl ?_); refine goesL_ (some 17) rfl rfl Tryd.func26 (by kernel_rfl) rfl #[.slice A0 l0.length c0] rfl (by (try simp only [List.map_toArray, List.map_cons, List.map_nil]); first | done | rfl | (simp only [List.length_drop, List.length_take]; rfl)) ?_; (with_reducible refine (vars_Encode.calls k _ _ l0 t8002 t8003 _ (Tabs.below ht (by repeat (first | (with_reducible first | exact HB.out | apply below_alloc | apply pw_below_drewN | apply below_drew1 | refine below_set ?_ (Aside0.out (by assumption))) | exact HB.out))) ?side1 ?side2 A5.out).mono ?_); (case side1 => repeat (first | exact (Kd.C_below HR0.out HB.out) | (with_reducible refine Kd.C_alloc ?_ _) | (with_reducible refine Kd.C_drewN ?_ _) | (with_reducible refine Kd.C_drew ?_))); (case side2 => exact HC0.out); rintro e w40 ⟨v8004, rfl, ho0, hb⟩; refine ⟨_, rfl, ?_⟩; have n0_ := Aside0.mk (Kd.R_lower ho0 (below_size (by repeat (first | (with_reducible first | exact HB.out | apply below_alloc | apply pw_below_drewN | apply below_drew1) | exact HB.out)))); have n1_ := Aside0.mk (below_step (by repeat (first | (with_reducible first | exact HB.out | apply below_alloc | apply pw_below_drewN | apply below_drew1) | exact HB.out)) hb); clear HB; have HO8005 := n0_; have HB := n1_; clear n0_ n1_; (try clear hb); (try clear hb2); (try clear hk); (try clear hi); (try clear ho0)) | ((with_reducible refine gate_callee (f := 27) rfl ?_); refine goesL_ (some 22) rfl rfl Tryd.func27 (by kernel_rfl) rfl #[.slice A0 l0.length c0] rfl (by (try simp only [List.map_toArray, List.map_cons, List.map_nil]); first | done | rfl | (simp only [List.length_drop, List.length_take]; rfl)) ?_; (with_reducible refine (tinderref19_Encode.calls k _ _ l0 t8006 t8007 _ ?side1 ?side2 A6.out).mono ?_); (case side1 => repeat (first | exact (Kd.C_below HR0.out HB.out) | (with_reducible refine Kd.C_alloc ?_ _) | (with_reducible refine Kd.C_drewN ?_ _) | (with_reducible refine Kd.C_drew ?_))); (case side2 => exact HC0.out); rintro e w41 ⟨v8008, rfl, ho0, hb⟩; refine ⟨_, rfl, ?_⟩; have n0_ := Aside0.mk (Kd.R_elder' (by (with_reducible repeat (first | apply Kd.R_alloc | apply Kd.R_drewN | apply Kd.R_drew)); exact HO8005.out) (Kd.R_base ho0) hb); have n1_ := Aside0.mk (Kd.R_lower (Kd.R_new' ho0 (Kd.R_lt (by (with_reducible repeat (first | apply Kd.R_alloc | apply Kd.R_drewN | apply Kd.R_drew)); exact HO8005.out))) (below_size (by repeat (first | (with_reducible first | exact HB.out | apply below_alloc | apply pw_below_drewN | apply below_drew1) | exact HB.out)))); have n2_ := Aside0.mk (below_step (by repeat (first | (with_reducible first | exact HB.out | apply below_alloc | apply pw_below_drewN | apply below_drew1) | exact HB.out)) hb); clear HO8005; clear HB; have HO8005 := n0_; have HO8009 := n1_; have HB := n2_; clear n0_ n1_ n2_; (try clear hb); (try clear hb2); (try clear hk); (try clear hi); (try clear ho0)) | ((with_reducible refine gate_callee (f := 28) rfl ?_); refine goesL_ (some 27) rfl rfl Tryd.func28 (by kernel_rfl) rfl #[.slice A1 l1.length c1] rfl (by (try simp only [List.map_toArray, List.map_cons, List.map_nil]); first | done | rfl | (simp only [List.length_drop, List.length_take]; rfl)) ?_; (with_reducible refine (vars_Decode.calls k _ _ l1 t8010 t8011 _ (Tabs.below ht (by repeat (first | (with_reducible first | exact HB.out | apply below_alloc | apply pw_below_drewN | apply below_drew1 | refine below_set ?_ (Aside0.out (by assumption))) | exact HB.out))) ?side1 ?side2 A7.out).mono ?_); (case side1 => repeat (first | exact (Kd.C_below HR1.out HB.out) | (with_reducible refine Kd.C_alloc ?_ _) | (with_reducible refine Kd.C_drewN ?_ _) | (with_reducible refine Kd.C_drew ?_))); (case side2 => exact HC1.out); rintro e w42 ⟨v8012, rfl, ho0, hb⟩; refine ⟨_, rfl, ?_⟩; have n0_ := Aside0.mk (Kd.R_below (by (with_reducible repeat (first | apply Kd.R_alloc | apply Kd.R_drewN | apply Kd.R_drew)); exact HO8005.out) hb); have n1_ := Aside0.mk (Kd.R_below (by (with_reducible repeat (first | apply Kd.R_alloc | apply Kd.R_drewN | apply Kd.R_drew)); exact HO8009.out) hb); have n2_ := Aside0.mk (Kd.R_lower ho0 (below_size (by repeat (first | (with_reducible first | exact HB.out | apply below_alloc | apply pw_below_drewN | apply below_drew1) | exact HB.out)))); have n3_ := Aside0.mk (below_step (by repeat (first | (with_reducible first | exact HB.out | apply below_alloc | apply pw_below_drewN | apply below_drew1) | exact HB.out)) hb); clear HO8005; clear HO8009; clear HB; have HO8005 := n0_; have HO8009 := n1_; have HO8013 := n2_; have HB := n3_; clear n0_ n1_ n2_ n3_; (try clear hb); (try clear hb2); (try clear hk); (try clear hi); (try clear ho0)) | ((with_reducible refine gate_callee (f := 29) rfl ?_); refine goesL_ (some 32) rfl rfl Tryd.func29 (by kernel_rfl) rfl #[.slice A1 l1.length c1] rfl (by (try simp only [List.map_toArray, List.map_cons, List.map_nil]); first | done | rfl | (simp only [List.length_drop, List.length_take]; rfl)) ?_; (with_reducible refine (tinderref19_Decode.calls k _ _ l1 t8014 t8015 _ ?side1 ?side2 A8.out).mono ?_); (case side1 => repeat (first | exact (Kd.C_below HR1.out HB.out) | (with_reducible refine Kd.C_alloc ?_ _) | (with_reducible refine Kd.C_drewN ?_ _) | (with_reducible refine Kd.C_drew ?_))); (case side2 => exact HC1.out); rintro e w43 ⟨v8016, rfl, ho0, hb⟩; refine ⟨_, rfl, ?_⟩; have n0_ := Aside0.mk (Kd.R_below (by (with_reducible repeat (first | apply Kd.R_alloc | apply Kd.R_drewN | apply Kd.R_drew)); exact HO8005.out) hb); have n1_ := Aside0.mk (Kd.R_below (by (with_reducible repeat (first | apply Kd.R_alloc | apply Kd.R_drewN | apply Kd.R_drew)); exact HO8009.out) hb); have n2_ := Aside0.mk (Kd.R_elder' (by (with_reducible repeat (first | apply Kd.R_alloc | apply Kd.R_drewN | apply Kd.R_drew)); exact HO8013.out) (Kd.R_base ho0) hb); have n3_ := Aside0.mk (Kd.R_lower (Kd.R_new' ho0 (Kd.R_lt (by (with_reducible repeat (first | apply Kd.R_alloc | apply Kd.R_drewN | apply Kd.R_drew)); exact HO8013.out))) (below_size (by repeat (first | (with_reducible first | exact HB.out | apply below_alloc | apply pw_below_drewN | apply below_drew1) | exact HB.out)))); have n4_ := Aside0.mk (below_step (by repeat (first | (with_reducible first | exact HB.out | apply below_alloc | apply pw_below_drewN | apply below_drew1) | exact HB.out)) hb); clear HO8005; clear HO8009; clear HO8013; clear HB; have HO8005 := n0_; have HO8009 := n1_; have HO8013 := n2_; have HO8017 := n3_; have HB := n4_; clear n0_ n1_ n2_ n3_ n4_; (try clear hb); (try clear hb2); (try clear hk); (try clear hi); (try clear ho0); obtain ⟨Ao44, co44, eo44⟩ := Kd.R_slice HO8005.out; subst eo44; obtain ⟨Ao45, co45, eo45⟩ := Kd.R_slice HO8009.out; subst eo45) | ((with_reducible refine gate_callee (f := 30) rfl ?_); refine goesL_ (some 37) rfl rfl Tryd.func30 (by kernel_rfl) rfl #[.slice Ao44 t8002.length co44, .slice Ao45 t8006.length co45] rfl (by (try simp only [List.map_toArray, List.map_cons, List.map_nil]); first | done | rfl | (simp only [List.length_drop, List.length_take]; rfl)) ?_; (with_reducible refine (tinderref04_Same.calls _ _ t8002 _ _ t8006 false _ ?side1 ?side2 ?side3 ?side4 A9.out).mono ?_); (case side1 => repeat (first | exact (Kd.R_reads' HO8005.out).2.2 | (with_reducible refine Kd.C_alloc ?_ _) | (with_reducible refine Kd.C_drewN ?_ _) | (with_reducible refine Kd.C_drew ?_))); (case side2 => exact (Kd.R_reads' HO8005.out).2.1); (case side3 => repeat (first | exact (Kd.R_reads' HO8009.out).2.2 | (with_reducible refine Kd.C_alloc ?_ _) | (with_reducible refine Kd.C_drewN ?_ _) | (with_reducible refine Kd.C_drew ?_))); (case side4 => exact (Kd.R_reads' HO8009.out).2.1); rintro e w' ⟨rfl, ⟨nd, rfl⟩⟩; refine ⟨_, rfl, ?_⟩))
      go_ret
      exact ⟨by first | rfl | (simp [errW_none, errW_some] <;> rfl) | (simp [*, errW_none, errW_some] <;> rfl), by repeat (first | (with_reducible first | exact HB.out | apply below_alloc | apply pw_below_drewN | apply below_drew1) | exact HB.out)⟩
  · replace c4 := Bool.eq_false_iff.mpr c4
    subst c4
    have H1 : (some false) = some r := by rw [if_neg (show ¬ (false = true) by decide)] at H; exact H
    clear H
    have H := H1
    clear H1
    obtain rfl := Option.some.inj H
    go_enter Tryd.func7, Tryd.ntmps7
    go_wp2_with (first | ((with_reducible refine gate_callee (f := 11) rfl ?_); refine goesL_ (some 13) rfl rfl Tryd.func11 (by kernel_rfl) rfl #[] rfl (by (try simp only [List.map_toArray, List.map_cons, List.map_nil]); first | done | rfl | (simp only [List.length_drop, List.length_take]; rfl)) ?_; (with_reducible refine (tinderlaw19_alive.calls  false _ ht A3.out).mono ?_); rintro e w46 ⟨rfl, hb⟩; refine ⟨_, rfl, ?_⟩; have n0_ := Aside0.mk (below_step (by repeat (first | (with_reducible first | exact HB.out | apply below_alloc | apply pw_below_drewN | apply below_drew1) | exact HB.out)) hb); clear HB; have HB := n0_; clear n0_; (try clear hb); (try clear hb2); (try clear hk); (try clear hi)))
    go_ret
    exact ⟨by first | rfl | (simp [errW_none, errW_some] <;> rfl) | (simp [*, errW_none, errW_some] <;> rfl), by repeat (first | (with_reducible first | exact HB.out | apply below_alloc | apply pw_below_drewN | apply below_drew1) | exact HB.out)⟩

end Go.Proofs.YtefhngadeimklaaDoor.Q
end
