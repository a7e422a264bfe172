/- What Go functions of this program answer, as plain Lean functions, and that the calls answer so, wherever the plain function has an answer. Written by a program of this claim's own out of the translation. -/
import Derived.Test.YtlpagilpbdiniaaQ0
import Derived.Test.YtlpagilpbdiniaaQTinderref04Copy
namespace Go.Proofs.Ytlpagilpbdiniaa.Q
open Go.RowKit Go.Proofs.YtlpagilpbdiniaaW.PrintWords Go.Proofs.YtlpagilpbdiniaaW.PrintLast Go.Proofs.YtlpagilpbdiniaaW.PrintMore
set_option linter.unusedVariables false
set_option linter.unusedSimpArgs false

attribute [local go_sem] max2_int min2_int max_two min_two max_three min_three max_four min_four
/-! ### tinderref18_Apply: function 21 -/
mutual
def tinderref18_Apply.l0 : Nat → List (S62) → Int → List Int → Int → Option (List Int)
  | 0, _, _, _, _ => none
  | k + 1, x1, x2, x7, x8 => if x8 < (x1.length : Int) then (tinderref18_Apply.j1 k x1 x2 x7 x8 (decide (x8 < x2))) else (tinderref18_Apply.j1 k x1 x2 x7 x8 false)
def tinderref18_Apply.j1 : Nat → List (S62) → Int → List Int → Int → Bool → Option (List Int)
  | 0, _, _, _, _, _ => none
  | k + 1, x1, x2, x7, x8, x19 => if x19 = true then (if 0 ≤ x8 then (if x8 < (x1.length : Int) then (if ((rd_T62 x1 x8).f0) ≥ 0 then (if ((rd_T62 x1 x8).f0) < (x7.length : Int) then (if 0 ≤ ((rd_T62 x1 x8).f0) then (tinderref18_Apply.l0 k x1 x2 (x7.set (((rd_T62 x1 x8).f0) : Int).toNat ((rd_T62 x1 x8).f1)) (wrap64 (x8 + 1))) else (none)) else (tinderref18_Apply.l0 k x1 x2 x7 (wrap64 (x8 + 1)))) else (tinderref18_Apply.l0 k x1 x2 x7 (wrap64 (x8 + 1)))) else (none)) else (none)) else (some x7)
end
def tinderref18_Apply.f (k : Nat) (l0 : List Int) (l1 : List (S62)) (a2 : Int) : Option (List Int) := (tinderref04_Copy.f l0).bind fun t22001 => (tinderref18_Apply.l0 k l1 a2 t22001 0)
theorem tinderref18_Apply.mono_l : ∀ k, (∀ y0 y1 y2 y3, LeO (tinderref18_Apply.l0 k y0 y1 y2 y3) (tinderref18_Apply.l0 (k + 1) y0 y1 y2 y3)) ∧ (∀ y0 y1 y2 y3 y4, LeO (tinderref18_Apply.j1 k y0 y1 y2 y3 y4) (tinderref18_Apply.j1 (k + 1) y0 y1 y2 y3 y4))
  | 0 => ⟨fun _ _ _ _ r h => by simp [tinderref18_Apply.l0] at h, fun _ _ _ _ _ r h => by simp [tinderref18_Apply.j1] at h⟩
  | k + 1 => by
    obtain ⟨ih0, ih1⟩ := tinderref18_Apply.mono_l k
    refine ⟨?_, ?_⟩
    · intro y0 y1 y2 y3
      unfold tinderref18_Apply.l0
      repeat' first
      | (with_reducible exact ih0 _ _ _ _)
      | (with_reducible exact ih1 _ _ _ _ _)
      | (with_reducible exact LeO.refl _)
      | (with_reducible exact LeO.none _)
      | (with_reducible refine LeO.ite ?_ ?_)
      | (with_reducible refine LeO.bind ?_ (fun _ => ?_))
      | exact ih0 _ _ _ _
      | exact ih1 _ _ _ _ _
      | exact LeO.none _
      | refine LeO.ite ?_ ?_
      | refine LeO.bind ?_ (fun _ => ?_)
    · intro y0 y1 y2 y3 y4
      unfold tinderref18_Apply.j1
      repeat' first
      | (with_reducible exact ih0 _ _ _ _)
      | (with_reducible exact ih1 _ _ _ _ _)
      | (with_reducible exact LeO.refl _)
      | (with_reducible exact LeO.none _)
      | (with_reducible refine LeO.ite ?_ ?_)
      | (with_reducible refine LeO.bind ?_ (fun _ => ?_))
      | exact ih0 _ _ _ _
      | exact ih1 _ _ _ _ _
      | exact LeO.none _
      | refine LeO.ite ?_ ?_
      | refine LeO.bind ?_ (fun _ => ?_)
theorem tinderref18_Apply.mono : ∀ a0 a1 a2 k, LeO (tinderref18_Apply.f k a0 a1 a2) (tinderref18_Apply.f (k + 1) a0 a1 a2) := by
  intro a0 a1 a2 k
  obtain ⟨ih0, ih1⟩ := tinderref18_Apply.mono_l k
  unfold tinderref18_Apply.f
  repeat' first
      | (with_reducible exact ih0 _ _ _ _)
      | (with_reducible exact ih1 _ _ _ _ _)
      | (with_reducible exact LeO.refl _)
      | (with_reducible exact LeO.none _)
      | (with_reducible refine LeO.ite ?_ ?_)
      | (with_reducible refine LeO.bind ?_ (fun _ => ?_))
      | exact ih0 _ _ _ _
      | exact ih1 _ _ _ _ _
      | exact LeO.none _
      | refine LeO.ite ?_ ?_
      | refine LeO.bind ?_ (fun _ => ?_)
def tinderref18_Apply.T6 : Bool × List (List Nat × List Nat) := (true, [([], []), ([], []), ([], []), ([1, 2], [1, 2]), ([3], [3]), ([4], [4]), ([], []), ([], []), ([6, 7], [6, 7]), ([8], [8]), ([9], [9]), ([0, 5, 0, 1, 2, 3, 4, 5, 6, 7, 8, 9, 10], [0, 5]), ([11, 10, 0, 1, 2, 3, 4, 5, 6, 7, 8, 9, 10], [10, 11])])
def tinderref18_Apply.B6 : List Nat := [0, 0, 0, 6, 14, 30, 0, 0, 192, 448, 960, 2047, 4095]
theorem tinderref18_Apply.tab6 : rtab .any (opsOf Try.f21 6) = tinderref18_Apply.T6 := by kernel_rfl
theorem tinderref18_Apply.bits6 : waitsOk tinderref18_Apply.T6.2 tinderref18_Apply.B6 = true := by kernel_rfl
set_option maxHeartbeats 8000000 in
set_option maxRecDepth 100000 in
theorem tinderref18_Apply.calls (k : Nat) (A0 : Option Addr) (c0 : Nat) (l0 : List Int) (A1 : Option Addr) (c1 : Nat) (l1 : List (S62)) (a2 : Int) (r : List Int) (w : World) (hr0 : Kd.C (Kd.int .u8) w A0 l0.length l0) (hc0 : l0.length ≤ c0) (hr1 : Kd.C k62 w A1 l1.length l1) (hc1 : l1.length ≤ c1) (h : tinderref18_Apply.f k l0 l1 a2 = some r) :
    Calls Try.prog 21 #[.slice A0 l0.length c0, .slice A1 l1.length c1, .int .i64 a2] w fun e w' => ∃ v0_ : Value, e = .returned (v0_) ∧ Kd.R (Kd.int .u8) 5 w' w.heap.size (fun _ => True) v0_ r ∧ Below w.heap.size w w' := by
  have HR0 := Aside0.mk hr0
  have HC0 := Aside0.mk hc0
  clear hr0 hc0
  have HR1 := Aside0.mk hr1
  have HC1 := Aside0.mk hc1
  clear hr1 hc1
  have HB := Aside0.mk (Below.refl w.heap.size w)
  have H : ((tinderref04_Copy.f l0).bind fun t22001 => (tinderref18_Apply.l0 k l1 a2 t22001 0)) = some r := h
  clear h
  replace H := Option.bind_eq_some_iff.mp H
  obtain ⟨t22001, A40, H⟩ := H
  replace H : (tinderref18_Apply.l0 k l1 a2 t22001 0) = some r := H
  have A4 := Aside0.mk A40
  clear A40
  have H' := Aside0.mk H
  clear H
  go_enter Try.func21, Try.ntmps21
  go_wp2_with (first | ((with_reducible refine gate_callee (f := 13) rfl ?_); refine goesL_ (some 10) rfl rfl Try.func13 (by kernel_rfl) rfl #[.slice A0 l0.length c0] rfl (by (try simp only [List.map_toArray, List.map_cons, List.map_nil]); first | done | rfl | (simp only [List.length_drop, List.length_take]; rfl)) ?_; (with_reducible refine (tinderref04_Copy.calls _ _ l0 t22001 _ ?side1 ?side2 A4.out).mono ?_); (case side1 => repeat (first | exact HR0.out | (with_reducible refine Kd.C_alloc ?_ _) | (with_reducible refine Kd.C_drewN ?_ _) | (with_reducible refine Kd.C_drew ?_))); (case side2 => exact HC0.out); rintro e w5 ⟨v22002, rfl, ho0, hb⟩; refine ⟨_, rfl, ?_⟩; have n0_ := Aside0.mk (Kd.R_lower ho0 (below_size (by repeat (first | (with_reducible first | exact HB.out | apply below_alloc | apply pw_below_drewN | apply below_drew1) | exact HB.out)))); have n1_ := Aside0.mk (below_step (by repeat (first | (with_reducible first | exact HB.out | apply below_alloc | apply pw_below_drewN | apply below_drew1) | exact HB.out)) hb); clear HB; have HO22003 := n0_; have HB := n1_; clear n0_ n1_; (try clear hb); (try clear hb2); (try clear hk); (try clear hi); (try clear ho0)))
  go_loopg [8] k (fun kq v8 w' => ∃ (x7_1 : List Int) (x8_1 : Int), v8 = .int .i64 x8_1 ∧ Aside0 (tinderref18_Apply.l0 kq l1 a2 x7_1 x8_1 = some r) ∧ Aside0 (kq ≤ k) ∧ Aside0 (Kd.R (Kd.int .u8) 5 w' w.heap.size (fun _ => True) v22002 x7_1) ∧ Aside0 (Below w.heap.size w w'))
  case atStart => exact ⟨(t22001), (0), (by first | rfl | (simp; done) | (simp [*]; done)), H', ⟨Nat.le_refl _⟩, ⟨by (with_reducible repeat (first | apply Kd.R_alloc | apply Kd.R_drewN | apply Kd.R_drew)); exact HO22003.out⟩, ⟨by repeat (first | (with_reducible first | exact HB.out | apply below_alloc | apply pw_below_drewN | apply below_drew1) | exact HB.out)⟩⟩
  case round =>
    clear H'
    try clear c1
    try clear c2
    try clear p2
    obtain ⟨x7_1, x8_1, rfl, HA, HK1, HO_7, HB⟩ := hrel
    cases gk with
    | zero => exact absurd HA.out (by simp [tinderref18_Apply.l0])
    | succ k1 =>
      have H := HA.out
      clear HA
      simp only [tinderref18_Apply.l0] at H
      have HC6 := Aside0.mk H
      clear H
      go_upto_region 3 with (fail)
      go_cut [19] (fun v19 wc => ∃ (kq : Nat) (x19_5 : Bool), v19 = .bool x19_5 ∧ Aside0 (tinderref18_Apply.j1 kq l1 a2 x7_1 x8_1 x19_5 = some r) ∧ Aside0 (kq ≤ k1) ∧ Aside0 (Kd.R (Kd.int .u8) 5 wc w.heap.size (fun _ => True) v22002 x7_1) ∧ Aside0 (Below w.heap.size w wc))
      case first =>
        have H := HC6.out
        clear HC6
        by_cases c7 : x8_1 < (l1.length : Int)
        · rw [if_pos c7] at H
          have c7b0 : decide (x8_1 < (l1.length : Int)) = true := decide_eq_true c7
          clear c7
          (first | rw [c7b0] | (simp only [i64_w, i32_w]; rw [c7b0]) | skip)
          have H' := Aside0.mk H
          clear H
          go_wp2
          go_meet
          case rel => exact ⟨_, (decide (x8_1 < a2)), (by first | rfl | (simp; done) | (simp [*]; done)), H', ⟨by have := HK1.out; first | omega | exact Nat.le_refl _⟩, ⟨by (with_reducible repeat (first | apply Kd.R_alloc | apply Kd.R_drewN | apply Kd.R_drew)); exact HO_7.out⟩, ⟨by repeat (first | (with_reducible first | exact HB.out | apply below_alloc | apply pw_below_drewN | apply below_drew1) | exact HB.out)⟩⟩
        · rw [if_neg c7] at H
          have c7b0 : decide (x8_1 < (l1.length : Int)) = false := decide_eq_false c7
          clear c7
          (first | rw [c7b0] | (simp only [i64_w, i32_w]; rw [c7b0]) | skip)
          have H' := Aside0.mk H
          clear H
          go_wp2
          go_meet
          case rel => exact ⟨_, (false), (by first | rfl | (simp; done) | (simp [*]; done)), H', ⟨by have := HK1.out; first | omega | exact Nat.le_refl _⟩, ⟨by (with_reducible repeat (first | apply Kd.R_alloc | apply Kd.R_drewN | apply Kd.R_drew)); exact HO_7.out⟩, ⟨by repeat (first | (with_reducible first | exact HB.out | apply below_alloc | apply pw_below_drewN | apply below_drew1) | exact HB.out)⟩⟩
      case rest =>
        clear HC6
        try clear c1
        try clear c2
        try clear p2
        try clear c7
        try clear c7b0
        try clear p2
        obtain ⟨kq, x19_5, rfl, HA, HJ5, HO_7, HB⟩ := hcut
        cases kq with
        | zero => exact absurd HA.out (by simp [tinderref18_Apply.j1])
        | succ kj5 =>
          have H := HA.out
          clear HA
          simp only [tinderref18_Apply.j1] at H
          by_cases c8 : x19_5 = true
          · subst c8
            have H1 : (if 0 ≤ x8_1 then (if x8_1 < (l1.length : Int) then (if ((rd_T62 l1 x8_1).f0) ≥ 0 then (if ((rd_T62 l1 x8_1).f0) < (x7_1.length : Int) then (if 0 ≤ ((rd_T62 l1 x8_1).f0) then (tinderref18_Apply.l0 kj5 l1 a2 (x7_1.set (((rd_T62 l1 x8_1).f0) : Int).toNat ((rd_T62 l1 x8_1).f1)) (wrap64 (x8_1 + 1))) else (none)) else (tinderref18_Apply.l0 kj5 l1 a2 x7_1 (wrap64 (x8_1 + 1)))) else (tinderref18_Apply.l0 kj5 l1 a2 x7_1 (wrap64 (x8_1 + 1)))) else (none)) else (none)) = some r := by rw [if_pos rfl] at H; exact H
            clear H
            have H := H1
            clear H1
            by_cases c9 : 0 ≤ x8_1
            · rw [if_pos c9] at H
              have c9b0 : decide (0 ≤ x8_1) = true := decide_eq_true c9
              clear c9
              by_cases c10 : x8_1 < (l1.length : Int)
              · rw [if_pos c10] at H
                have c10b0 : decide (x8_1 < (l1.length : Int)) = true := decide_eq_true c10
                clear c10
                by_cases c11 : ((rd_T62 l1 x8_1).f0) ≥ 0
                · rw [if_pos c11] at H
                  have c11b0 : decide (0 ≤ ((rd_T62 l1 x8_1).f0)) = true := decide_eq_true c11
                  clear c11
                  by_cases c12 : ((rd_T62 l1 x8_1).f0) < (x7_1.length : Int)
                  · rw [if_pos c12] at H
                    have c12b0 : decide (((rd_T62 l1 x8_1).f0) < (x7_1.length : Int)) = true := decide_eq_true c12
                    clear c12
                    by_cases c13 : 0 ≤ ((rd_T62 l1 x8_1).f0)
                    · rw [if_pos c13] at H
                      have c13b0 : decide (0 ≤ ((rd_T62 l1 x8_1).f0)) = true := decide_eq_true c13
                      clear c13
                      obtain ⟨y22008, hy22008⟩ : ∃ y_ : List Int, y_ = (x7_1.set (((rd_T62 l1 x8_1).f0) : Int).toNat ((rd_T62 l1 x8_1).f1)) := ⟨_, rfl⟩
                      replace H : (tinderref18_Apply.l0 kj5 l1 a2 y22008 (wrap64 (x8_1 + 1))) = some r := by first | (rw [hy22008]; with_reducible exact H) | (have H2_ := (Option.bind_some _ _).symm.trans H; rw [hy22008]; with_reducible exact H2_) | (have H2_ := (Option.bind_some _ _).symm.trans H; with_reducible exact H2_) | with_reducible exact H | (rw [hy22008]; exact H) | exact H
                      have Ny22008 := Aside0.mk hy22008
                      clear hy22008
                      have H' := Aside0.mk H
                      clear H
                      have p22004 : 0 ≤ (x8_1 : Int) := of_decide_eq_true (by first | (with_reducible assumption) | assumption)
                      have q22004 : x8_1 < (l1.length : Int) := of_decide_eq_true (by first | (with_reducible assumption) | assumption)
                      obtain ⟨ad22004, e22004, hx22004_0, hx22004_1⟩ := at_T62 HR1.out x8_1 p22004 q22004
                      cases e22004
                      replace hx22004_0 := (HB.out.cell (World.block_lt_of_cell? w _ hx22004_0)).trans hx22004_0
                      replace hx22004_1 := (HB.out.cell (World.block_lt_of_cell? w _ hx22004_1)).trans hx22004_1
                      replace p22004 := eq_true p22004
                      replace q22004 := eq_true q22004
                      have p22005 : 0 ≤ (x8_1 : Int) := of_decide_eq_true (by first | (with_reducible assumption) | assumption)
                      have q22005 : x8_1 < (l1.length : Int) := of_decide_eq_true (by first | (with_reducible assumption) | assumption)
                      obtain ⟨ad22005, e22005, hx22005_0, hx22005_1⟩ := at_T62 HR1.out x8_1 p22005 q22005
                      obtain rfl : ad22004 = ad22005 := (by injection e22005)
                      replace hx22005_0 := (HB.out.cell (World.block_lt_of_cell? w _ hx22005_0)).trans hx22005_0
                      replace hx22005_1 := (HB.out.cell (World.block_lt_of_cell? w _ hx22005_1)).trans hx22005_1
                      replace p22005 := eq_true p22005
                      replace q22005 := eq_true q22005
                      obtain ⟨Ao15, co15, eo15⟩ := Kd.R_slice HO_7.out
                      subst eo15
                      try go_wp2
                      have n0_ := Aside0.mk (Kd.R_drew HO_7.out)
                      have n1_ := Aside0.mk (below_drew1 HB.out)
                      clear HO_7
                      clear HB
                      have HO_7 := n0_
                      have HB := n1_
                      clear n0_ n1_
                      have p22006 : 0 ≤ (x8_1 : Int) := of_decide_eq_true (by first | (with_reducible assumption) | assumption)
                      have q22006 : x8_1 < (l1.length : Int) := of_decide_eq_true (by first | (with_reducible assumption) | assumption)
                      obtain ⟨ad22006, e22006, hx22006_0, hx22006_1⟩ := at_T62 HR1.out x8_1 p22006 q22006
                      have hw22006_1 := hx22006_1
                      have hw22006_0 := hx22006_0
                      obtain rfl : ad22004 = ad22006 := (by injection e22006)
                      replace hx22006_0 := (HB.out.cell (World.block_lt_of_cell? w _ hx22006_0)).trans hx22006_0
                      replace hx22006_1 := (HB.out.cell (World.block_lt_of_cell? w _ hx22006_1)).trans hx22006_1
                      replace p22006 := eq_true p22006
                      replace q22006 := eq_true q22006
                      have p22007 : 0 ≤ (x8_1 : Int) := of_decide_eq_true (by first | (with_reducible assumption) | assumption)
                      have q22007 : x8_1 < (l1.length : Int) := of_decide_eq_true (by first | (with_reducible assumption) | assumption)
                      obtain ⟨ad22007, e22007, hx22007_0, hx22007_1⟩ := at_T62 HR1.out x8_1 p22007 q22007
                      have hw22007_1 := hx22007_1
                      have hw22007_0 := hx22007_0
                      obtain rfl : ad22004 = ad22007 := (by injection e22007)
                      replace hx22007_0 := (HB.out.cell (World.block_lt_of_cell? w _ hx22007_0)).trans hx22007_0
                      replace hx22007_1 := (HB.out.cell (World.block_lt_of_cell? w _ hx22007_1)).trans hx22007_1
                      replace p22007 := eq_true p22007
                      replace q22007 := eq_true q22007
                      have p14 : 0 ≤ (((rd_T62 l1 x8_1).f0) : Int) := of_decide_eq_true (by first | (with_reducible assumption) | assumption)
                      have q14 : (((rd_T62 l1 x8_1).f0) : Int) < ((x7_1.length : Int) : Int) := of_decide_eq_true (by first | (with_reducible assumption) | assumption)
                      obtain ⟨go14, co14, eo14, gb14, gl14, cl14, HG14⟩ := Kd.R_form HO_7.out (by omega)
                      (first | cases eo14 | (injection eo14 with ea_ en_ ec_; (first | subst ea_ | (injection ea_ with ea_; subst ea_)); subst ec_; clear en_))
                      have GB14 := Aside0.mk gb14
                      have GG14 := Aside0.mk HG14
                      clear gb14 gl14 HG14
                      obtain ⟨hx14_0, hf14_0⟩ := Kd.R_celln 0 HO_7.out (((rd_T62 l1 x8_1).f0) : Int) p14 q14
                      replace p14 := eq_true p14
                      replace q14 := eq_true q14
                      have HP17 := Kd.R_putn HO_7.out (((rd_T62 l1 x8_1).f0) : Int) ((rd_T62 l1 x8_1).f1)
                      rw [← Ny22008.out] at HP17
                      have HQ17 := Aside0.mk HP17
                      clear HP17
                      refine start_ (n := 13) (S := fun w' => w'.cell? (ad22004.add ((x8_1).toNat * 2)) = some (.int .i64 ((rd_T62 l1 x8_1).f0)) ∧ w'.cell? ⟨(ad22004.add ((x8_1).toNat * 2)).block, (ad22004.add ((x8_1).toNat * 2)).off + 1, none⟩ = some (.int .u8 ((rd_T62 l1 x8_1).f1)) ∧ w'.cell? (ad22004.add ((x8_1).toNat * 2)) = some (.int .i64 ((rd_T62 l1 x8_1).f0)) ∧ w'.cell? ⟨(ad22004.add ((x8_1).toNat * 2)).block, (ad22004.add ((x8_1).toNat * 2)).off + 1, none⟩ = some (.int .u8 ((rd_T62 l1 x8_1).f1))) (ds := [12]) #[false, false, false, false, false, false, false, false, false, false, false, false, false] (by kernel_rfl) rfl rfl ⟨((HB.out.cell (World.block_lt_of_cell? w _ hw22006_0)).trans hw22006_0), ((HB.out.cell (World.block_lt_of_cell? w _ hw22006_1)).trans hw22006_1), ((HB.out.cell (World.block_lt_of_cell? w _ hw22007_0)).trans hw22007_0), ((HB.out.cell (World.block_lt_of_cell? w _ hw22007_1)).trans hw22007_1)⟩ (fun hHeld => ?_); refine with_tabW tinderref18_Apply.tab6 tinderref18_Apply.bits6 (fun HT_ HW_ => ?_)
                      generalize wc.drew = w16 at HO_7 HB GG14 HQ17 hf14_0 hx14_0 hx22006_0 hx22006_1 hx22007_0 hx22007_1 hHeld ⊢
                      refine pure_ (i := 0) (N := some 38) (v := ?_) (a' := ?_) #[true, false, false, false, false, false, false, false, false, false, false, false, false] rfl rfl (any_of HT_.out (by kernel_rfl)) (fun _ _ _ h => h) (Or.inl ⟨by rfl, ?_⟩) ?_ ?_
                      rotate_left
                      · intro w'
                        go_simp
                        with_reducible rfl
                      rotate_left
                      · simp only [Act.put, List.setIfInBounds_toArray, List.set_cons_zero, List.set_cons_succ, i64_w, i32_w]
                        rfl
                      refine pure_ (i := 1) (N := some 39) (v := ?_) (a' := ?_) #[true, true, false, false, false, false, false, false, false, false, false, false, false] rfl rfl (any_of HT_.out (by kernel_rfl)) (fun _ _ _ h => h) (Or.inl ⟨by rfl, ?_⟩) ?_ ?_
                      rotate_left
                      · intro w'
                        go_simp
                        with_reducible rfl
                      rotate_left
                      · simp only [Act.put, List.setIfInBounds_toArray, List.set_cons_zero, List.set_cons_succ, i64_w, i32_w]
                        rfl
                      refine pure_ (i := 2) (N := some 40) (v := ?_) (a' := ?_) #[true, true, true, false, false, false, false, false, false, false, false, false, false] rfl rfl (any_of HT_.out (by kernel_rfl)) (fun _ _ _ h => h) (Or.inl ⟨by rfl, ?_⟩) ?_ ?_
                      rotate_left
                      · intro w'
                        go_simp
                        with_reducible rfl
                      rotate_left
                      · simp only [Act.put, List.setIfInBounds_toArray, List.set_cons_zero, List.set_cons_succ, i64_w, i32_w]
                        rfl
                      refine pure_ (i := 3) (N := some 41) (v := ?_) (a' := ?_) #[true, true, true, true, false, false, false, false, false, false, false, false, false] rfl rfl (any_of HT_.out (by kernel_rfl)) (fun _ _ _ h => h) (Or.inl ⟨by rfl, ?_⟩) ?_ ?_
                      rotate_left
                      · intro w'
                        go_simp
                        with_reducible rfl
                      rotate_left
                      · simp only [Act.put, List.setIfInBounds_toArray, List.set_cons_zero, List.set_cons_succ, i64_w, i32_w]
                        rfl
                      refine pure_ (i := 4) (N := some 42) (v := ?_) (a' := ?_) #[true, true, true, true, true, false, false, false, false, false, false, false, false] rfl rfl (any_of HT_.out (by kernel_rfl)) (fun _ _ _ h => h) (Or.inl ⟨by rfl, ?_⟩) ?_ ?_
                      rotate_left
                      · intro w'
                        go_simp
                        with_reducible rfl
                      rotate_left
                      · simp only [Act.put, List.setIfInBounds_toArray, List.set_cons_zero, List.set_cons_succ, i64_w, i32_w]
                        rfl
                      refine pure_ (i := 6) (N := some 44) (v := ?_) (a' := ?_) #[true, true, true, true, true, false, true, false, false, false, false, false, false] rfl rfl (any_of HT_.out (by kernel_rfl)) (fun _ _ _ h => h) (Or.inl ⟨by rfl, ?_⟩) ?_ ?_
                      rotate_left
                      · intro w'
                        go_simp
                        with_reducible rfl
                      rotate_left
                      · simp only [Act.put, List.setIfInBounds_toArray, List.set_cons_zero, List.set_cons_succ, i64_w, i32_w]
                        rfl
                      refine pure_ (i := 7) (N := some 45) (v := ?_) (a' := ?_) #[true, true, true, true, true, false, true, true, false, false, false, false, false] rfl rfl (any_of HT_.out (by kernel_rfl)) (fun _ _ _ h => h) (Or.inl ⟨by rfl, ?_⟩) ?_ ?_
                      rotate_left
                      · intro w'
                        go_simp
                        with_reducible rfl
                      rotate_left
                      · simp only [Act.put, List.setIfInBounds_toArray, List.set_cons_zero, List.set_cons_succ, i64_w, i32_w]
                        rfl
                      refine pure_ (i := 8) (N := some 46) (v := ?_) (a' := ?_) #[true, true, true, true, true, false, true, true, true, false, false, false, false] rfl rfl (any_of HT_.out (by kernel_rfl)) (fun _ _ _ h => h) (Or.inl ⟨by rfl, ?_⟩) ?_ ?_
                      rotate_left
                      · intro w'
                        go_simp
                        with_reducible rfl
                      rotate_left
                      · simp only [Act.put, List.setIfInBounds_toArray, List.set_cons_zero, List.set_cons_succ, i64_w, i32_w]
                        rfl
                      refine pure_ (i := 9) (N := some 47) (v := ?_) (a' := ?_) #[true, true, true, true, true, false, true, true, true, true, false, false, false] rfl rfl (any_of HT_.out (by kernel_rfl)) (fun _ _ _ h => h) (Or.inl ⟨by rfl, ?_⟩) ?_ ?_
                      rotate_left
                      · intro w'
                        go_simp
                        with_reducible rfl
                      rotate_left
                      · simp only [Act.put, List.setIfInBounds_toArray, List.set_cons_zero, List.set_cons_succ, i64_w, i32_w]
                        rfl
                      refine take_ (i := 5) (N := some 43) (v := ?_) (a' := ?_) #[true, true, true, true, true, true, true, true, true, true, false, false, false] rfl rfl (take_ofW HT_.out HW_.out (by kernel_rfl)) (fun _ _ _ h => h) (Or.inl ⟨by rfl, ?_⟩) hHeld ?_ ?_
                      rotate_left
                      · rintro w' ⟨s0, s1, s2, s3⟩
                        go_simp
                        with_reducible rfl
                      rotate_left
                      · simp only [Act.put, List.setIfInBounds_toArray, List.set_cons_zero, List.set_cons_succ, i64_w, i32_w]
                        rfl
                      refine take_ (i := 10) (N := some 48) (v := ?_) (a' := ?_) #[true, true, true, true, true, true, true, true, true, true, true, false, false] rfl rfl (take_ofW HT_.out HW_.out (by kernel_rfl)) (fun _ _ _ h => h) (Or.inl ⟨by rfl, ?_⟩) hHeld ?_ ?_
                      rotate_left
                      · rintro w' ⟨s0, s1, s2, s3⟩
                        go_simp
                        with_reducible rfl
                      rotate_left
                      · simp only [Act.put, List.setIfInBounds_toArray, List.set_cons_zero, List.set_cons_succ, i64_w, i32_w]
                        rfl
                      refine pure_ (i := 11) (N := some 49) (v := ?_) (a' := ?_) #[true, true, true, true, true, true, true, true, true, true, true, true, false] rfl rfl (any_of HT_.out (by kernel_rfl)) (fun _ _ _ h => h) (Or.inl ⟨by rfl, ?_⟩) ?_ ?_
                      rotate_left
                      · intro w'
                        go_simp
                        with_reducible rfl
                      rotate_left
                      · simp only [Act.put, List.setIfInBounds_toArray, List.set_cons_zero, List.set_cons_succ, i64_w, i32_w]
                        rfl
                      refine last_ (i := 12) (N := none) #[true, true, true, true, true, true, true, true, true, true, true, true, true] rfl rfl (one_of HT_.out (by kernel_rfl)) (by decide) (fun K hK => ?_)
                      refine skip_ (w1 := ?_) (by rfl) rfl ?_ ?_
                      rotate_left
                      · go_simp
                        rfl
                      refine hK.out _ _ ?_
                      clear hK K
                      refine done_ (done_of HT_.out (by kernel_rfl)) ?_
                      try go_wp2
                      go_roundg kj5
                      case measure => have := HK1.out; have := HJ5.out; omega
                      case rel => exact ⟨(y22008), (wrap64 (x8_1 + 1)), (by first | rfl | (simp; done) | (simp [*]; done)), H', ⟨by have := HK1.out; have := HJ5.out; omega⟩, ⟨by (with_reducible repeat (first | apply Kd.R_alloc | apply Kd.R_drewN | apply Kd.R_drew)); exact HQ17.out⟩, ⟨by repeat (first | (with_reducible first | exact HB.out | apply below_alloc | apply pw_below_drewN | apply below_drew1 | refine below_set ?_ GB14.out) | exact HB.out)⟩⟩
                    · rw [if_neg c13] at H
                      exact absurd H (by simp)
                  · rw [if_neg c12] at H
                    have c12b0 : decide (((rd_T62 l1 x8_1).f0) < (x7_1.length : Int)) = false := decide_eq_false c12
                    clear c12
                    have H' := Aside0.mk H
                    clear H
                    have p22004 : 0 ≤ (x8_1 : Int) := of_decide_eq_true (by first | (with_reducible assumption) | assumption)
                    have q22004 : x8_1 < (l1.length : Int) := of_decide_eq_true (by first | (with_reducible assumption) | assumption)
                    obtain ⟨ad22004, e22004, hx22004_0, hx22004_1⟩ := at_T62 HR1.out x8_1 p22004 q22004
                    cases e22004
                    replace hx22004_0 := (HB.out.cell (World.block_lt_of_cell? w _ hx22004_0)).trans hx22004_0
                    replace hx22004_1 := (HB.out.cell (World.block_lt_of_cell? w _ hx22004_1)).trans hx22004_1
                    replace p22004 := eq_true p22004
                    replace q22004 := eq_true q22004
                    have p22005 : 0 ≤ (x8_1 : Int) := of_decide_eq_true (by first | (with_reducible assumption) | assumption)
                    have q22005 : x8_1 < (l1.length : Int) := of_decide_eq_true (by first | (with_reducible assumption) | assumption)
                    obtain ⟨ad22005, e22005, hx22005_0, hx22005_1⟩ := at_T62 HR1.out x8_1 p22005 q22005
                    obtain rfl : ad22004 = ad22005 := (by injection e22005)
                    replace hx22005_0 := (HB.out.cell (World.block_lt_of_cell? w _ hx22005_0)).trans hx22005_0
                    replace hx22005_1 := (HB.out.cell (World.block_lt_of_cell? w _ hx22005_1)).trans hx22005_1
                    replace p22005 := eq_true p22005
                    replace q22005 := eq_true q22005
                    obtain ⟨Ao18, co18, eo18⟩ := Kd.R_slice HO_7.out
                    subst eo18
                    go_wp2
                    go_roundg kj5
                    case measure => have := HK1.out; have := HJ5.out; omega
                    case rel => exact ⟨(x7_1), (wrap64 (x8_1 + 1)), (by first | rfl | (simp; done) | (simp [*]; done)), H', ⟨by have := HK1.out; have := HJ5.out; omega⟩, ⟨by (with_reducible repeat (first | apply Kd.R_alloc | apply Kd.R_drewN | apply Kd.R_drew)); exact HO_7.out⟩, ⟨by repeat (first | (with_reducible first | exact HB.out | apply below_alloc | apply pw_below_drewN | apply below_drew1) | exact HB.out)⟩⟩
                · rw [if_neg c11] at H
                  have c11b0 : decide (0 ≤ ((rd_T62 l1 x8_1).f0)) = false := decide_eq_false c11
                  clear c11
                  have H' := Aside0.mk H
                  clear H
                  have p22004 : 0 ≤ (x8_1 : Int) := of_decide_eq_true (by first | (with_reducible assumption) | assumption)
                  have q22004 : x8_1 < (l1.length : Int) := of_decide_eq_true (by first | (with_reducible assumption) | assumption)
                  obtain ⟨ad22004, e22004, hx22004_0, hx22004_1⟩ := at_T62 HR1.out x8_1 p22004 q22004
                  cases e22004
                  replace hx22004_0 := (HB.out.cell (World.block_lt_of_cell? w _ hx22004_0)).trans hx22004_0
                  replace hx22004_1 := (HB.out.cell (World.block_lt_of_cell? w _ hx22004_1)).trans hx22004_1
                  replace p22004 := eq_true p22004
                  replace q22004 := eq_true q22004
                  go_wp2
                  go_roundg kj5
                  case measure => have := HK1.out; have := HJ5.out; omega
                  case rel => exact ⟨(x7_1), (wrap64 (x8_1 + 1)), (by first | rfl | (simp; done) | (simp [*]; done)), H', ⟨by have := HK1.out; have := HJ5.out; omega⟩, ⟨by (with_reducible repeat (first | apply Kd.R_alloc | apply Kd.R_drewN | apply Kd.R_drew)); exact HO_7.out⟩, ⟨by repeat (first | (with_reducible first | exact HB.out | apply below_alloc | apply pw_below_drewN | apply below_drew1) | exact HB.out)⟩⟩
              · rw [if_neg c10] at H
                exact absurd H (by simp)
            · rw [if_neg c9] at H
              exact absurd H (by simp)
          · replace c8 := Bool.eq_false_iff.mpr c8
            subst c8
            have H1 : (some x7_1) = some r := by rw [if_neg (show ¬ (false = true) by decide)] at H; exact H
            clear H
            have H := H1
            clear H1
            obtain rfl := Option.some.inj H
            go_wp2
            go_ret
            exact ⟨_, by first | rfl | (simp [errW_none, errW_some] <;> rfl) | (simp [*, errW_none, errW_some] <;> rfl), by (with_reducible repeat (first | apply Kd.R_alloc | apply Kd.R_drewN | apply Kd.R_drew)); exact HO_7.out, by repeat (first | (with_reducible first | exact HB.out | apply below_alloc | apply pw_below_drewN | apply below_drew1) | exact HB.out)⟩

end Go.Proofs.Ytlpagilpbdiniaa.Q
