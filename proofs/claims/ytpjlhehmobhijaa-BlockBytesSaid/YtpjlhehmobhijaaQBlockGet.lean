/- What Go functions of this program answer, as plain Lean functions, and that the calls answer so, wherever the plain function has an answer. Written by a program of this claim's own out of the translation. -/
import Derived.Test.YtpjlhehmobhijaaQ0
import Derived.Test.YtpjlhehmobhijaaHWords
import Derived.Test.YtpjlhehmobhijaaQBlockRead
import Derived.Test.YtpjlhehmobhijaaQBlockPieces
import Derived.Test.YtpjlhehmobhijaaQBlockStretch
namespace Go.Proofs.Ytpjlhehmobhijaa.Q
open Go.RowKit Go.Proofs.YtpjlhehmobhijaaW.PrintWords Go.Proofs.YtpjlhehmobhijaaW.PrintLast Go.Proofs.YtpjlhehmobhijaaW.PrintMore
set_option linter.unusedVariables false
set_option linter.unusedSimpArgs false

attribute [local go_sem] max2_int min2_int max_two min_two max_three min_three max_four min_four
/-! ### block_Get: function 20 -/
def block_Get.l0 : Nat → List Int → List Int → List (S49) → Int → Int → Option (List Int × Int)
  | 0, _, _, _, _, _ => none
  | k + 1, x0, x9, x25, x26, x27 => if x27 < x26 then (if 0 ≤ x27 then (if x27 < (x25.length : Int) then ((block_Read.f x0 ((rd_T49 x25 x27).f0)).bind fun bt21010 => (if bt21010.2 = 0 then (if 0 ≤ ((rd_T49 x25 x27).f1) then (if ((rd_T49 x25 x27).f1) ≤ (wrap64 (((rd_T49 x25 x27).f1) + ((rd_T49 x25 x27).f2))) then (if (wrap64 (((rd_T49 x25 x27).f1) + ((rd_T49 x25 x27).f2))) ≤ (bt21010.1.length : Int) then ((some ((bt21010.1.take ((wrap64 (((rd_T49 x25 x27).f1) + ((rd_T49 x25 x27).f2))) : Int).toNat).drop (((rd_T49 x25 x27).f1) : Int).toNat : List Int)).bind fun y21014 => (if x9.length + y21014.length < 140737488355328 then (block_Get.l0 k x0 (x9 ++ y21014) x25 x26 (wrap64 (x27 + 1))) else (none))) else (none)) else (none)) else (none)) else (some (([] : List Int), bt21010.2)))) else (none)) else (none)) else (some (x9, 0))
def block_Get.f (k : Nat) (l0 : List Int) (a1 : Int) (a2 : Int) : Option (List Int × Int) := (block_stretch.f l0 a1 a2).bind fun t21001 => (if t21001 = 0 then (if 0 ≤ a2 then (if (a2 : Int).toNat ≤ 281474976710656 then ((block_pieces.f k a1 a2).bind fun t21005 => (block_Get.l0 k l0 (([] : List Int)) t21005 (t21005.length : Int) 0)) else (none)) else (none)) else (some (([] : List Int), t21001)))
theorem block_Get.mono_l : ∀ k, (∀ y0 y1 y2 y3 y4, LeO (block_Get.l0 k y0 y1 y2 y3 y4) (block_Get.l0 (k + 1) y0 y1 y2 y3 y4))
  | 0 => fun _ _ _ _ _ r h => by simp [block_Get.l0] at h
  | k + 1 => by
    have ih0 := block_Get.mono_l k
    · intro y0 y1 y2 y3 y4
      unfold block_Get.l0
      repeat' first
      | (with_reducible exact ih0 _ _ _ _ _)
      | (with_reducible exact block_pieces.mono _ _ _)
      | (with_reducible exact LeO.refl _)
      | (with_reducible exact LeO.none _)
      | (with_reducible refine LeO.ite ?_ ?_)
      | (with_reducible refine LeO.bind ?_ (fun _ => ?_))
      | exact ih0 _ _ _ _ _
      | exact block_pieces.mono _ _ _
      | exact LeO.none _
      | refine LeO.ite ?_ ?_
      | refine LeO.bind ?_ (fun _ => ?_)
theorem block_Get.mono : ∀ a0 a1 a2 k, LeO (block_Get.f k a0 a1 a2) (block_Get.f (k + 1) a0 a1 a2) := by
  intro a0 a1 a2 k
  have ih0 := block_Get.mono_l k
  unfold block_Get.f
  repeat' first
      | (with_reducible exact ih0 _ _ _ _ _)
      | (with_reducible exact block_pieces.mono _ _ _)
      | (with_reducible exact LeO.refl _)
      | (with_reducible exact LeO.none _)
      | (with_reducible refine LeO.ite ?_ ?_)
      | (with_reducible refine LeO.bind ?_ (fun _ => ?_))
      | exact ih0 _ _ _ _ _
      | exact block_pieces.mono _ _ _
      | exact LeO.none _
      | refine LeO.ite ?_ ?_
      | refine LeO.bind ?_ (fun _ => ?_)
set_option maxHeartbeats 8000000 in
set_option maxRecDepth 100000 in
theorem block_Get.calls (k : Nat) (A0 : Option Addr) (c0 : Nat) (l0 : List Int) (a1 : Int) (a2 : Int) (r1 : List Int) (r2 : Int) (w : World) (hr0 : Kd.C (Kd.int .u8) w A0 l0.length l0) (hc0 : l0.length ≤ c0) (h : block_Get.f k l0 a1 a2 = some (r1, r2)) :
    Calls Try.prog 20 #[.slice A0 l0.length c0, .int .i64 a1, .int .i64 a2] w fun e w' => ∃ v0_ : Value, e = .returned (.tuple #[v0_, .int .i64 r2]) ∧ Kd.R (Kd.int .u8) 5 w' w.heap.size (fun _ => True) v0_ r1 ∧ Below w.heap.size w w' := by
  have hu49 := Try.underlying49
  have HR0 := Aside0.mk hr0
  have HC0 := Aside0.mk hc0
  clear hr0 hc0
  have HB := Aside0.mk (Below.refl w.heap.size w)
  have H : ((block_stretch.f l0 a1 a2).bind fun t21001 => (if t21001 = 0 then (if 0 ≤ a2 then (if (a2 : Int).toNat ≤ 281474976710656 then ((block_pieces.f k a1 a2).bind fun t21005 => (block_Get.l0 k l0 (([] : List Int)) t21005 (t21005.length : Int) 0)) else (none)) else (none)) else (some (([] : List Int), t21001)))) = some (r1, r2) := h
  clear h
  replace H := Option.bind_eq_some_iff.mp H
  obtain ⟨t21001, A40, H⟩ := H
  replace H : (if t21001 = 0 then (if 0 ≤ a2 then (if (a2 : Int).toNat ≤ 281474976710656 then ((block_pieces.f k a1 a2).bind fun t21005 => (block_Get.l0 k l0 (([] : List Int)) t21005 (t21005.length : Int) 0)) else (none)) else (none)) else (some (([] : List Int), t21001))) = some (r1, r2) := H
  have A4 := Aside0.mk A40
  clear A40
  by_cases c5 : t21001 = 0
  · rw [if_pos c5] at H
    have c5b0 : (t21001 == 0) = true := beq_iff_eq.mpr c5
    have c5b1 : (t21001 != 0) = false := bne_eq_false_iff_eq.mpr c5
    clear c5
    by_cases c6 : 0 ≤ a2
    · rw [if_pos c6] at H
      have c6b0 := eq_true c6
      have c6b1 : decide (0 ≤ a2) = true := decide_eq_true c6
      clear c6
      by_cases c7 : (a2 : Int).toNat ≤ 281474976710656
      · rw [if_pos c7] at H
        have c7b0 := eq_true c7
        have c7b1 : decide ((a2 : Int).toNat ≤ 281474976710656) = true := decide_eq_true c7
        clear c7
        obtain ⟨y21002, hy21002⟩ : ∃ y_ : List Int, y_ = (([] : List Int)) := ⟨_, rfl⟩
        replace H : ((block_pieces.f k a1 a2).bind fun t21005 => (block_Get.l0 k l0 y21002 t21005 (t21005.length : Int) 0)) = some (r1, r2) := by first | (rw [hy21002]; with_reducible exact H) | (have H2_ := (Option.bind_some _ _).symm.trans H; rw [hy21002]; with_reducible exact H2_) | (have H2_ := (Option.bind_some _ _).symm.trans H; with_reducible exact H2_) | with_reducible exact H | (rw [hy21002]; exact H) | exact H
        have Ny21002 := Aside0.mk hy21002
        clear hy21002
        replace H := Option.bind_eq_some_iff.mp H
        obtain ⟨t21005, A80, H⟩ := H
        replace H : (block_Get.l0 k l0 y21002 t21005 (t21005.length : Int) 0) = some (r1, r2) := H
        have A8 := Aside0.mk A80
        clear A80
        have H' := Aside0.mk H
        clear H
        go_enter Try.func20, Try.ntmps20
        go_wp2_with (first | ((with_reducible refine gate_callee (f := 27) rfl ?_); refine goesL_ (some 17) rfl rfl Try.func27 (by kernel_rfl) rfl #[.slice A0 l0.length c0, .int .i64 a1, .int .i64 a2] rfl (by (try simp only [List.map_toArray, List.map_cons, List.map_nil]); first | done | rfl | (simp only [List.length_drop, List.length_take]; rfl)) ?_; (with_reducible refine (block_stretch.calls _ _ l0 a1 a2 t21001 _ ?side1 ?side2 A4.out).mono ?_); (case side1 => repeat (first | exact HR0.out | (with_reducible refine Kd.C_alloc ?_ _) | (with_reducible refine Kd.C_drewN ?_ _) | (with_reducible refine Kd.C_drew ?_))); (case side2 => exact HC0.out); rintro e w' ⟨rfl, ⟨nd, rfl⟩⟩; refine ⟨_, rfl, ?_⟩) | ((with_reducible refine gate_dst (N := 22) rfl ?_); refine R_make0 (Kd.int .u8) _ 5 rfl (N := 22) rfl 30 _ _ rfl a2 rfl rfl Try.underlying30 (.int .u8 0) 1 info5 (by omega) (ok := fun _ => True) trivial (of_decide_eq_true (by first | (with_reducible assumption) | assumption)) (Nat.le_trans (Nat.mul_le_mul_right _ (of_decide_eq_true (by first | (with_reducible assumption) | assumption) : a2.toNat ≤ 281474976710656)) (by omega)) (Below.refl _ _) (Nat.le_refl _) ?_; intro v21003 w9 ho10 hb hg_ hnew_; clear hg_ hnew_; (first | rw [← Ny21002.out] at ho10 | (simp only [Int.reduceToNat] at ho10; rw [← Ny21002.out] at ho10)); have n0_ := Aside0.mk (Kd.R_lower ho10 (below_size (by repeat (first | (with_reducible first | exact HB.out | apply below_alloc | apply pw_below_drewN | apply below_drew1) | exact HB.out)))); have n1_ := Aside0.mk (below_step (by repeat (first | (with_reducible first | exact HB.out | apply below_alloc | apply pw_below_drewN | apply below_drew1) | exact HB.out)) hb); clear HB; have HO21004 := n0_; have HB := n1_; clear n0_ n1_; clear hb ho10) | ((with_reducible refine gate_callee (f := 24) rfl ?_); refine goesL_ (some 25) rfl rfl Try.func24 (by kernel_rfl) rfl #[.int .i64 a1, .int .i64 a2] rfl (by (try simp only [List.map_toArray, List.map_cons, List.map_nil]); first | done | rfl | (simp only [List.length_drop, List.length_take]; rfl)) ?_; (with_reducible refine (block_pieces.calls k a1 a2 t21005 _ A8.out).mono ?_); rintro e w11 ⟨v21006, rfl, ho0, hb⟩; refine ⟨_, rfl, ?_⟩; have n0_ := Aside0.mk (Kd.R_below (by (with_reducible repeat (first | apply Kd.R_alloc | apply Kd.R_drewN | apply Kd.R_drew)); exact HO21004.out) hb); have n1_ := Aside0.mk (Kd.R_lower ho0 (below_size (by repeat (first | (with_reducible first | exact HB.out | apply below_alloc | apply pw_below_drewN | apply below_drew1) | exact HB.out)))); have n2_ := Aside0.mk (below_step (by repeat (first | (with_reducible first | exact HB.out | apply below_alloc | apply pw_below_drewN | apply below_drew1) | exact HB.out)) hb); clear HO21004; clear HB; have HO21004 := n0_; have HO21007 := n1_; have HB := n2_; clear n0_ n1_ n2_; (try clear hb); (try clear hb2); (try clear hk); (try clear hi); (try clear ho0); obtain ⟨Ao12, co12, eo12⟩ := Kd.R_slice HO21007.out; subst eo12))
        go_loopg [9, 27] k (fun kq v9 v27 w' => ∃ (x9_1 : List Int) (x27_1 : Int), v27 = .int .i64 x27_1 ∧ Aside0 (block_Get.l0 kq l0 x9_1 t21005 (t21005.length : Int) x27_1 = some (r1, r2)) ∧ Aside0 (kq ≤ k) ∧ Aside0 (Kd.R (Kd.int .u8) 5 w' w.heap.size (fun _ => True) v9 x9_1) ∧ Aside0 (Kd.R k49 49 w' w.heap.size (fun _ => True) (.slice Ao12 t21005.length co12) t21005) ∧ Aside0 (Below w.heap.size w w'))
        case atStart => exact ⟨(y21002), (0), (by first | rfl | (simp; done) | (simp [*]; done)), H', ⟨Nat.le_refl _⟩, ⟨by (with_reducible repeat (first | apply Kd.R_alloc | apply Kd.R_drewN | apply Kd.R_drew)); exact HO21004.out⟩, ⟨by (with_reducible repeat (first | apply Kd.R_alloc | apply Kd.R_drewN | apply Kd.R_drew)); exact HO21007.out⟩, ⟨by repeat (first | (with_reducible first | exact HB.out | apply below_alloc | apply pw_below_drewN | apply below_drew1) | exact HB.out)⟩⟩
        case round =>
          clear H'
          try clear c2
          try clear p2
          try clear c5
          try clear c5b0
          try clear c5b1
          try clear c6
          try clear c6b0
          try clear c6b1
          try clear c7
          try clear c7b0
          try clear c7b1
          obtain ⟨x9_1, x27_1, rfl, HA, HK1, HO_9, HO_25, HB⟩ := hrel
          cases gk with
          | zero => exact absurd HA.out (by simp [block_Get.l0])
          | succ k1 =>
            have H := HA.out
            clear HA
            simp only [block_Get.l0] at H
            by_cases c13 : x27_1 < (t21005.length : Int)
            · rw [if_pos c13] at H
              have c13b0 : decide (x27_1 < (t21005.length : Int)) = true := decide_eq_true c13
              clear c13
              by_cases c14 : 0 ≤ x27_1
              · rw [if_pos c14] at H
                have c14b0 : decide (0 ≤ x27_1) = true := decide_eq_true c14
                clear c14
                by_cases c15 : x27_1 < (t21005.length : Int)
                · rw [if_pos c15] at H
                  have c15b0 : decide (x27_1 < (t21005.length : Int)) = true := decide_eq_true c15
                  clear c15
                  replace H := Option.bind_eq_some_iff.mp H
                  obtain ⟨⟨t21010, t21011⟩, A160, H⟩ := H
                  replace H : (if t21011 = 0 then (if 0 ≤ ((rd_T49 t21005 x27_1).f1) then (if ((rd_T49 t21005 x27_1).f1) ≤ (wrap64 (((rd_T49 t21005 x27_1).f1) + ((rd_T49 t21005 x27_1).f2))) then (if (wrap64 (((rd_T49 t21005 x27_1).f1) + ((rd_T49 t21005 x27_1).f2))) ≤ (t21010.length : Int) then ((some ((t21010.take ((wrap64 (((rd_T49 t21005 x27_1).f1) + ((rd_T49 t21005 x27_1).f2))) : Int).toNat).drop (((rd_T49 t21005 x27_1).f1) : Int).toNat : List Int)).bind fun y21014 => (if x9_1.length + y21014.length < 140737488355328 then (block_Get.l0 k1 l0 (x9_1 ++ y21014) t21005 (t21005.length : Int) (wrap64 (x27_1 + 1))) else (none))) else (none)) else (none)) else (none)) else (some (([] : List Int), t21011))) = some (r1, r2) := H
                  have A16 := Aside0.mk A160
                  clear A160
                  by_cases c17 : t21011 = 0
                  · rw [if_pos c17] at H
                    have c17b0 : (t21011 == 0) = true := beq_iff_eq.mpr c17
                    have c17b1 : (t21011 != 0) = false := bne_eq_false_iff_eq.mpr c17
                    clear c17
                    by_cases c18 : 0 ≤ ((rd_T49 t21005 x27_1).f1)
                    · rw [if_pos c18] at H
                      have c18b0 := eq_true c18
                      have c18b1 : decide (0 ≤ ((rd_T49 t21005 x27_1).f1)) = true := decide_eq_true c18
                      clear c18
                      by_cases c19 : ((rd_T49 t21005 x27_1).f1) ≤ (wrap64 (((rd_T49 t21005 x27_1).f1) + ((rd_T49 t21005 x27_1).f2)))
                      · rw [if_pos c19] at H
                        have c19b0 := eq_true c19
                        have c19b1 : decide (((rd_T49 t21005 x27_1).f1) ≤ (wrap64 (((rd_T49 t21005 x27_1).f1) + ((rd_T49 t21005 x27_1).f2)))) = true := decide_eq_true c19
                        by_cases c20 : (wrap64 (((rd_T49 t21005 x27_1).f1) + ((rd_T49 t21005 x27_1).f2))) ≤ (t21010.length : Int)
                        · rw [if_pos c20] at H
                          have c20b0 := eq_true c20
                          have c20b1 : decide ((wrap64 (((rd_T49 t21005 x27_1).f1) + ((rd_T49 t21005 x27_1).f2))) ≤ (t21010.length : Int)) = true := decide_eq_true c20
                          obtain ⟨y21014, hy21014⟩ : ∃ y_ : List Int, y_ = ((t21010.take ((wrap64 (((rd_T49 t21005 x27_1).f1) + ((rd_T49 t21005 x27_1).f2))) : Int).toNat).drop (((rd_T49 t21005 x27_1).f1) : Int).toNat) := ⟨_, rfl⟩
                          replace H : (if x9_1.length + y21014.length < 140737488355328 then (block_Get.l0 k1 l0 (x9_1 ++ y21014) t21005 (t21005.length : Int) (wrap64 (x27_1 + 1))) else (none)) = some (r1, r2) := by first | (rw [hy21014]; with_reducible exact H) | (have H2_ := (Option.bind_some _ _).symm.trans H; rw [hy21014]; with_reducible exact H2_) | (have H2_ := (Option.bind_some _ _).symm.trans H; with_reducible exact H2_) | with_reducible exact H | (rw [hy21014]; exact H) | exact H
                          have Ny21014 := Aside0.mk hy21014
                          clear hy21014
                          by_cases c21 : x9_1.length + y21014.length < 140737488355328
                          · rw [if_pos c21] at H
                            have LMc21 := Aside0.mk c21
                            clear c21
                            obtain ⟨y21018, hy21018⟩ : ∃ y_ : List Int, y_ = (x9_1 ++ y21014) := ⟨_, rfl⟩
                            replace H : (block_Get.l0 k1 l0 y21018 t21005 (t21005.length : Int) (wrap64 (x27_1 + 1))) = some (r1, r2) := by first | (rw [hy21018]; with_reducible exact H) | (have H2_ := (Option.bind_some _ _).symm.trans H; rw [hy21018]; with_reducible exact H2_) | (have H2_ := (Option.bind_some _ _).symm.trans H; with_reducible exact H2_) | with_reducible exact H | (rw [hy21018]; exact H) | exact H
                            have Ny21018 := Aside0.mk hy21018
                            clear hy21018
                            have H' := Aside0.mk H
                            clear H
                            have p21008 : 0 ≤ (x27_1 : Int) := of_decide_eq_true (by first | (with_reducible assumption) | assumption)
                            have q21008 : x27_1 < (t21005.length : Int) := of_decide_eq_true (by first | (with_reducible assumption) | assumption)
                            obtain ⟨ad21008, e21008, hx21008_0, hx21008_1, hx21008_2⟩ := at_T49 (Kd.R_reads' HO_25.out).2.2 x27_1 p21008 q21008
                            cases e21008
                            replace p21008 := eq_true p21008
                            replace q21008 := eq_true q21008
                            go_wp2_with (first | ((with_reducible refine gate_dst (N := 11) rfl ?_); refine box_event ?hg (N := 11) ?hd (cs := #[.int .i64 0, .int .i64 0, .int .i64 0]) (t := 49) ?hr ?_; (case hd => rfl); (case hg => rfl); (case hr => first | (go_simp; done) | (go_simp; rfl)); intro gb21009 hg w22 hbox hb; have n0_ := Aside0.mk (Kd.R_below (by (with_reducible repeat (first | apply Kd.R_alloc | apply Kd.R_drewN | apply Kd.R_drew)); exact HO_9.out) hb); have n1_ := Aside0.mk (Kd.R_below (Kd.R_elderB (by (with_reducible repeat (first | apply Kd.R_alloc | apply Kd.R_drewN | apply Kd.R_drew)); exact HO_25.out) gb21009 (Nat.le_of_eq hg.symm)) hb); have n2_ := Aside0.mk (below_step (by repeat (first | (with_reducible first | exact HB.out | apply below_alloc | apply pw_below_drewN | apply below_drew1) | exact HB.out)) hb); have n3_ := Aside0.mk (hbox); have n4_ := Aside0.mk ((by rw [hg]; exact (below_size (by repeat (first | (with_reducible first | exact HB.out | apply below_alloc | apply pw_below_drewN | apply below_drew1) | exact HB.out))) : w.heap.size ≤ gb21009)); have n5_ := Aside0.mk ((by rw [hg]; exact (below_size (by repeat (first | (with_reducible first | exact HB.out | apply below_alloc | apply pw_below_drewN | apply below_drew1) | exact HB.out))) : w.heap.size ≤ gb21009)); clear HO_9; clear HO_25; clear HB; have HO_9 := n0_; have HO_25 := n1_; have HB := n2_; have BK21009 := n3_; have GW21009 := n4_; have GE21009 := n5_; clear n0_ n1_ n2_ n3_ n4_ n5_; clear hb hbox hg; have hcz23_0 : w22.cell? ⟨gb21009, 0, none⟩ = some (.int .i64 0) := (blk_cell BK21009.out 0).trans rfl; have hcz23_1 : w22.cell? ⟨gb21009, 1, none⟩ = some (.int .i64 0) := (blk_cell BK21009.out 1).trans rfl; have hcz23_2 : w22.cell? ⟨gb21009, 2, none⟩ = some (.int .i64 0) := (blk_cell BK21009.out 2).trans rfl; have hfz23_0 := blk_frozen BK21009.out 0; have hfz23_1 := blk_frozen BK21009.out 1; have hfz23_2 := blk_frozen BK21009.out 2) | ((with_reducible refine gate_callee (f := 12) rfl ?_); refine goesL_ (some 35) rfl rfl Try.func12 (by kernel_rfl) rfl #[.slice A0 l0.length c0, .int .i64 ((rd_T49 t21005 x27_1).f0)] rfl (by (try simp only [List.map_toArray, List.map_cons, List.map_nil]); first | done | rfl | (simp only [List.length_drop, List.length_take]; rfl)) ?_; (with_reducible refine (block_Read.calls _ _ l0 ((rd_T49 t21005 x27_1).f0) t21010 t21011 _ ?side1 ?side2 A16.out).mono ?_); (case side1 => exact Kd.C_below HR0.out (by repeat (first | (with_reducible first | exact HB.out | apply below_alloc | apply pw_below_drewN | apply below_drew1 | refine below_set ?_ GE21009.out) | exact HB.out))); (case side2 => exact HC0.out); rintro e w24 ⟨v21012, rfl, ho0, hb⟩; refine ⟨_, rfl, ?_⟩; have n0_ := Aside0.mk (Kd.R_elder' (by (with_reducible repeat (first | apply Kd.R_alloc | apply Kd.R_drewN | apply Kd.R_drew)); exact (Kd.R_mono (Kd.R_far (p := ⟨gb21009, 2, none⟩) (Kd.R_far (p := ⟨gb21009, 1, none⟩) (Kd.R_far (p := ⟨gb21009, 0, none⟩) (Kd.R_types HO_9.out BK21009.out (by decide)) (fun _ hk => hk.2) (.int .i64 ((rd_T49 t21005 x27_1).f0))) (fun _ hk => hk.2) (.int .i64 ((rd_T49 t21005 x27_1).f1))) (fun _ hk => hk.2) (.int .i64 ((rd_T49 t21005 x27_1).f2))) (fun _ h_ => h_.1))) (Kd.R_base ho0) hb); have n1_ := Aside0.mk (Kd.R_below (by (with_reducible repeat (first | apply Kd.R_alloc | apply Kd.R_drewN | apply Kd.R_drew)); exact (Kd.R_mono (Kd.R_far (p := ⟨gb21009, 2, none⟩) (Kd.R_far (p := ⟨gb21009, 1, none⟩) (Kd.R_far (p := ⟨gb21009, 0, none⟩) (Kd.R_mono HO_25.out (fun k_ hk => (⟨hk, hk.2⟩ : _ ∧ k_ ≠ gb21009))) (fun _ hk => hk.2) (.int .i64 ((rd_T49 t21005 x27_1).f0))) (fun _ hk => hk.2) (.int .i64 ((rd_T49 t21005 x27_1).f1))) (fun _ hk => hk.2) (.int .i64 ((rd_T49 t21005 x27_1).f2))) (fun _ h_ => h_.1))) hb); have n2_ := Aside0.mk (Kd.R_lower (Kd.R_new' ho0 (Kd.R_lt (by (with_reducible repeat (first | apply Kd.R_alloc | apply Kd.R_drewN | apply Kd.R_drew)); exact (Kd.R_mono (Kd.R_far (p := ⟨gb21009, 2, none⟩) (Kd.R_far (p := ⟨gb21009, 1, none⟩) (Kd.R_far (p := ⟨gb21009, 0, none⟩) (Kd.R_types HO_9.out BK21009.out (by decide)) (fun _ hk => hk.2) (.int .i64 ((rd_T49 t21005 x27_1).f0))) (fun _ hk => hk.2) (.int .i64 ((rd_T49 t21005 x27_1).f1))) (fun _ hk => hk.2) (.int .i64 ((rd_T49 t21005 x27_1).f2))) (fun _ h_ => h_.1))))) (below_size (by repeat (first | (with_reducible first | exact HB.out | apply below_alloc | apply pw_below_drewN | apply below_drew1 | refine below_set ?_ GE21009.out) | exact HB.out)))); have n3_ := Aside0.mk (blk_below (g := gb21009) (o := .cells #[.int .i64 ((rd_T49 t21005 x27_1).f0), .int .i64 ((rd_T49 t21005 x27_1).f1), .int .i64 ((rd_T49 t21005 x27_1).f2)] 49 (0, 0)) (by (with_reducible repeat (first | refine blk_drewN ?_ _ | refine blk_drew ?_ | refine blk_alloc ?_ _)); refine blk_put (cs := #[.int .i64 ((rd_T49 t21005 x27_1).f0), .int .i64 ((rd_T49 t21005 x27_1).f1), .int .i64 0]) ?_ 2 _ rfl; (with_reducible repeat (first | refine blk_drewN ?_ _ | refine blk_drew ?_ | refine blk_alloc ?_ _)); refine blk_put (cs := #[.int .i64 ((rd_T49 t21005 x27_1).f0), .int .i64 0, .int .i64 0]) ?_ 1 _ rfl; (with_reducible repeat (first | refine blk_drewN ?_ _ | refine blk_drew ?_ | refine blk_alloc ?_ _)); refine blk_put (cs := #[.int .i64 0, .int .i64 0, .int .i64 0]) ?_ 0 _ rfl; (with_reducible repeat (first | refine blk_drewN ?_ _ | refine blk_drew ?_ | refine blk_alloc ?_ _)); exact BK21009.out) hb); have n4_ := Aside0.mk (below_step (by repeat (first | (with_reducible first | exact HB.out | apply below_alloc | apply pw_below_drewN | apply below_drew1 | refine below_set ?_ GE21009.out) | exact HB.out)) hb); clear HO_9; clear HO_25; clear BK21009; clear HB; have HO_9 := n0_; have HO_25 := n1_; have HO21013 := n2_; have BK21009 := n3_; have HB := n4_; clear n0_ n1_ n2_ n3_ n4_; (try clear hb); (try clear hb2); (try clear hk); (try clear hi); (try clear ho0); have hcz25_0 : w24.cell? ⟨gb21009, 0, none⟩ = some (.int .i64 ((rd_T49 t21005 x27_1).f0)) := (blk_cell BK21009.out 0).trans rfl; have hcz25_1 : w24.cell? ⟨gb21009, 1, none⟩ = some (.int .i64 ((rd_T49 t21005 x27_1).f1)) := (blk_cell BK21009.out 1).trans rfl; have hcz25_2 : w24.cell? ⟨gb21009, 2, none⟩ = some (.int .i64 ((rd_T49 t21005 x27_1).f2)) := (blk_cell BK21009.out 2).trans rfl; have hfz25_0 := blk_frozen BK21009.out 0; have hfz25_1 := blk_frozen BK21009.out 1; have hfz25_2 := blk_frozen BK21009.out 2; obtain ⟨Ao27, co27, eo27⟩ := Kd.R_slice HO21013.out; subst eo27; have q26 : ((wrap64 (((rd_T49 t21005 x27_1).f1) + ((rd_T49 t21005 x27_1).f2))) : Int) ≤ ((t21010.length : Int) : Int) := of_decide_eq_true (by first | (with_reducible assumption) | assumption); obtain ⟨i026, hi026, _, hsz26, _⟩ := info_parts info5; have hroom26 : t21010.length ≤ co27 := (Kd.R_reads' HO21013.out).2.1; have hC26 : Kd.C (Kd.int .u8) _ Ao27 t21010.length t21010 := (Kd.R_reads' HO21013.out).2.2; have ql26 : (((rd_T49 t21005 x27_1).f1) : Int) ≤ ((wrap64 (((rd_T49 t21005 x27_1).f1) + ((rd_T49 t21005 x27_1).f2))) : Int) := of_decide_eq_true (by first | (with_reducible assumption) | assumption); have q026 : (0 : Int) ≤ (((rd_T49 t21005 x27_1).f1) : Int) := of_decide_eq_true (by first | (with_reducible assumption) | assumption); have hcut26 := cut_mid (P := Try.prog) 30 5 .i64 .i64 Try.underlying30 hi026 1 hsz26 Ao27 t21010.length co27 ((rd_T49 t21005 x27_1).f1) (wrap64 (((rd_T49 t21005 x27_1).f1) + ((rd_T49 t21005 x27_1).f2))) q026 ql26 q26 hroom26; have hr26 := Kd.C_mid (lo := (((rd_T49 t21005 x27_1).f1) : Int).toNat) (hi := ((wrap64 (((rd_T49 t21005 x27_1).f1) + ((rd_T49 t21005 x27_1).f2))) : Int).toNat) (c := co27) hC26 (by omega) (by omega) hroom26; obtain ⟨A26, hA26⟩ : ∃ A1, A1 = (if co27 = (((rd_T49 t21005 x27_1).f1) : Int).toNat then Ao27 else (Ao27 : Option Addr).map (·.add ((((rd_T49 t21005 x27_1).f1) : Int).toNat * 1))) := ⟨_, rfl⟩; obtain ⟨c26, hc26⟩ : ∃ c1, c1 = co27 - (((rd_T49 t21005 x27_1).f1) : Int).toNat := ⟨_, rfl⟩; have hy26 : y21014.length = ((wrap64 (((rd_T49 t21005 x27_1).f1) + ((rd_T49 t21005 x27_1).f2))) : Int).toNat - (((rd_T49 t21005 x27_1).f1) : Int).toNat := (by rw [Ny21014.out, List.length_drop, List.length_take] <;> omega); rw [show ((t21010).take ((wrap64 (((rd_T49 t21005 x27_1).f1) + ((rd_T49 t21005 x27_1).f2))) : Int).toNat).drop (((rd_T49 t21005 x27_1).f1) : Int).toNat = y21014 from Ny21014.out.symm] at hr26; replace hr26 : Kd.C (Kd.int .u8) _ A26 y21014.length y21014 := (by rw [hA26]; exact hr26); rw [← hy26, ← hA26, ← hc26] at hcut26; have HR21017 := Aside0.mk hr26; have HC21017 := Aside0.mk (show y21014.length ≤ c26 from by rw [hy26, hc26]; exact Nat.sub_le_sub_right (Nat.le_trans (by omega) hroom26) _); clear hr26 hC26 hroom26 hi026 hsz26 hc26; have KY26 := Aside0.mk hy26; have KA26 := Aside0.mk hA26; clear hy26 hA26; have KL26 := Aside0.mk (show ((wrap64 (((rd_T49 t21005 x27_1).f1) + ((rd_T49 t21005 x27_1).f2))) : Int).toNat ≤ t21010.length from by omega); have KM26 := Aside0.mk (show (((rd_T49 t21005 x27_1).f1) : Int).toNat ≤ ((wrap64 (((rd_T49 t21005 x27_1).f1) + ((rd_T49 t21005 x27_1).f2))) : Int).toNat from by omega); replace q26 := eq_true q26) | ((with_reducible refine gate_builtin (b := .append) (xs := #[.tmp 41, .tmp 50]) rfl ?_); at_builtin; refine Kd.R_append_rows (Kd.int .u8) (w0 := w) w.heap.size rfl (.tmp 41) (.tmp 50) 30 5 (.int .u8 0) 1 rfl Try.underlying30 info5 rfl (by decide) (by omega) u9 x9_1 y21014 _ _ _ (fun k_ => some k_ ≠ (.slice Ao27 t21010.length co27 : Value).ownBlock) (fun _ => False) rfl rfl ?aO ?aR (fun _ _ h => h) (fun _ h => h.elim) ?aF ?aB ?aS ?aL ?_; (case aR => repeat (first | exact (by repeat (first | (with_reducible exact HR21017.out) | (with_reducible refine Kd.C_alloc ?_ _) | (with_reducible refine Kd.C_drewN ?_ _) | (with_reducible refine Kd.C_drew ?_) | exact HR21017.out)) | (with_reducible refine Kd.C_alloc ?_ _) | (with_reducible refine Kd.C_drewN ?_ _) | (with_reducible refine Kd.C_drew ?_))); (case aB => exact (by repeat (first | (with_reducible first | exact HB.out | apply below_alloc | apply pw_below_drewN | apply below_drew1 | refine below_set ?_ GE21009.out) | exact HB.out))); (case aF => exact (fun k_ hk => Kd.fresh' (Kd.R_lt (by (with_reducible repeat (first | apply Kd.R_alloc | apply Kd.R_drewN | apply Kd.R_drew)); exact HO21013.out)) k_ hk)); (case aO => exact (by (with_reducible repeat (first | apply Kd.R_alloc | apply Kd.R_drewN | apply Kd.R_drew)); exact Kd.R_mono HO_9.out (fun _ hk => hk.2))); (case aS => exact (below_size (by repeat (first | (with_reducible first | exact HB.out | apply below_alloc | apply pw_below_drewN | apply below_drew1 | refine below_set ?_ GE21009.out) | exact HB.out)))); (case aL => have := LMc21.out; omega); intro v21019 w28 ho hb hg hat; rw [← Ny21018.out] at ho; have n0_ := Aside0.mk (Kd.R_over' (by (with_reducible repeat (first | apply Kd.R_alloc | apply Kd.R_drewN | apply Kd.R_drew)); exact HO_25.out) (Kd.R_typed (by (with_reducible repeat (first | apply Kd.R_alloc | apply Kd.R_drewN | apply Kd.R_drew)); exact HO_9.out)) (by decide) hg); have n1_ := Aside0.mk (blk_grown (g := gb21009) (o := .cells #[.int .i64 ((rd_T49 t21005 x27_1).f0), .int .i64 ((rd_T49 t21005 x27_1).f1), .int .i64 ((rd_T49 t21005 x27_1).f2)] 49 (0, 0)) (by (with_reducible repeat (first | refine blk_drewN ?_ _ | refine blk_drew ?_ | refine blk_alloc ?_ _)); exact BK21009.out) hg (Kd.R_ne HO_9.out BK21009.out (by decide))); have n2_ := Aside0.mk (Kd.R_after (ok := (fun _ => True)) (by (with_reducible repeat (first | apply Kd.R_alloc | apply Kd.R_drewN | apply Kd.R_drew)); exact HO21013.out) hg hat); have n3_ := Aside0.mk (hb); have n4_ := Aside0.mk ((show Kd.C (Kd.int .u8) w28 A26 y21014.length y21014 from by rw [Ny21014.out, KA26.out]; exact Kd.C_mid (lo := (((rd_T49 t21005 x27_1).f1) : Int).toNat) (hi := ((wrap64 (((rd_T49 t21005 x27_1).f1) + ((rd_T49 t21005 x27_1).f2))) : Int).toNat) (c := co27) ((Kd.R_reads' (Kd.R_after (ok := (fun _ => True)) (by (with_reducible repeat (first | apply Kd.R_alloc | apply Kd.R_drewN | apply Kd.R_drew)); exact HO21013.out) hg hat)).2.2) KM26.out KL26.out ((Kd.R_reads' (Kd.R_after (ok := (fun _ => True)) (by (with_reducible repeat (first | apply Kd.R_alloc | apply Kd.R_drewN | apply Kd.R_drew)); exact HO21013.out) hg hat)).2.1))); have n5_ := Aside0.mk (ho); clear HO_25; clear BK21009; clear HO21013; clear HB; clear HR21017; clear HO_9; have HO_25 := n0_; have BK21009 := n1_; have HO21013 := n2_; have HB := n3_; have HR21017 := n4_; have HO21020 := n5_; clear n0_ n1_ n2_ n3_ n4_ n5_; clear ho hb hg hat))
                            go_roundg k1
                            case measure => have := HK1.out; omega
                            case rel => exact ⟨(y21018), (wrap64 (x27_1 + 1)), (by first | rfl | (simp; done) | (simp [*]; done)), H', ⟨by have := HK1.out; omega⟩, ⟨by (with_reducible repeat (first | apply Kd.R_alloc | apply Kd.R_drewN | apply Kd.R_drew)); exact Kd.R_mono HO21020.out (fun _ hk => trivial)⟩, ⟨by (with_reducible repeat (first | apply Kd.R_alloc | apply Kd.R_drewN | apply Kd.R_drew)); exact Kd.R_mono HO_25.out (fun _ hk => trivial)⟩, ⟨by repeat (first | (with_reducible first | exact HB.out | apply below_alloc | apply pw_below_drewN | apply below_drew1 | refine below_set ?_ GE21009.out) | exact HB.out)⟩⟩
                          · rw [if_neg c21] at H
                            exact absurd H (by simp)
                        · rw [if_neg c20] at H
                          exact absurd H (by simp)
                      · rw [if_neg c19] at H
                        exact absurd H (by simp)
                    · rw [if_neg c18] at H
                      exact absurd H (by simp)
                  · rw [if_neg c17] at H
                    have c17b0 : (t21011 == 0) = false := beq_eq_false_iff_ne.mpr c17
                    have c17b1 : (t21011 != 0) = true := bne_iff_ne.mpr c17
                    simp only [Option.some.injEq, Prod.mk.injEq] at H
                    obtain ⟨rfl, rfl⟩ := H
                    have p21008 : 0 ≤ (x27_1 : Int) := of_decide_eq_true (by first | (with_reducible assumption) | assumption)
                    have q21008 : x27_1 < (t21005.length : Int) := of_decide_eq_true (by first | (with_reducible assumption) | assumption)
                    obtain ⟨ad21008, e21008, hx21008_0, hx21008_1, hx21008_2⟩ := at_T49 (Kd.R_reads' HO_25.out).2.2 x27_1 p21008 q21008
                    cases e21008
                    replace p21008 := eq_true p21008
                    replace q21008 := eq_true q21008
                    go_wp2_with (first | ((with_reducible refine gate_dst (N := 11) rfl ?_); refine box_event ?hg (N := 11) ?hd (cs := #[.int .i64 0, .int .i64 0, .int .i64 0]) (t := 49) ?hr ?_; (case hd => rfl); (case hg => rfl); (case hr => first | (go_simp; done) | (go_simp; rfl)); intro gb21009 hg w29 hbox hb; have n0_ := Aside0.mk (Kd.R_below (by (with_reducible repeat (first | apply Kd.R_alloc | apply Kd.R_drewN | apply Kd.R_drew)); exact HO_9.out) hb); have n1_ := Aside0.mk (Kd.R_below (Kd.R_elderB (by (with_reducible repeat (first | apply Kd.R_alloc | apply Kd.R_drewN | apply Kd.R_drew)); exact HO_25.out) gb21009 (Nat.le_of_eq hg.symm)) hb); have n2_ := Aside0.mk (below_step (by repeat (first | (with_reducible first | exact HB.out | apply below_alloc | apply pw_below_drewN | apply below_drew1) | exact HB.out)) hb); have n3_ := Aside0.mk (hbox); have n4_ := Aside0.mk ((by rw [hg]; exact (below_size (by repeat (first | (with_reducible first | exact HB.out | apply below_alloc | apply pw_below_drewN | apply below_drew1) | exact HB.out))) : w.heap.size ≤ gb21009)); have n5_ := Aside0.mk ((by rw [hg]; exact (below_size (by repeat (first | (with_reducible first | exact HB.out | apply below_alloc | apply pw_below_drewN | apply below_drew1) | exact HB.out))) : w.heap.size ≤ gb21009)); clear HO_9; clear HO_25; clear HB; have HO_9 := n0_; have HO_25 := n1_; have HB := n2_; have BK21009 := n3_; have GW21009 := n4_; have GE21009 := n5_; clear n0_ n1_ n2_ n3_ n4_ n5_; clear hb hbox hg; have hcz30_0 : w29.cell? ⟨gb21009, 0, none⟩ = some (.int .i64 0) := (blk_cell BK21009.out 0).trans rfl; have hcz30_1 : w29.cell? ⟨gb21009, 1, none⟩ = some (.int .i64 0) := (blk_cell BK21009.out 1).trans rfl; have hcz30_2 : w29.cell? ⟨gb21009, 2, none⟩ = some (.int .i64 0) := (blk_cell BK21009.out 2).trans rfl; have hfz30_0 := blk_frozen BK21009.out 0; have hfz30_1 := blk_frozen BK21009.out 1; have hfz30_2 := blk_frozen BK21009.out 2) | ((with_reducible refine gate_callee (f := 12) rfl ?_); refine goesL_ (some 35) rfl rfl Try.func12 (by kernel_rfl) rfl #[.slice A0 l0.length c0, .int .i64 ((rd_T49 t21005 x27_1).f0)] rfl (by (try simp only [List.map_toArray, List.map_cons, List.map_nil]); first | done | rfl | (simp only [List.length_drop, List.length_take]; rfl)) ?_; (with_reducible refine (block_Read.calls _ _ l0 ((rd_T49 t21005 x27_1).f0) t21010 t21011 _ ?side1 ?side2 A16.out).mono ?_); (case side1 => exact Kd.C_below HR0.out (by repeat (first | (with_reducible first | exact HB.out | apply below_alloc | apply pw_below_drewN | apply below_drew1 | refine below_set ?_ GE21009.out) | exact HB.out))); (case side2 => exact HC0.out); rintro e w31 ⟨v21012, rfl, ho0, hb⟩; refine ⟨_, rfl, ?_⟩; have n0_ := Aside0.mk (Kd.R_elder' (by (with_reducible repeat (first | apply Kd.R_alloc | apply Kd.R_drewN | apply Kd.R_drew)); exact (Kd.R_mono (Kd.R_far (p := ⟨gb21009, 2, none⟩) (Kd.R_far (p := ⟨gb21009, 1, none⟩) (Kd.R_far (p := ⟨gb21009, 0, none⟩) (Kd.R_types HO_9.out BK21009.out (by decide)) (fun _ hk => hk.2) (.int .i64 ((rd_T49 t21005 x27_1).f0))) (fun _ hk => hk.2) (.int .i64 ((rd_T49 t21005 x27_1).f1))) (fun _ hk => hk.2) (.int .i64 ((rd_T49 t21005 x27_1).f2))) (fun _ h_ => h_.1))) (Kd.R_base ho0) hb); have n1_ := Aside0.mk (Kd.R_below (by (with_reducible repeat (first | apply Kd.R_alloc | apply Kd.R_drewN | apply Kd.R_drew)); exact (Kd.R_mono (Kd.R_far (p := ⟨gb21009, 2, none⟩) (Kd.R_far (p := ⟨gb21009, 1, none⟩) (Kd.R_far (p := ⟨gb21009, 0, none⟩) (Kd.R_mono HO_25.out (fun k_ hk => (⟨hk, hk.2⟩ : _ ∧ k_ ≠ gb21009))) (fun _ hk => hk.2) (.int .i64 ((rd_T49 t21005 x27_1).f0))) (fun _ hk => hk.2) (.int .i64 ((rd_T49 t21005 x27_1).f1))) (fun _ hk => hk.2) (.int .i64 ((rd_T49 t21005 x27_1).f2))) (fun _ h_ => h_.1))) hb); have n2_ := Aside0.mk (Kd.R_lower (Kd.R_new' ho0 (Kd.R_lt (by (with_reducible repeat (first | apply Kd.R_alloc | apply Kd.R_drewN | apply Kd.R_drew)); exact (Kd.R_mono (Kd.R_far (p := ⟨gb21009, 2, none⟩) (Kd.R_far (p := ⟨gb21009, 1, none⟩) (Kd.R_far (p := ⟨gb21009, 0, none⟩) (Kd.R_types HO_9.out BK21009.out (by decide)) (fun _ hk => hk.2) (.int .i64 ((rd_T49 t21005 x27_1).f0))) (fun _ hk => hk.2) (.int .i64 ((rd_T49 t21005 x27_1).f1))) (fun _ hk => hk.2) (.int .i64 ((rd_T49 t21005 x27_1).f2))) (fun _ h_ => h_.1))))) (below_size (by repeat (first | (with_reducible first | exact HB.out | apply below_alloc | apply pw_below_drewN | apply below_drew1 | refine below_set ?_ GE21009.out) | exact HB.out)))); have n3_ := Aside0.mk (blk_below (g := gb21009) (o := .cells #[.int .i64 ((rd_T49 t21005 x27_1).f0), .int .i64 ((rd_T49 t21005 x27_1).f1), .int .i64 ((rd_T49 t21005 x27_1).f2)] 49 (0, 0)) (by (with_reducible repeat (first | refine blk_drewN ?_ _ | refine blk_drew ?_ | refine blk_alloc ?_ _)); refine blk_put (cs := #[.int .i64 ((rd_T49 t21005 x27_1).f0), .int .i64 ((rd_T49 t21005 x27_1).f1), .int .i64 0]) ?_ 2 _ rfl; (with_reducible repeat (first | refine blk_drewN ?_ _ | refine blk_drew ?_ | refine blk_alloc ?_ _)); refine blk_put (cs := #[.int .i64 ((rd_T49 t21005 x27_1).f0), .int .i64 0, .int .i64 0]) ?_ 1 _ rfl; (with_reducible repeat (first | refine blk_drewN ?_ _ | refine blk_drew ?_ | refine blk_alloc ?_ _)); refine blk_put (cs := #[.int .i64 0, .int .i64 0, .int .i64 0]) ?_ 0 _ rfl; (with_reducible repeat (first | refine blk_drewN ?_ _ | refine blk_drew ?_ | refine blk_alloc ?_ _)); exact BK21009.out) hb); have n4_ := Aside0.mk (below_step (by repeat (first | (with_reducible first | exact HB.out | apply below_alloc | apply pw_below_drewN | apply below_drew1 | refine below_set ?_ GE21009.out) | exact HB.out)) hb); clear HO_9; clear HO_25; clear BK21009; clear HB; have HO_9 := n0_; have HO_25 := n1_; have HO21013 := n2_; have BK21009 := n3_; have HB := n4_; clear n0_ n1_ n2_ n3_ n4_; (try clear hb); (try clear hb2); (try clear hk); (try clear hi); (try clear ho0)))
                    go_ret2
                    exact ⟨_, by first | rfl | (simp [errW_none, errW_some] <;> rfl) | (simp [*, errW_none, errW_some] <;> rfl), by first | exact Kd.R_nil _ _ _ _ _ | exact Kd.N_nil _ _ _ _ _ | exact Kd.V_nil _ _ _ _ _ | exact Kd.Q_nil _ _ _ _ _ | exact Kd.S_nil _ _ _ _ _, by repeat (first | (with_reducible first | exact HB.out | apply below_alloc | apply pw_below_drewN | apply below_drew1 | refine below_set ?_ GE21009.out) | exact HB.out)⟩
                · rw [if_neg c15] at H
                  exact absurd H (by simp)
              · rw [if_neg c14] at H
                exact absurd H (by simp)
            · rw [if_neg c13] at H
              have c13b0 : decide (x27_1 < (t21005.length : Int)) = false := decide_eq_false c13
              clear c13
              simp only [Option.some.injEq, Prod.mk.injEq] at H
              obtain ⟨rfl, rfl⟩ := H
              go_wp2
              go_ret2
              exact ⟨_, by first | rfl | (simp [errW_none, errW_some] <;> rfl) | (simp [*, errW_none, errW_some] <;> rfl), by (with_reducible repeat (first | apply Kd.R_alloc | apply Kd.R_drewN | apply Kd.R_drew)); exact HO_9.out, by repeat (first | (with_reducible first | exact HB.out | apply below_alloc | apply pw_below_drewN | apply below_drew1) | exact HB.out)⟩
      · rw [if_neg c7] at H
        exact absurd H (by simp)
    · rw [if_neg c6] at H
      exact absurd H (by simp)
  · rw [if_neg c5] at H
    have c5b0 : (t21001 == 0) = false := beq_eq_false_iff_ne.mpr c5
    have c5b1 : (t21001 != 0) = true := bne_iff_ne.mpr c5
    simp only [Option.some.injEq, Prod.mk.injEq] at H
    obtain ⟨rfl, rfl⟩ := H
    go_enter Try.func20, Try.ntmps20
    go_wp2_with (first | ((with_reducible refine gate_callee (f := 27) rfl ?_); refine goesL_ (some 17) rfl rfl Try.func27 (by kernel_rfl) rfl #[.slice A0 l0.length c0, .int .i64 a1, .int .i64 a2] rfl (by (try simp only [List.map_toArray, List.map_cons, List.map_nil]); first | done | rfl | (simp only [List.length_drop, List.length_take]; rfl)) ?_; (with_reducible refine (block_stretch.calls _ _ l0 a1 a2 t21001 _ ?side1 ?side2 A4.out).mono ?_); (case side1 => repeat (first | exact HR0.out | (with_reducible refine Kd.C_alloc ?_ _) | (with_reducible refine Kd.C_drewN ?_ _) | (with_reducible refine Kd.C_drew ?_))); (case side2 => exact HC0.out); rintro e w' ⟨rfl, ⟨nd, rfl⟩⟩; refine ⟨_, rfl, ?_⟩))
    go_ret2
    exact ⟨_, by first | rfl | (simp [errW_none, errW_some] <;> rfl) | (simp [*, errW_none, errW_some] <;> rfl), by first | exact Kd.R_nil _ _ _ _ _ | exact Kd.N_nil _ _ _ _ _ | exact Kd.V_nil _ _ _ _ _ | exact Kd.Q_nil _ _ _ _ _ | exact Kd.S_nil _ _ _ _ _, by repeat (first | (with_reducible first | exact HB.out | apply below_alloc | apply pw_below_drewN | apply below_drew1) | exact HB.out)⟩

end Go.Proofs.Ytpjlhehmobhijaa.Q
