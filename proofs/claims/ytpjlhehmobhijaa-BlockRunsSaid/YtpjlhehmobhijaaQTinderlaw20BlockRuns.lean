/- What Go functions of this program answer, as plain Lean functions, and that the calls answer so, wherever the plain function has an answer. Written by a program of this claim's own out of the translation. -/
import Derived.Test.YtpjlhehmobhijaaQ0
import Derived.Test.YtpjlhehmobhijaaQBlockGet
import Derived.Test.YtpjlhehmobhijaaQTinderlaw20Alive
import Derived.Test.YtpjlhehmobhijaaQTinderref04Copy
import Derived.Test.YtpjlhehmobhijaaQTinderref04Same
import Derived.Test.YtpjlhehmobhijaaQTinderref20In
import Derived.Test.YtpjlhehmobhijaaHBlockPut
namespace Go.Proofs.Ytpjlhehmobhijaa.Q
open Go.RowKit Go.Proofs.YtpjlhehmobhijaaW.PrintWords Go.Proofs.YtpjlhehmobhijaaW.PrintLast Go.Proofs.YtpjlhehmobhijaaW.PrintMore
set_option linter.unusedVariables false
set_option linter.unusedSimpArgs false

attribute [local go_sem] max2_int min2_int max_two min_two max_three min_three max_four min_four
/-! ### tinderlaw20_BlockRuns: function 7 -/
mutual
def tinderlaw20_BlockRuns.l0 : Nat → List (S43) → List Int → List Int → Int → Int → Int → Option (Bool)
  | 0, _, _, _, _, _, _ => none
  | k + 1, x1, x7, x8, x9, x8002000, x8002001 => if x9 < (x1.length : Int) then (if 0 ≤ x9 then ((block_Put.f x7 ((rd_T43 x1 x9).f0) ((rd_T43 x1 x9).f1)).bind fun bt8011 => ((tinderref20_In.f x8 ((rd_T43 x1 x9).f0) (((rd_T43 x1 x9).f1).length : Int)).bind fun t8017 => (if t8017 = true then (if bt8011.2 = 0 then (tinderlaw20_BlockRuns.l1 k x1 bt8011.1 x8 x9 0 x8002000 x8002001) else (some false)) else (if bt8011.2 = 23 then (tinderlaw20_BlockRuns.l0 k x1 x7 x8 (wrap64 (x9 + 1)) x8002000 x8002001) else (some false))))) else (none)) else ((block_Get.f k x7 x8002000 x8002001).bind fun bt8023 => ((tinderref20_In.f x8 x8002000 x8002001).bind fun t8027 => (if t8027 = true then (if bt8023.2 = 0 then (if 0 ≤ x8002000 then (if x8002000 ≤ (wrap64 (x8002000 + x8002001)) then (if (wrap64 (x8002000 + x8002001)) ≤ (x8.length : Int) then ((tinderref04_Same.f bt8023.1 ((x8.take ((wrap64 (x8002000 + x8002001)) : Int).toNat).drop (x8002000 : Int).toNat)).bind fun t8032 => (if t8032 = true then ((tinderref04_Same.f x7 x8).bind fun t8033 => (some t8033)) else (some false))) else (none)) else (none)) else (none)) else (some false)) else (if bt8023.2 = 23 then (some ((bt8023.1.length : Int) == 0)) else (some false)))))
def tinderlaw20_BlockRuns.l1 : Nat → List (S43) → List Int → List Int → Int → Int → Int → Int → Option (Bool)
  | 0, _, _, _, _, _, _, _ => none
  | k + 1, x1, x7, x8, x9, x12, x8002000, x8002001 => if 0 ≤ x9 then (if x9 < (x1.length : Int) then (if x12 < (((rd_T43 x1 x9).f1).length : Int) then (if 0 ≤ x12 then (if 0 ≤ (wrap64 (((rd_T43 x1 x9).f0) + x12)) then (if (wrap64 (((rd_T43 x1 x9).f0) + x12)) < (x8.length : Int) then (tinderlaw20_BlockRuns.l1 k x1 x7 (x8.set ((wrap64 (((rd_T43 x1 x9).f0) + x12)) : Int).toNat (rd ((rd_T43 x1 x9).f1) x12)) x9 (wrap64 (x12 + 1)) x8002000 x8002001) else (none)) else (none)) else (none)) else (tinderlaw20_BlockRuns.l0 k x1 x7 x8 (wrap64 (x9 + 1)) x8002000 x8002001)) else (none)) else (none)
end
def tinderlaw20_BlockRuns.f (k : Nat) (a0 : Int) (l1 : List (S43)) (a2_0 : Int) (a2_1 : Int) : Option (Bool) := (tinderlaw20_alive.f k).bind fun t8002 => (if t8002 = true then (if (l1.length : Int) > 60 then (some true) else (if 0 ≤ (wrap64 (512 * (Int.tmod (wrap64 (a0)) 8))) then (if (wrap64 (512 * (Int.tmod (wrap64 (a0)) 8)) : Int).toNat ≤ 281474976710656 then ((some (List.replicate (wrap64 (512 * (Int.tmod (wrap64 (a0)) 8)) : Int).toNat 0 : List Int)).bind fun y8003 => ((tinderref04_Copy.f y8003).bind fun t8006 => (tinderlaw20_BlockRuns.l0 k l1 y8003 t8006 0 a2_0 a2_1))) else (none)) else (none))) else (some false))
theorem tinderlaw20_BlockRuns.mono_l : ∀ k, (∀ y0 y1 y2 y3 y4 y5, LeO (tinderlaw20_BlockRuns.l0 k y0 y1 y2 y3 y4 y5) (tinderlaw20_BlockRuns.l0 (k + 1) y0 y1 y2 y3 y4 y5)) ∧ (∀ y0 y1 y2 y3 y4 y5 y6, LeO (tinderlaw20_BlockRuns.l1 k y0 y1 y2 y3 y4 y5 y6) (tinderlaw20_BlockRuns.l1 (k + 1) y0 y1 y2 y3 y4 y5 y6))
  | 0 => ⟨fun _ _ _ _ _ _ r h => by simp [tinderlaw20_BlockRuns.l0] at h, fun _ _ _ _ _ _ _ r h => by simp [tinderlaw20_BlockRuns.l1] at h⟩
  | k + 1 => by
    obtain ⟨ih0, ih1⟩ := tinderlaw20_BlockRuns.mono_l k
    refine ⟨?_, ?_⟩
    · intro y0 y1 y2 y3 y4 y5
      unfold tinderlaw20_BlockRuns.l0
      repeat' first
      | (with_reducible exact ih0 _ _ _ _ _ _)
      | (with_reducible exact ih1 _ _ _ _ _ _ _)
      | (with_reducible exact block_Get.mono _ _ _ _)
      | (with_reducible exact tinderlaw20_alive.mono _)
      | (with_reducible exact LeO.refl _)
      | (with_reducible exact LeO.none _)
      | (with_reducible refine LeO.ite ?_ ?_)
      | (with_reducible refine LeO.bind ?_ (fun _ => ?_))
      | exact ih0 _ _ _ _ _ _
      | exact ih1 _ _ _ _ _ _ _
      | exact block_Get.mono _ _ _ _
      | exact tinderlaw20_alive.mono _
      | exact LeO.none _
      | refine LeO.ite ?_ ?_
      | refine LeO.bind ?_ (fun _ => ?_)
    · intro y0 y1 y2 y3 y4 y5 y6
      unfold tinderlaw20_BlockRuns.l1
      repeat' first
      | (with_reducible exact ih0 _ _ _ _ _ _)
      | (with_reducible exact ih1 _ _ _ _ _ _ _)
      | (with_reducible exact block_Get.mono _ _ _ _)
      | (with_reducible exact tinderlaw20_alive.mono _)
      | (with_reducible exact LeO.refl _)
      | (with_reducible exact LeO.none _)
      | (with_reducible refine LeO.ite ?_ ?_)
      | (with_reducible refine LeO.bind ?_ (fun _ => ?_))
      | exact ih0 _ _ _ _ _ _
      | exact ih1 _ _ _ _ _ _ _
      | exact block_Get.mono _ _ _ _
      | exact tinderlaw20_alive.mono _
      | exact LeO.none _
      | refine LeO.ite ?_ ?_
      | refine LeO.bind ?_ (fun _ => ?_)
theorem tinderlaw20_BlockRuns.mono : ∀ a0 a1 a2 a3 k, LeO (tinderlaw20_BlockRuns.f k a0 a1 a2 a3) (tinderlaw20_BlockRuns.f (k + 1) a0 a1 a2 a3) := by
  intro a0 a1 a2 a3 k
  obtain ⟨ih0, ih1⟩ := tinderlaw20_BlockRuns.mono_l k
  unfold tinderlaw20_BlockRuns.f
  repeat' first
      | (with_reducible exact ih0 _ _ _ _ _ _)
      | (with_reducible exact ih1 _ _ _ _ _ _ _)
      | (with_reducible exact block_Get.mono _ _ _ _)
      | (with_reducible exact tinderlaw20_alive.mono _)
      | (with_reducible exact LeO.refl _)
      | (with_reducible exact LeO.none _)
      | (with_reducible refine LeO.ite ?_ ?_)
      | (with_reducible refine LeO.bind ?_ (fun _ => ?_))
      | exact ih0 _ _ _ _ _ _
      | exact ih1 _ _ _ _ _ _ _
      | exact block_Get.mono _ _ _ _
      | exact tinderlaw20_alive.mono _
      | exact LeO.none _
      | refine LeO.ite ?_ ?_
      | refine LeO.bind ?_ (fun _ => ?_)
def tinderlaw20_BlockRuns.T10 : Bool × List (List Nat × List Nat) := (true, [([], []), ([], []), ([], []), ([1, 2], [1, 2]), ([3], [3]), ([4], [4]), ([], []), ([], []), ([6, 7], [6, 7]), ([8], [8]), ([9], [9]), ([0, 5, 10], [0, 5, 10]), ([11], [11]), ([12], [12]), ([12], [12]), ([13, 11, 0, 1, 2, 3, 4, 5, 6, 7, 8, 9, 10, 11, 12, 13], [13]), ([14, 15, 0, 1, 2, 3, 4, 5, 6, 7, 8, 9, 10, 11, 12, 13, 14, 15], [14])])
def tinderlaw20_BlockRuns.B10 : List Nat := [0, 0, 0, 6, 14, 30, 0, 0, 192, 448, 960, 2047, 4095, 8191, 8191, 16383, 65535]
theorem tinderlaw20_BlockRuns.tab10 : rtab .any (opsOf Try.f7 10) = tinderlaw20_BlockRuns.T10 := by kernel_rfl
theorem tinderlaw20_BlockRuns.bits10 : waitsOk tinderlaw20_BlockRuns.T10.2 tinderlaw20_BlockRuns.B10 = true := by kernel_rfl
def tinderlaw20_BlockRuns.T11 : Bool × List (List Nat × List Nat) := (true, [([], []), ([], []), ([], []), ([1, 2], [1, 2]), ([3], [3]), ([4], [4]), ([], []), ([], []), ([6, 7], [6, 7]), ([8], [8]), ([9], [9]), ([10], [10]), ([0, 5, 11], [0, 5, 11]), ([12], [12])])
def tinderlaw20_BlockRuns.B11 : List Nat := [0, 0, 0, 6, 14, 30, 0, 0, 192, 448, 960, 1984, 4095, 8191]
theorem tinderlaw20_BlockRuns.tab11 : rtab .any (opsOf Try.f7 11) = tinderlaw20_BlockRuns.T11 := by kernel_rfl
theorem tinderlaw20_BlockRuns.bits11 : waitsOk tinderlaw20_BlockRuns.T11.2 tinderlaw20_BlockRuns.B11 = true := by kernel_rfl
def tinderlaw20_BlockRuns.T20 : Bool × List (List Nat × List Nat) := (true, [([], []), ([], []), ([], []), ([1, 2], [1, 2]), ([3], [3]), ([4], [4]), ([], []), ([5, 6], [5, 6]), ([], []), ([], []), ([8, 9], [8, 9]), ([10], [10]), ([11], [11]), ([], []), ([12, 13], [12, 13]), ([14], [14]), ([0, 7, 0, 1, 2, 3, 4, 5, 6, 7, 8, 9, 10, 11, 12, 13, 14, 15], [0, 7]), ([16, 15, 0, 1, 2, 3, 4, 5, 6, 7, 8, 9, 10, 11, 12, 13, 14, 15], [15, 16])])
def tinderlaw20_BlockRuns.B20 : List Nat := [0, 0, 0, 6, 14, 30, 0, 126, 0, 0, 768, 1792, 3840, 0, 16128, 32512, 65535, 131071]
theorem tinderlaw20_BlockRuns.tab20 : rtab .any (opsOf Try.f7 20) = tinderlaw20_BlockRuns.T20 := by kernel_rfl
theorem tinderlaw20_BlockRuns.bits20 : waitsOk tinderlaw20_BlockRuns.T20.2 tinderlaw20_BlockRuns.B20 = true := by kernel_rfl
set_option maxHeartbeats 8000000 in
set_option maxRecDepth 100000 in
theorem tinderlaw20_BlockRuns.calls (k : Nat) (a0 : Int) (A1 : Option Addr) (c1 : Nat) (l1 : List (S43)) (a2_0 : Int) (a2_1 : Int) (r : Bool) (w : World) (hr1 : Kd.C k43 w A1 l1.length l1) (hc1 : l1.length ≤ c1) (h : tinderlaw20_BlockRuns.f k a0 l1 a2_0 a2_1 = some r) :
    Calls Try.prog 7 #[.int .u8 a0, .slice A1 l1.length c1, .agg #[.int .i64 a2_0, .int .i64 a2_1]] w fun e w' => e = .returned (.bool r) ∧ Below w.heap.size w w' := by
  have hu38 := Try.underlying38
  have HR1 := Aside0.mk hr1
  have HC1 := Aside0.mk hc1
  clear hr1 hc1
  have HB := Aside0.mk (Below.refl w.heap.size w)
  have H : ((tinderlaw20_alive.f k).bind fun t8002 => (if t8002 = true then (if (l1.length : Int) > 60 then (some true) else (if 0 ≤ (wrap64 (512 * (Int.tmod (wrap64 (a0)) 8))) then (if (wrap64 (512 * (Int.tmod (wrap64 (a0)) 8)) : Int).toNat ≤ 281474976710656 then ((some (List.replicate (wrap64 (512 * (Int.tmod (wrap64 (a0)) 8)) : Int).toNat 0 : List Int)).bind fun y8003 => ((tinderref04_Copy.f y8003).bind fun t8006 => (tinderlaw20_BlockRuns.l0 k l1 y8003 t8006 0 a2_0 a2_1))) else (none)) else (none))) else (some false))) = some r := h
  clear h
  replace H := Option.bind_eq_some_iff.mp H
  obtain ⟨t8002, A40, H⟩ := H
  replace H : (if t8002 = true then (if (l1.length : Int) > 60 then (some true) else (if 0 ≤ (wrap64 (512 * (Int.tmod (wrap64 (a0)) 8))) then (if (wrap64 (512 * (Int.tmod (wrap64 (a0)) 8)) : Int).toNat ≤ 281474976710656 then ((some (List.replicate (wrap64 (512 * (Int.tmod (wrap64 (a0)) 8)) : Int).toNat 0 : List Int)).bind fun y8003 => ((tinderref04_Copy.f y8003).bind fun t8006 => (tinderlaw20_BlockRuns.l0 k l1 y8003 t8006 0 a2_0 a2_1))) else (none)) else (none))) else (some false)) = some r := H
  have A4 := Aside0.mk A40
  clear A40
  by_cases c5 : t8002 = true
  · subst c5
    have H1 : (if (l1.length : Int) > 60 then (some true) else (if 0 ≤ (wrap64 (512 * (Int.tmod (wrap64 (a0)) 8))) then (if (wrap64 (512 * (Int.tmod (wrap64 (a0)) 8)) : Int).toNat ≤ 281474976710656 then ((some (List.replicate (wrap64 (512 * (Int.tmod (wrap64 (a0)) 8)) : Int).toNat 0 : List Int)).bind fun y8003 => ((tinderref04_Copy.f y8003).bind fun t8006 => (tinderlaw20_BlockRuns.l0 k l1 y8003 t8006 0 a2_0 a2_1))) else (none)) else (none))) = some r := by rw [if_pos rfl] at H; exact H
    clear H
    have H := H1
    clear H1
    by_cases c6 : (l1.length : Int) > 60
    · rw [if_pos c6] at H
      have c6b0 : decide (60 < (l1.length : Int)) = true := decide_eq_true c6
      have c6b1 : decide (60 < l1.length) = true := decide_eq_true (by omega)
      clear c6
      obtain rfl := Option.some.inj H
      go_enter Try.func7, Try.ntmps7
      go_wp2_with (first | ((with_reducible refine gate_dst (N := 5) rfl ?_); (try (refine gate_guard (by rfl) ?_; dsimp only)); refine box_event ?hg (N := 5) ?hd (cs := #[.int .i64 a2_0, .int .i64 a2_1]) (t := 38) ?hr ?_; (case hd => rfl); (case hg => rfl); (case hr => first | (go_simp; done) | (go_simp; rfl)); intro gb8001 hg w7 hbox hb; have n0_ := Aside0.mk (below_step (by repeat (first | (with_reducible first | exact HB.out | apply below_alloc | apply pw_below_drewN | apply below_drew1) | exact HB.out)) hb); have n1_ := Aside0.mk (hbox); have n2_ := Aside0.mk ((by rw [hg]; exact (below_size (by repeat (first | (with_reducible first | exact HB.out | apply below_alloc | apply pw_below_drewN | apply below_drew1) | exact HB.out))) : w.heap.size ≤ gb8001)); have n3_ := Aside0.mk ((by rw [hg]; exact (below_size (by repeat (first | (with_reducible first | exact HB.out | apply below_alloc | apply pw_below_drewN | apply below_drew1) | exact HB.out))) : w.heap.size ≤ gb8001)); clear HB; have HB := n0_; have BK8001 := n1_; have GW8001 := n2_; have GE8001 := n3_; clear n0_ n1_ n2_ n3_; clear hb hbox hg) | ((with_reducible refine gate_callee (f := 8) rfl ?_); refine goesL_ (some 15) rfl rfl Try.func8 (by kernel_rfl) rfl #[] rfl (by (try simp only [List.map_toArray, List.map_cons, List.map_nil]); first | done | rfl | (simp only [List.length_drop, List.length_take]; rfl)) ?_; (with_reducible refine (tinderlaw20_alive.calls k  true _ A4.out).mono ?_); rintro e w8 ⟨rfl, hb⟩; refine ⟨_, rfl, ?_⟩; have n0_ := Aside0.mk (blk_below (g := gb8001) (o := .cells #[.int .i64 a2_0, .int .i64 a2_1] 38 (0, 0)) (by (with_reducible repeat (first | refine blk_drewN ?_ _ | refine blk_drew ?_ | refine blk_alloc ?_ _)); exact BK8001.out) hb); have n1_ := Aside0.mk (below_step (by repeat (first | (with_reducible first | exact HB.out | apply below_alloc | apply pw_below_drewN | apply below_drew1 | refine below_set ?_ GE8001.out) | exact HB.out)) hb); clear BK8001; clear HB; have BK8001 := n0_; have HB := n1_; clear n0_ n1_; (try clear hb); (try clear hb2); (try clear hk); (try clear hi)))
      go_ret
      exact ⟨by first | rfl | (simp [errW_none, errW_some] <;> rfl) | (simp [*, errW_none, errW_some] <;> rfl), by repeat (first | (with_reducible first | exact HB.out | apply below_alloc | apply pw_below_drewN | apply below_drew1 | refine below_set ?_ GE8001.out) | exact HB.out)⟩
    · rw [if_neg c6] at H
      have c6b0 : decide (60 < (l1.length : Int)) = false := decide_eq_false c6
      have c6b1 : decide (60 < l1.length) = false := decide_eq_false (by omega)
      clear c6
      obtain ⟨ji9, hji9⟩ : ∃ j_ : Int, (wrap64 (512 * (Int.tmod (wrap64 (a0)) 8))) = j_ := ⟨_, rfl⟩
      replace H : (if 0 ≤ (ji9) then (if (ji9 : Int).toNat ≤ 281474976710656 then ((some (List.replicate (ji9 : Int).toNat 0 : List Int)).bind fun y8003 => ((tinderref04_Copy.f y8003).bind fun t8006 => (tinderlaw20_BlockRuns.l0 k l1 y8003 t8006 0 a2_0 a2_1))) else (none)) else (none)) = some r := by first | (rw [hji9] at H; exact H) | (simp only [hji9] at H ⊢; exact H)
      (try rw [hji9] at A4)
      have hji9w : (IntKind.i64.wrap (512 * (Int.tmod (wrap64 (a0)) 8))) = ji9 := (i64_w _).trans hji9
      by_cases c10 : 0 ≤ (ji9)
      · rw [if_pos c10] at H
        have c10b0 := eq_true c10
        have c10b1 : decide (0 ≤ (ji9)) = true := decide_eq_true c10
        clear c10
        by_cases c11 : (ji9 : Int).toNat ≤ 281474976710656
        · rw [if_pos c11] at H
          have c11b0 := eq_true c11
          have c11b1 : decide ((ji9 : Int).toNat ≤ 281474976710656) = true := decide_eq_true c11
          clear c11
          obtain ⟨y8003, hy8003⟩ : ∃ y_ : List Int, y_ = (List.replicate (ji9 : Int).toNat 0) := ⟨_, rfl⟩
          replace H : ((tinderref04_Copy.f y8003).bind fun t8006 => (tinderlaw20_BlockRuns.l0 k l1 y8003 t8006 0 a2_0 a2_1)) = some r := by first | (rw [hy8003]; with_reducible exact H) | (have H2_ := (Option.bind_some _ _).symm.trans H; rw [hy8003]; with_reducible exact H2_) | (have H2_ := (Option.bind_some _ _).symm.trans H; with_reducible exact H2_) | with_reducible exact H | (rw [hy8003]; exact H) | exact H
          have Ny8003 := Aside0.mk hy8003
          clear hy8003
          replace H := Option.bind_eq_some_iff.mp H
          obtain ⟨t8006, A120, H⟩ := H
          replace H : (tinderlaw20_BlockRuns.l0 k l1 y8003 t8006 0 a2_0 a2_1) = some r := H
          have A12 := Aside0.mk A120
          clear A120
          have H' := Aside0.mk H
          clear H
          go_enter Try.func7, Try.ntmps7
          go_wp2_with (first | ((with_reducible refine gate_dst (N := 5) rfl ?_); (try (refine gate_guard (by rfl) ?_; dsimp only)); refine box_event ?hg (N := 5) ?hd (cs := #[.int .i64 a2_0, .int .i64 a2_1]) (t := 38) ?hr ?_; (case hd => rfl); (case hg => rfl); (case hr => first | (go_simp; done) | (go_simp; rfl)); intro gb8001 hg w13 hbox hb; have n0_ := Aside0.mk (below_step (by repeat (first | (with_reducible first | exact HB.out | apply below_alloc | apply pw_below_drewN | apply below_drew1) | exact HB.out)) hb); have n1_ := Aside0.mk (hbox); have n2_ := Aside0.mk ((by rw [hg]; exact (below_size (by repeat (first | (with_reducible first | exact HB.out | apply below_alloc | apply pw_below_drewN | apply below_drew1) | exact HB.out))) : w.heap.size ≤ gb8001)); have n3_ := Aside0.mk ((by rw [hg]; exact (below_size (by repeat (first | (with_reducible first | exact HB.out | apply below_alloc | apply pw_below_drewN | apply below_drew1) | exact HB.out))) : w.heap.size ≤ gb8001)); clear HB; have HB := n0_; have BK8001 := n1_; have GW8001 := n2_; have GE8001 := n3_; clear n0_ n1_ n2_ n3_; clear hb hbox hg) | ((with_reducible refine gate_callee (f := 8) rfl ?_); refine goesL_ (some 15) rfl rfl Try.func8 (by kernel_rfl) rfl #[] rfl (by (try simp only [List.map_toArray, List.map_cons, List.map_nil]); first | done | rfl | (simp only [List.length_drop, List.length_take]; rfl)) ?_; (with_reducible refine (tinderlaw20_alive.calls k  true _ A4.out).mono ?_); rintro e w14 ⟨rfl, hb⟩; refine ⟨_, rfl, ?_⟩; have n0_ := Aside0.mk (blk_below (g := gb8001) (o := .cells #[.int .i64 a2_0, .int .i64 a2_1] 38 (0, 0)) (by (with_reducible repeat (first | refine blk_drewN ?_ _ | refine blk_drew ?_ | refine blk_alloc ?_ _)); exact BK8001.out) hb); have n1_ := Aside0.mk (below_step (by repeat (first | (with_reducible first | exact HB.out | apply below_alloc | apply pw_below_drewN | apply below_drew1 | refine below_set ?_ GE8001.out) | exact HB.out)) hb); clear BK8001; clear HB; have BK8001 := n0_; have HB := n1_; clear n0_ n1_; (try clear hb); (try clear hb2); (try clear hk); (try clear hi)) | ((with_reducible refine gate_dst (N := 24) rfl ?_); (try (refine gate_guard (by rfl) ?_; dsimp only)); refine Kd.R_make (Kd.int .u8) _ 5 rfl (N := 24) rfl 30 _ _ rfl ji9 rfl rfl Try.underlying30 (.int .u8 0) 1 info5 rfl (by decide) (by omega) 0 (ok := fun _ => True) (okp := fun _ => True) rfl (fun _ hk => hk) trivial (of_decide_eq_true (by first | (with_reducible assumption) | assumption)) (Nat.le_trans (Nat.mul_le_mul_right _ (of_decide_eq_true (by first | (with_reducible assumption) | assumption) : ji9.toNat ≤ 281474976710656)) (by omega)) (Below.refl _ _) (Nat.le_refl _) ?_; intro v8004 w15 ho16 hb hg_ hnew_; clear hg_ hnew_; (first | rw [← Ny8003.out] at ho16 | (simp only [Int.reduceToNat] at ho16; rw [← Ny8003.out] at ho16)); have n0_ := Aside0.mk (Kd.R_lower ho16 (below_size (by repeat (first | (with_reducible first | exact HB.out | apply below_alloc | apply pw_below_drewN | apply below_drew1 | refine below_set ?_ GE8001.out) | exact HB.out)))); have n1_ := Aside0.mk (blk_below (g := gb8001) (o := .cells #[.int .i64 a2_0, .int .i64 a2_1] 38 (0, 0)) (by (with_reducible repeat (first | refine blk_drewN ?_ _ | refine blk_drew ?_ | refine blk_alloc ?_ _)); exact BK8001.out) hb); have n2_ := Aside0.mk (below_step (by repeat (first | (with_reducible first | exact HB.out | apply below_alloc | apply pw_below_drewN | apply below_drew1 | refine below_set ?_ GE8001.out) | exact HB.out)) hb); clear BK8001; clear HB; have HO8005 := n0_; have BK8001 := n1_; have HB := n2_; clear n0_ n1_ n2_; clear hb ho16; obtain ⟨Ao17, co17, eo17⟩ := Kd.R_slice HO8005.out; subst eo17) | ((with_reducible refine gate_callee (f := 11) rfl ?_); refine goesL_ (some 26) rfl rfl Try.func11 (by kernel_rfl) rfl #[.slice Ao17 y8003.length co17] rfl (by (try simp only [List.map_toArray, List.map_cons, List.map_nil]); first | done | rfl | (simp only [List.length_drop, List.length_take]; rfl)) ?_; (with_reducible refine (tinderref04_Copy.calls _ _ y8003 t8006 _ ?side1 ?side2 A12.out).mono ?_); (case side1 => repeat (first | exact (Kd.R_reads' HO8005.out).2.2 | (with_reducible refine Kd.C_alloc ?_ _) | (with_reducible refine Kd.C_drewN ?_ _) | (with_reducible refine Kd.C_drew ?_))); (case side2 => exact (Kd.R_reads' HO8005.out).2.1); rintro e w18 ⟨v8007, rfl, ho0, hb⟩; refine ⟨_, rfl, ?_⟩; have n0_ := Aside0.mk (Kd.R_elder' (by (with_reducible repeat (first | apply Kd.R_alloc | apply Kd.R_drewN | apply Kd.R_drew)); exact HO8005.out) (Kd.R_base ho0) hb); have n1_ := Aside0.mk (Kd.R_lower (Kd.R_new' ho0 (Kd.R_lt (by (with_reducible repeat (first | apply Kd.R_alloc | apply Kd.R_drewN | apply Kd.R_drew)); exact HO8005.out))) (below_size (by repeat (first | (with_reducible first | exact HB.out | apply below_alloc | apply pw_below_drewN | apply below_drew1 | refine below_set ?_ GE8001.out) | exact HB.out)))); have n2_ := Aside0.mk (blk_below (g := gb8001) (o := .cells #[.int .i64 a2_0, .int .i64 a2_1] 38 (0, 0)) (by (with_reducible repeat (first | refine blk_drewN ?_ _ | refine blk_drew ?_ | refine blk_alloc ?_ _)); exact BK8001.out) hb); have n3_ := Aside0.mk (below_step (by repeat (first | (with_reducible first | exact HB.out | apply below_alloc | apply pw_below_drewN | apply below_drew1 | refine below_set ?_ GE8001.out) | exact HB.out)) hb); clear HO8005; clear BK8001; clear HB; have HO8005 := n0_; have HO8008 := n1_; have BK8001 := n2_; have HB := n3_; clear n0_ n1_ n2_ n3_; (try clear hb); (try clear hb2); (try clear hk); (try clear hi); (try clear ho0)))
          go_loopg [7, 9] k (fun kq v7 v9 w' => ∃ (x7_1 : List Int) (x8_1 : List Int) (x9_1 : Int), v9 = .int .i64 x9_1 ∧ Aside0 (tinderlaw20_BlockRuns.l0 kq l1 x7_1 x8_1 x9_1 a2_0 a2_1 = some r) ∧ Aside0 (kq ≤ k) ∧ Aside0 (Kd.R (Kd.int .u8) 5 w' w.heap.size (fun k_ => some k_ ≠ (v8007 : Value).ownBlock) v7 x7_1) ∧ Aside0 (Kd.R (Kd.int .u8) 5 w' w.heap.size (fun k_ => some k_ ≠ (v7 : Value).ownBlock) v8007 x8_1) ∧ Aside0 (w'.heap[gb8001]? = some (.cells #[.int .i64 a2_0, .int .i64 a2_1] 38 (0, 0))) ∧ Aside0 (Below w.heap.size w w'))
          case atStart => exact ⟨(y8003), (t8006), (0), (by first | rfl | (simp; done) | (simp [*]; done)), H', ⟨Nat.le_refl _⟩, ⟨by (with_reducible repeat (first | apply Kd.R_alloc | apply Kd.R_drewN | apply Kd.R_drew)); exact Kd.R_mono HO8005.out (fun _ hk => hk.2)⟩, ⟨by (with_reducible repeat (first | apply Kd.R_alloc | apply Kd.R_drewN | apply Kd.R_drew)); exact Kd.R_mono HO8008.out (fun _ hk => hk.2)⟩, ⟨by (with_reducible repeat (first | refine blk_drewN ?_ _ | refine blk_drew ?_ | refine blk_alloc ?_ _)); exact BK8001.out⟩, ⟨by repeat (first | (with_reducible first | exact HB.out | apply below_alloc | apply pw_below_drewN | apply below_drew1 | refine below_set ?_ GE8001.out) | exact HB.out)⟩⟩
          case round =>
            clear H'
            try clear c1
            try clear p2
            try clear c5
            try clear c6
            try clear c6b0
            try clear c6b1
            try clear p6
            try clear c7
            try clear c8
            try clear c10
            try clear c10b0
            try clear c10b1
            try clear c11
            try clear c11b0
            try clear c11b1
            obtain ⟨x7_1, x8_1, x9_1, rfl, HA, HK1, HO_7, HO_8, BK8001, HB⟩ := hrel
            cases gk with
            | zero => exact absurd HA.out (by simp [tinderlaw20_BlockRuns.l0])
            | succ k1 =>
              have H := HA.out
              clear HA
              simp only [tinderlaw20_BlockRuns.l0] at H
              by_cases c19 : x9_1 < (l1.length : Int)
              · rw [if_pos c19] at H
                have c19b0 : decide (x9_1 < (l1.length : Int)) = true := decide_eq_true c19
                clear c19
                by_cases c20 : 0 ≤ x9_1
                · rw [if_pos c20] at H
                  have c20b0 : decide (0 ≤ x9_1) = true := decide_eq_true c20
                  clear c20
                  replace H := Option.bind_eq_some_iff.mp H
                  obtain ⟨⟨t8011, t8012⟩, A210, H⟩ := H
                  replace H : ((tinderref20_In.f x8_1 ((rd_T43 l1 x9_1).f0) (((rd_T43 l1 x9_1).f1).length : Int)).bind fun t8017 => (if t8017 = true then (if t8012 = 0 then (tinderlaw20_BlockRuns.l1 k1 l1 t8011 x8_1 x9_1 0 a2_0 a2_1) else (some false)) else (if t8012 = 23 then (tinderlaw20_BlockRuns.l0 k1 l1 x7_1 x8_1 (wrap64 (x9_1 + 1)) a2_0 a2_1) else (some false)))) = some r := H
                  have A21 := Aside0.mk A210
                  clear A210
                  replace H := Option.bind_eq_some_iff.mp H
                  obtain ⟨t8017, A220, H⟩ := H
                  replace H : (if t8017 = true then (if t8012 = 0 then (tinderlaw20_BlockRuns.l1 k1 l1 t8011 x8_1 x9_1 0 a2_0 a2_1) else (some false)) else (if t8012 = 23 then (tinderlaw20_BlockRuns.l0 k1 l1 x7_1 x8_1 (wrap64 (x9_1 + 1)) a2_0 a2_1) else (some false))) = some r := H
                  have A22 := Aside0.mk A220
                  clear A220
                  by_cases c23 : t8017 = true
                  · subst c23
                    have H1 : (if t8012 = 0 then (tinderlaw20_BlockRuns.l1 k1 l1 t8011 x8_1 x9_1 0 a2_0 a2_1) else (some false)) = some r := by rw [if_pos rfl] at H; exact H
                    clear H
                    have H := H1
                    clear H1
                    by_cases c24 : t8012 = 0
                    · rw [if_pos c24] at H
                      have c24b0 : (t8012 == 0) = true := beq_iff_eq.mpr c24
                      have c24b1 : (t8012 != 0) = false := bne_eq_false_iff_eq.mpr c24
                      clear c24
                      have H' := Aside0.mk H
                      clear H
                      try go_wp2
                      have n0_ := Aside0.mk (Kd.R_drew HO_7.out)
                      have n1_ := Aside0.mk (Kd.R_drew HO_8.out)
                      have n2_ := Aside0.mk (blk_drew BK8001.out)
                      have n3_ := Aside0.mk (below_drew1 HB.out)
                      clear HO_7
                      clear HO_8
                      clear BK8001
                      clear HB
                      have HO_7 := n0_
                      have HO_8 := n1_
                      have BK8001 := n2_
                      have HB := n3_
                      clear n0_ n1_ n2_ n3_
                      have p8009 : 0 ≤ (x9_1 : Int) := of_decide_eq_true (by first | (with_reducible assumption) | assumption)
                      have q8009 : x9_1 < (l1.length : Int) := of_decide_eq_true (by first | (with_reducible assumption) | assumption)
                      obtain ⟨ad8009, A8009_1, c8009_1, e8009, hx8009_0, hx8009_1, hl8009_1, hi8009_1⟩ := at_T43 HR1.out x9_1 p8009 q8009
                      have hw8009_1 := hx8009_1
                      have hw8009_0 := hx8009_0
                      cases e8009
                      replace hx8009_0 := (HB.out.cell (World.block_lt_of_cell? w _ hx8009_0)).trans hx8009_0
                      replace hx8009_1 := (HB.out.cell (World.block_lt_of_cell? w _ hx8009_1)).trans hx8009_1
                      have HR8009_1 := Aside0.mk hi8009_1
                      have HC8009_1 := Aside0.mk hl8009_1
                      clear hi8009_1 hl8009_1
                      replace p8009 := eq_true p8009
                      replace q8009 := eq_true q8009
                      have p8010 : 0 ≤ (x9_1 : Int) := of_decide_eq_true (by first | (with_reducible assumption) | assumption)
                      have q8010 : x9_1 < (l1.length : Int) := of_decide_eq_true (by first | (with_reducible assumption) | assumption)
                      obtain ⟨ad8010, A8010_1, c8010_1, e8010, hx8010_0, hx8010_1, hl8010_1, hi8010_1⟩ := at_T43 HR1.out x9_1 p8010 q8010
                      have hw8010_1 := hx8010_1
                      have hw8010_0 := hx8010_0
                      obtain rfl : ad8009 = ad8010 := (by injection e8010)
                      replace hx8010_0 := (HB.out.cell (World.block_lt_of_cell? w _ hx8010_0)).trans hx8010_0
                      replace hx8010_1 := (HB.out.cell (World.block_lt_of_cell? w _ hx8010_1)).trans hx8010_1
                      have HR8010_1 := Aside0.mk hi8010_1
                      have HC8010_1 := Aside0.mk hl8010_1
                      clear hi8010_1 hl8010_1
                      replace p8010 := eq_true p8010
                      replace q8010 := eq_true q8010
                      have ea_ := Option.some.inj (hx8009_1.symm.trans hx8010_1)
                      injection ea_ with ea_ en_ ec_
                      subst ea_
                      subst ec_
                      clear en_
                      obtain ⟨Ao26, co26, eo26⟩ := Kd.R_slice HO_7.out
                      (first | subst eo26 | (injection eo26 with f1_ f2_ f3_; have f4_ := f1_.symm; have f5_ := f3_.symm; clear f1_ f2_ f3_; subst f4_; subst f5_))
                      refine start_ (n := 17) (S := fun w' => w'.cell? (ad8009.add ((x9_1).toNat * 2)) = some (.int .i64 ((rd_T43 l1 x9_1).f0)) ∧ w'.cell? ⟨(ad8009.add ((x9_1).toNat * 2)).block, (ad8009.add ((x9_1).toNat * 2)).off + 1, none⟩ = some (.slice A8009_1 ((rd_T43 l1 x9_1).f1).length c8009_1) ∧ w'.cell? (ad8009.add ((x9_1).toNat * 2)) = some (.int .i64 ((rd_T43 l1 x9_1).f0)) ∧ w'.cell? ⟨(ad8009.add ((x9_1).toNat * 2)).block, (ad8009.add ((x9_1).toNat * 2)).off + 1, none⟩ = some (.slice A8009_1 ((rd_T43 l1 x9_1).f1).length c8009_1)) (ds := []) #[false, false, false, false, false, false, false, false, false, false, false, false, false, false, false, false, false] (by kernel_rfl) rfl rfl ⟨((HB.out.cell (World.block_lt_of_cell? w _ hw8009_0)).trans hw8009_0), ((HB.out.cell (World.block_lt_of_cell? w _ hw8009_1)).trans hw8009_1), ((HB.out.cell (World.block_lt_of_cell? w _ hw8010_0)).trans hw8010_0), ((HB.out.cell (World.block_lt_of_cell? w _ hw8010_1)).trans hw8010_1)⟩ (fun hHeld => ?_); refine with_tabW tinderlaw20_BlockRuns.tab10 tinderlaw20_BlockRuns.bits10 (fun HT_ HW_ => ?_)
                      generalize wr.drew = w25 at HO_7 HO_8 BK8001 HB HR8009_1 HR8010_1 hx8009_0 hx8009_1 hx8010_0 hx8010_1 hHeld ⊢
                      refine pure_ (i := 0) (N := some 34) (v := ?_) (a' := ?_) #[true, false, false, false, false, false, false, false, false, false, false, false, false, false, false, false, false] rfl rfl (any_of HT_.out (by kernel_rfl)) (fun _ _ _ h => h) (Or.inl ⟨by rfl, ?_⟩) ?_ ?_
                      rotate_left
                      · intro w'
                        go_simp
                        with_reducible rfl
                      rotate_left
                      · simp only [Act.put, List.setIfInBounds_toArray, List.set_cons_zero, List.set_cons_succ, i64_w, i32_w]
                        rfl
                      refine pure_ (i := 1) (N := some 35) (v := ?_) (a' := ?_) #[true, true, false, false, false, false, false, false, false, false, false, false, false, false, false, false, false] rfl rfl (any_of HT_.out (by kernel_rfl)) (fun _ _ _ h => h) (Or.inl ⟨by rfl, ?_⟩) ?_ ?_
                      rotate_left
                      · intro w'
                        go_simp
                        with_reducible rfl
                      rotate_left
                      · simp only [Act.put, List.setIfInBounds_toArray, List.set_cons_zero, List.set_cons_succ, i64_w, i32_w]
                        rfl
                      refine pure_ (i := 2) (N := some 36) (v := ?_) (a' := ?_) #[true, true, true, false, false, false, false, false, false, false, false, false, false, false, false, false, false] rfl rfl (any_of HT_.out (by kernel_rfl)) (fun _ _ _ h => h) (Or.inl ⟨by rfl, ?_⟩) ?_ ?_
                      rotate_left
                      · intro w'
                        go_simp
                        with_reducible rfl
                      rotate_left
                      · simp only [Act.put, List.setIfInBounds_toArray, List.set_cons_zero, List.set_cons_succ, i64_w, i32_w]
                        rfl
                      refine pure_ (i := 3) (N := some 37) (v := ?_) (a' := ?_) #[true, true, true, true, false, false, false, false, false, false, false, false, false, false, false, false, false] rfl rfl (any_of HT_.out (by kernel_rfl)) (fun _ _ _ h => h) (Or.inl ⟨by rfl, ?_⟩) ?_ ?_
                      rotate_left
                      · intro w'
                        go_simp
                        with_reducible rfl
                      rotate_left
                      · simp only [Act.put, List.setIfInBounds_toArray, List.set_cons_zero, List.set_cons_succ, i64_w, i32_w]
                        rfl
                      refine pure_ (i := 4) (N := some 38) (v := ?_) (a' := ?_) #[true, true, true, true, true, false, false, false, false, false, false, false, false, false, false, false, false] rfl rfl (any_of HT_.out (by kernel_rfl)) (fun _ _ _ h => h) (Or.inl ⟨by rfl, ?_⟩) ?_ ?_
                      rotate_left
                      · intro w'
                        go_simp
                        with_reducible rfl
                      rotate_left
                      · simp only [Act.put, List.setIfInBounds_toArray, List.set_cons_zero, List.set_cons_succ, i64_w, i32_w]
                        rfl
                      refine pure_ (i := 6) (N := some 40) (v := ?_) (a' := ?_) #[true, true, true, true, true, false, true, false, false, false, false, false, false, false, false, false, false] rfl rfl (any_of HT_.out (by kernel_rfl)) (fun _ _ _ h => h) (Or.inl ⟨by rfl, ?_⟩) ?_ ?_
                      rotate_left
                      · intro w'
                        go_simp
                        with_reducible rfl
                      rotate_left
                      · simp only [Act.put, List.setIfInBounds_toArray, List.set_cons_zero, List.set_cons_succ, i64_w, i32_w]
                        rfl
                      refine pure_ (i := 7) (N := some 41) (v := ?_) (a' := ?_) #[true, true, true, true, true, false, true, true, false, false, false, false, false, false, false, false, false] rfl rfl (any_of HT_.out (by kernel_rfl)) (fun _ _ _ h => h) (Or.inl ⟨by rfl, ?_⟩) ?_ ?_
                      rotate_left
                      · intro w'
                        go_simp
                        with_reducible rfl
                      rotate_left
                      · simp only [Act.put, List.setIfInBounds_toArray, List.set_cons_zero, List.set_cons_succ, i64_w, i32_w]
                        rfl
                      refine pure_ (i := 8) (N := some 42) (v := ?_) (a' := ?_) #[true, true, true, true, true, false, true, true, true, false, false, false, false, false, false, false, false] rfl rfl (any_of HT_.out (by kernel_rfl)) (fun _ _ _ h => h) (Or.inl ⟨by rfl, ?_⟩) ?_ ?_
                      rotate_left
                      · intro w'
                        go_simp
                        with_reducible rfl
                      rotate_left
                      · simp only [Act.put, List.setIfInBounds_toArray, List.set_cons_zero, List.set_cons_succ, i64_w, i32_w]
                        rfl
                      refine pure_ (i := 9) (N := some 43) (v := ?_) (a' := ?_) #[true, true, true, true, true, false, true, true, true, true, false, false, false, false, false, false, false] rfl rfl (any_of HT_.out (by kernel_rfl)) (fun _ _ _ h => h) (Or.inl ⟨by rfl, ?_⟩) ?_ ?_
                      rotate_left
                      · intro w'
                        go_simp
                        with_reducible rfl
                      rotate_left
                      · simp only [Act.put, List.setIfInBounds_toArray, List.set_cons_zero, List.set_cons_succ, i64_w, i32_w]
                        rfl
                      refine take_ (i := 5) (N := some 39) (v := ?_) (a' := ?_) #[true, true, true, true, true, true, true, true, true, true, false, false, false, false, false, false, false] rfl rfl (take_ofW HT_.out HW_.out (by kernel_rfl)) (fun _ _ _ h => h) (Or.inl ⟨by rfl, ?_⟩) hHeld ?_ ?_
                      rotate_left
                      · rintro w' ⟨s0, s1, s2, s3⟩
                        go_simp
                        with_reducible rfl
                      rotate_left
                      · simp only [Act.put, List.setIfInBounds_toArray, List.set_cons_zero, List.set_cons_succ, i64_w, i32_w]
                        rfl
                      refine take_ (i := 10) (N := some 44) (v := ?_) (a' := ?_) #[true, true, true, true, true, true, true, true, true, true, true, false, false, false, false, false, false] rfl rfl (take_ofW HT_.out HW_.out (by kernel_rfl)) (fun _ _ _ h => h) (Or.inl ⟨by rfl, ?_⟩) hHeld ?_ ?_
                      rotate_left
                      · rintro w' ⟨s0, s1, s2, s3⟩
                        go_simp
                        with_reducible rfl
                      rotate_left
                      · simp only [Act.put, List.setIfInBounds_toArray, List.set_cons_zero, List.set_cons_succ, i64_w, i32_w]
                        rfl
                      refine one_ (i := 11) (N := some 45) #[true, true, true, true, true, true, true, true, true, true, true, true, false, false, false, false, false] rfl rfl (one_of HT_.out (by kernel_rfl)) (by decide) (fun K hK => ?_)
                      refine goes_ Try.func19 (by kernel_rfl) rfl #[.slice Ao26 x7_1.length co26, .int .i64 ((rd_T43 l1 x9_1).f0), .slice A8009_1 ((rd_T43 l1 x9_1).f1).length c8009_1] (by rfl) rfl rfl (by (try simp only [List.map_toArray, List.map_cons, List.map_nil]); first | done | rfl | (simp only [List.length_drop, List.length_take]; rfl)) ?_
                      with_reducible refine (block_Put.calls _ _ x7_1 ((rd_T43 l1 x9_1).f0) _ _ ((rd_T43 l1 x9_1).f1) t8011 t8012 _ ?side1 ?side2 ?side3 ?side4 A21.out).mono ?_
                      (case side1 => repeat (first | exact (Kd.R_reads' HO_7.out).2.2 | (with_reducible refine Kd.C_alloc ?_ _) | (with_reducible refine Kd.C_drewN ?_ _) | (with_reducible refine Kd.C_drew ?_)))
                      (case side2 => exact (Kd.R_reads' HO_7.out).2.1)
                      (case side3 => repeat (first | exact (Kd.C_below HR8010_1.out HB.out) | (with_reducible refine Kd.C_alloc ?_ _) | (with_reducible refine Kd.C_drewN ?_ _) | (with_reducible refine Kd.C_drew ?_)))
                      (case side4 => exact HC8010_1.out)
                      rintro e w27 ⟨v8013, rfl, ho0, hb⟩
                      refine ⟨_, rfl, ?_⟩
                      have n0_ := Aside0.mk (Kd.R_elder' (by (with_reducible repeat (first | apply Kd.R_alloc | apply Kd.R_drewN | apply Kd.R_drew)); exact HO_7.out) (Kd.R_base ho0) hb)
                      have n1_ := Aside0.mk (Kd.R_elder' (by (with_reducible repeat (first | apply Kd.R_alloc | apply Kd.R_drewN | apply Kd.R_drew)); exact HO_8.out) (Kd.R_base ho0) hb)
                      have n2_ := Aside0.mk (Kd.R_lower (Kd.R_new' (Kd.R_new' ho0 (Kd.R_lt (by (with_reducible repeat (first | apply Kd.R_alloc | apply Kd.R_drewN | apply Kd.R_drew)); exact HO_7.out))) (Kd.R_lt (by (with_reducible repeat (first | apply Kd.R_alloc | apply Kd.R_drewN | apply Kd.R_drew)); exact HO_8.out))) (below_size (by repeat (first | (with_reducible first | exact HB.out | apply below_alloc | apply pw_below_drewN | apply below_drew1 | refine below_set ?_ GE8001.out) | exact HB.out))))
                      have n3_ := Aside0.mk (blk_below (g := gb8001) (o := .cells #[.int .i64 a2_0, .int .i64 a2_1] 38 (0, 0)) (by (with_reducible repeat (first | refine blk_drewN ?_ _ | refine blk_drew ?_ | refine blk_alloc ?_ _)); exact BK8001.out) hb)
                      have n4_ := Aside0.mk (below_step (by repeat (first | (with_reducible first | exact HB.out | apply below_alloc | apply pw_below_drewN | apply below_drew1 | refine below_set ?_ GE8001.out) | exact HB.out)) hb)
                      clear HO_7
                      clear HO_8
                      clear BK8001
                      clear HB
                      have HO_7 := n0_
                      have HO_8 := n1_
                      have HO8014 := n2_
                      have BK8001 := n3_
                      have HB := n4_
                      clear n0_ n1_ n2_ n3_ n4_
                      (try clear hb)
                      (try clear hb2)
                      (try clear hk)
                      (try clear hi)
                      (try clear ho0)
                      refine hK.out _ _ ⟨((HB.out.cell (World.block_lt_of_cell? w _ hw8009_0)).trans hw8009_0), ((HB.out.cell (World.block_lt_of_cell? w _ hw8009_1)).trans hw8009_1), ((HB.out.cell (World.block_lt_of_cell? w _ hw8010_0)).trans hw8010_0), ((HB.out.cell (World.block_lt_of_cell? w _ hw8010_1)).trans hw8010_1)⟩ (fun hHeld => ?_)
                      clear hK K
                      refine norm_ (a' := ?_) ?_ ?_
                      rotate_left
                      · show Act.put _ (some 45) _ = _
                        simp only [Act.put, List.setIfInBounds_toArray, List.set_cons_zero, List.set_cons_succ, i64_w, i32_w]
                        rfl
                      refine pure_ (i := 12) (N := some 33) (v := ?_) (a' := ?_) #[true, true, true, true, true, true, true, true, true, true, true, true, true, false, false, false, false] rfl rfl (any_of HT_.out (by kernel_rfl)) (fun _ _ _ h => h) (Or.inl ⟨by rfl, ?_⟩) ?_ ?_
                      rotate_left
                      · intro w'
                        go_simp
                        with_reducible rfl
                      rotate_left
                      · simp only [Act.put, List.setIfInBounds_toArray, List.set_cons_zero, List.set_cons_succ, i64_w, i32_w]
                        rfl
                      refine pure_ (i := 13) (N := some 46) (v := ?_) (a' := ?_) #[true, true, true, true, true, true, true, true, true, true, true, true, true, true, false, false, false] rfl rfl (any_of HT_.out (by kernel_rfl)) (fun _ _ _ h => h) (Or.inl ⟨by rfl, ?_⟩) ?_ ?_
                      rotate_left
                      · intro w'
                        go_simp
                        with_reducible rfl
                      rotate_left
                      · simp only [Act.put, List.setIfInBounds_toArray, List.set_cons_zero, List.set_cons_succ, i64_w, i32_w]
                        rfl
                      refine pure_ (i := 14) (N := some 47) (v := ?_) (a' := ?_) #[true, true, true, true, true, true, true, true, true, true, true, true, true, true, true, false, false] rfl rfl (any_of HT_.out (by kernel_rfl)) (fun _ _ _ h => h) (Or.inl ⟨by rfl, ?_⟩) ?_ ?_
                      rotate_left
                      · intro w'
                        go_simp
                        with_reducible rfl
                      rotate_left
                      · simp only [Act.put, List.setIfInBounds_toArray, List.set_cons_zero, List.set_cons_succ, i64_w, i32_w]
                        rfl
                      refine pure_ (i := 15) (N := some 10) (v := ?_) (a' := ?_) #[true, true, true, true, true, true, true, true, true, true, true, true, true, true, true, true, false] rfl rfl (any_of HT_.out (by kernel_rfl)) (fun _ _ _ h => h) (Or.inl ⟨by rfl, ?_⟩) ?_ ?_
                      rotate_left
                      · intro w'
                        go_simp
                        with_reducible rfl
                      rotate_left
                      · simp only [Act.put, List.setIfInBounds_toArray, List.set_cons_zero, List.set_cons_succ, i64_w, i32_w]
                        rfl
                      refine pure_ (i := 16) (N := some 11) (v := ?_) (a' := ?_) #[true, true, true, true, true, true, true, true, true, true, true, true, true, true, true, true, true] rfl rfl (any_of HT_.out (by kernel_rfl)) (fun _ _ _ h => h) (Or.inl ⟨by rfl, ?_⟩) ?_ ?_
                      rotate_left
                      · intro w'
                        go_simp
                        with_reducible rfl
                      rotate_left
                      · simp only [Act.put, List.setIfInBounds_toArray, List.set_cons_zero, List.set_cons_succ, i64_w, i32_w]
                        rfl
                      refine done_ (done_of HT_.out (by kernel_rfl)) ?_
                      try go_wp2
                      have n0_ := Aside0.mk (Kd.R_drew HO_7.out)
                      have n1_ := Aside0.mk (Kd.R_drew HO_8.out)
                      have n2_ := Aside0.mk (Kd.R_drew HO8014.out)
                      have n3_ := Aside0.mk (blk_drew BK8001.out)
                      have n4_ := Aside0.mk (below_drew1 HB.out)
                      clear HO_7
                      clear HO_8
                      clear HO8014
                      clear BK8001
                      clear HB
                      have HO_7 := n0_
                      have HO_8 := n1_
                      have HO8014 := n2_
                      have BK8001 := n3_
                      have HB := n4_
                      clear n0_ n1_ n2_ n3_ n4_
                      have p8015 : 0 ≤ (x9_1 : Int) := of_decide_eq_true (by first | (with_reducible assumption) | assumption)
                      have q8015 : x9_1 < (l1.length : Int) := of_decide_eq_true (by first | (with_reducible assumption) | assumption)
                      obtain ⟨ad8015, A8015_1, c8015_1, e8015, hx8015_0, hx8015_1, hl8015_1, hi8015_1⟩ := at_T43 HR1.out x9_1 p8015 q8015
                      have hw8015_1 := hx8015_1
                      have hw8015_0 := hx8015_0
                      obtain rfl : ad8009 = ad8015 := (by injection e8015)
                      replace hx8015_0 := (HB.out.cell (World.block_lt_of_cell? w _ hx8015_0)).trans hx8015_0
                      replace hx8015_1 := (HB.out.cell (World.block_lt_of_cell? w _ hx8015_1)).trans hx8015_1
                      have HR8015_1 := Aside0.mk hi8015_1
                      have HC8015_1 := Aside0.mk hl8015_1
                      clear hi8015_1 hl8015_1
                      replace p8015 := eq_true p8015
                      replace q8015 := eq_true q8015
                      have p8016 : 0 ≤ (x9_1 : Int) := of_decide_eq_true (by first | (with_reducible assumption) | assumption)
                      have q8016 : x9_1 < (l1.length : Int) := of_decide_eq_true (by first | (with_reducible assumption) | assumption)
                      obtain ⟨ad8016, A8016_1, c8016_1, e8016, hx8016_0, hx8016_1, hl8016_1, hi8016_1⟩ := at_T43 HR1.out x9_1 p8016 q8016
                      have hw8016_1 := hx8016_1
                      have hw8016_0 := hx8016_0
                      obtain rfl : ad8009 = ad8016 := (by injection e8016)
                      replace hx8016_0 := (HB.out.cell (World.block_lt_of_cell? w _ hx8016_0)).trans hx8016_0
                      replace hx8016_1 := (HB.out.cell (World.block_lt_of_cell? w _ hx8016_1)).trans hx8016_1
                      have HR8016_1 := Aside0.mk hi8016_1
                      have HC8016_1 := Aside0.mk hl8016_1
                      clear hi8016_1 hl8016_1
                      replace p8016 := eq_true p8016
                      replace q8016 := eq_true q8016
                      have ea_ := Option.some.inj (hx8015_1.symm.trans hx8016_1)
                      injection ea_ with ea_ en_ ec_
                      subst ea_
                      subst ec_
                      clear en_
                      obtain ⟨Ao29, co29, eo29⟩ := Kd.R_slice HO_8.out
                      (first | subst eo29 | (injection eo29 with f1_ f2_ f3_; have f4_ := f1_.symm; have f5_ := f3_.symm; clear f1_ f2_ f3_; subst f4_; subst f5_))
                      refine start_ (n := 14) (S := fun w' => w'.cell? (ad8009.add ((x9_1).toNat * 2)) = some (.int .i64 ((rd_T43 l1 x9_1).f0)) ∧ w'.cell? ⟨(ad8009.add ((x9_1).toNat * 2)).block, (ad8009.add ((x9_1).toNat * 2)).off + 1, none⟩ = some (.slice A8015_1 ((rd_T43 l1 x9_1).f1).length c8015_1) ∧ w'.cell? (ad8009.add ((x9_1).toNat * 2)) = some (.int .i64 ((rd_T43 l1 x9_1).f0)) ∧ w'.cell? ⟨(ad8009.add ((x9_1).toNat * 2)).block, (ad8009.add ((x9_1).toNat * 2)).off + 1, none⟩ = some (.slice A8015_1 ((rd_T43 l1 x9_1).f1).length c8015_1)) (ds := []) #[false, false, false, false, false, false, false, false, false, false, false, false, false, false] (by kernel_rfl) rfl rfl ⟨((HB.out.cell (World.block_lt_of_cell? w _ hw8015_0)).trans hw8015_0), ((HB.out.cell (World.block_lt_of_cell? w _ hw8015_1)).trans hw8015_1), ((HB.out.cell (World.block_lt_of_cell? w _ hw8016_0)).trans hw8016_0), ((HB.out.cell (World.block_lt_of_cell? w _ hw8016_1)).trans hw8016_1)⟩ (fun hHeld => ?_); refine with_tabW tinderlaw20_BlockRuns.tab11 tinderlaw20_BlockRuns.bits11 (fun HT_ HW_ => ?_)
                      generalize w27.drew = w28 at HO_7 HO_8 HO8014 BK8001 HB HR8015_1 HR8016_1 hx8015_0 hx8015_1 hx8016_0 hx8016_1 hHeld ⊢
                      refine pure_ (i := 0) (N := some 48) (v := ?_) (a' := ?_) #[true, false, false, false, false, false, false, false, false, false, false, false, false, false] rfl rfl (any_of HT_.out (by kernel_rfl)) (fun _ _ _ h => h) (Or.inl ⟨by rfl, ?_⟩) ?_ ?_
                      rotate_left
                      · intro w'
                        go_simp
                        with_reducible rfl
                      rotate_left
                      · simp only [Act.put, List.setIfInBounds_toArray, List.set_cons_zero, List.set_cons_succ, i64_w, i32_w]
                        rfl
                      refine pure_ (i := 1) (N := some 49) (v := ?_) (a' := ?_) #[true, true, false, false, false, false, false, false, false, false, false, false, false, false] rfl rfl (any_of HT_.out (by kernel_rfl)) (fun _ _ _ h => h) (Or.inl ⟨by rfl, ?_⟩) ?_ ?_
                      rotate_left
                      · intro w'
                        go_simp
                        with_reducible rfl
                      rotate_left
                      · simp only [Act.put, List.setIfInBounds_toArray, List.set_cons_zero, List.set_cons_succ, i64_w, i32_w]
                        rfl
                      refine pure_ (i := 2) (N := some 50) (v := ?_) (a' := ?_) #[true, true, true, false, false, false, false, false, false, false, false, false, false, false] rfl rfl (any_of HT_.out (by kernel_rfl)) (fun _ _ _ h => h) (Or.inl ⟨by rfl, ?_⟩) ?_ ?_
                      rotate_left
                      · intro w'
                        go_simp
                        with_reducible rfl
                      rotate_left
                      · simp only [Act.put, List.setIfInBounds_toArray, List.set_cons_zero, List.set_cons_succ, i64_w, i32_w]
                        rfl
                      refine pure_ (i := 3) (N := some 51) (v := ?_) (a' := ?_) #[true, true, true, true, false, false, false, false, false, false, false, false, false, false] rfl rfl (any_of HT_.out (by kernel_rfl)) (fun _ _ _ h => h) (Or.inl ⟨by rfl, ?_⟩) ?_ ?_
                      rotate_left
                      · intro w'
                        go_simp
                        with_reducible rfl
                      rotate_left
                      · simp only [Act.put, List.setIfInBounds_toArray, List.set_cons_zero, List.set_cons_succ, i64_w, i32_w]
                        rfl
                      refine pure_ (i := 4) (N := some 52) (v := ?_) (a' := ?_) #[true, true, true, true, true, false, false, false, false, false, false, false, false, false] rfl rfl (any_of HT_.out (by kernel_rfl)) (fun _ _ _ h => h) (Or.inl ⟨by rfl, ?_⟩) ?_ ?_
                      rotate_left
                      · intro w'
                        go_simp
                        with_reducible rfl
                      rotate_left
                      · simp only [Act.put, List.setIfInBounds_toArray, List.set_cons_zero, List.set_cons_succ, i64_w, i32_w]
                        rfl
                      refine pure_ (i := 6) (N := some 54) (v := ?_) (a' := ?_) #[true, true, true, true, true, false, true, false, false, false, false, false, false, false] rfl rfl (any_of HT_.out (by kernel_rfl)) (fun _ _ _ h => h) (Or.inl ⟨by rfl, ?_⟩) ?_ ?_
                      rotate_left
                      · intro w'
                        go_simp
                        with_reducible rfl
                      rotate_left
                      · simp only [Act.put, List.setIfInBounds_toArray, List.set_cons_zero, List.set_cons_succ, i64_w, i32_w]
                        rfl
                      refine pure_ (i := 7) (N := some 55) (v := ?_) (a' := ?_) #[true, true, true, true, true, false, true, true, false, false, false, false, false, false] rfl rfl (any_of HT_.out (by kernel_rfl)) (fun _ _ _ h => h) (Or.inl ⟨by rfl, ?_⟩) ?_ ?_
                      rotate_left
                      · intro w'
                        go_simp
                        with_reducible rfl
                      rotate_left
                      · simp only [Act.put, List.setIfInBounds_toArray, List.set_cons_zero, List.set_cons_succ, i64_w, i32_w]
                        rfl
                      refine pure_ (i := 8) (N := some 56) (v := ?_) (a' := ?_) #[true, true, true, true, true, false, true, true, true, false, false, false, false, false] rfl rfl (any_of HT_.out (by kernel_rfl)) (fun _ _ _ h => h) (Or.inl ⟨by rfl, ?_⟩) ?_ ?_
                      rotate_left
                      · intro w'
                        go_simp
                        with_reducible rfl
                      rotate_left
                      · simp only [Act.put, List.setIfInBounds_toArray, List.set_cons_zero, List.set_cons_succ, i64_w, i32_w]
                        rfl
                      refine pure_ (i := 9) (N := some 57) (v := ?_) (a' := ?_) #[true, true, true, true, true, false, true, true, true, true, false, false, false, false] rfl rfl (any_of HT_.out (by kernel_rfl)) (fun _ _ _ h => h) (Or.inl ⟨by rfl, ?_⟩) ?_ ?_
                      rotate_left
                      · intro w'
                        go_simp
                        with_reducible rfl
                      rotate_left
                      · simp only [Act.put, List.setIfInBounds_toArray, List.set_cons_zero, List.set_cons_succ, i64_w, i32_w]
                        rfl
                      refine take_ (i := 5) (N := some 53) (v := ?_) (a' := ?_) #[true, true, true, true, true, true, true, true, true, true, false, false, false, false] rfl rfl (take_ofW HT_.out HW_.out (by kernel_rfl)) (fun _ _ _ h => h) (Or.inl ⟨by rfl, ?_⟩) hHeld ?_ ?_
                      rotate_left
                      · rintro w' ⟨s0, s1, s2, s3⟩
                        go_simp
                        with_reducible rfl
                      rotate_left
                      · simp only [Act.put, List.setIfInBounds_toArray, List.set_cons_zero, List.set_cons_succ, i64_w, i32_w]
                        rfl
                      refine take_ (i := 10) (N := some 58) (v := ?_) (a' := ?_) #[true, true, true, true, true, true, true, true, true, true, true, false, false, false] rfl rfl (take_ofW HT_.out HW_.out (by kernel_rfl)) (fun _ _ _ h => h) (Or.inl ⟨by rfl, ?_⟩) hHeld ?_ ?_
                      rotate_left
                      · rintro w' ⟨s0, s1, s2, s3⟩
                        go_simp
                        with_reducible rfl
                      rotate_left
                      · simp only [Act.put, List.setIfInBounds_toArray, List.set_cons_zero, List.set_cons_succ, i64_w, i32_w]
                        rfl
                      refine pure_ (i := 11) (N := some 59) (v := ?_) (a' := ?_) #[true, true, true, true, true, true, true, true, true, true, true, true, false, false] rfl rfl (any_of HT_.out (by kernel_rfl)) (fun _ _ _ h => h) (Or.inl ⟨by rfl, ?_⟩) ?_ ?_
                      rotate_left
                      · intro w'
                        go_simp
                        with_reducible rfl
                      rotate_left
                      · simp only [Act.put, List.setIfInBounds_toArray, List.set_cons_zero, List.set_cons_succ, i64_w, i32_w]
                        rfl
                      refine one_ (i := 12) (N := some 60) #[true, true, true, true, true, true, true, true, true, true, true, true, true, false] rfl rfl (one_of HT_.out (by kernel_rfl)) (by decide) (fun K hK => ?_)
                      refine goes_ Try.func23 (by kernel_rfl) rfl #[.slice Ao29 x8_1.length co29, .int .i64 ((rd_T43 l1 x9_1).f0), .int .i64 (((rd_T43 l1 x9_1).f1).length : Int)] (by rfl) rfl rfl (by (try simp only [List.map_toArray, List.map_cons, List.map_nil]); first | done | rfl | (simp only [List.length_drop, List.length_take]; rfl)) ?_
                      with_reducible refine (tinderref20_In.calls _ _ x8_1 ((rd_T43 l1 x9_1).f0) (((rd_T43 l1 x9_1).f1).length : Int) true _ ?side1 ?side2 A22.out).mono ?_
                      (case side1 => repeat (first | exact (Kd.R_reads' HO_8.out).2.2 | (with_reducible refine Kd.C_alloc ?_ _) | (with_reducible refine Kd.C_drewN ?_ _) | (with_reducible refine Kd.C_drew ?_)))
                      (case side2 => exact (Kd.R_reads' HO_8.out).2.1)
                      rintro e w' ⟨rfl, ⟨nd, rfl⟩⟩
                      refine ⟨_, rfl, ?_⟩
                      refine hK.out _ _ ⟨((HB.out.cell (World.block_lt_of_cell? w _ hw8015_0)).trans hw8015_0), ((HB.out.cell (World.block_lt_of_cell? w _ hw8015_1)).trans hw8015_1), ((HB.out.cell (World.block_lt_of_cell? w _ hw8016_0)).trans hw8016_0), ((HB.out.cell (World.block_lt_of_cell? w _ hw8016_1)).trans hw8016_1)⟩ (fun hHeld => ?_)
                      clear hK K
                      refine norm_ (a' := ?_) ?_ ?_
                      rotate_left
                      · show Act.put _ (some 60) _ = _
                        simp only [Act.put, List.setIfInBounds_toArray, List.set_cons_zero, List.set_cons_succ, i64_w, i32_w]
                        rfl
                      refine pure_ (i := 13) (N := some 61) (v := ?_) (a' := ?_) #[true, true, true, true, true, true, true, true, true, true, true, true, true, true] rfl rfl (any_of HT_.out (by kernel_rfl)) (fun _ _ _ h => h) (Or.inl ⟨by rfl, ?_⟩) ?_ ?_
                      rotate_left
                      · intro w'
                        go_simp
                        with_reducible rfl
                      rotate_left
                      · simp only [Act.put, List.setIfInBounds_toArray, List.set_cons_zero, List.set_cons_succ, i64_w, i32_w]
                        rfl
                      refine done_ (done_of HT_.out (by kernel_rfl)) ?_
                      try go_wp2
                      go_loopg [12] k1 (fun kq v12 w' => ∃ (x8_2 : List Int) (x12_2 : Int), v12 = .int .i64 x12_2 ∧ Aside0 (tinderlaw20_BlockRuns.l1 kq l1 t8011 x8_2 x9_1 x12_2 a2_0 a2_1 = some r) ∧ Aside0 (kq ≤ k1) ∧ Aside0 (Kd.R (Kd.int .u8) 5 w' w.heap.size (fun k_ => some k_ ≠ ((.slice Ao29 x8_1.length co29) : Value).ownBlock) v8013 t8011) ∧ Aside0 (Kd.R (Kd.int .u8) 5 w' w.heap.size (fun k_ => some k_ ≠ (v8013 : Value).ownBlock) (.slice Ao29 x8_1.length co29) x8_2) ∧ Aside0 (w'.heap[gb8001]? = some (.cells #[.int .i64 a2_0, .int .i64 a2_1] 38 (0, 0))) ∧ Aside0 (Below w.heap.size w w'))
                      case atStart => exact ⟨(x8_1), (0), (by first | rfl | (simp; done) | (simp [*]; done)), H', ⟨Nat.le_refl _⟩, ⟨by (with_reducible repeat (first | apply Kd.R_alloc | apply Kd.R_drewN | apply Kd.R_drew)); exact Kd.R_mono HO8014.out (fun _ hk => hk.2)⟩, ⟨by (with_reducible repeat (first | apply Kd.R_alloc | apply Kd.R_drewN | apply Kd.R_drew)); exact Kd.R_mono HO_8.out (fun _ hk => hk.2)⟩, ⟨by (with_reducible repeat (first | refine blk_drewN ?_ _ | refine blk_drew ?_ | refine blk_alloc ?_ _)); exact BK8001.out⟩, ⟨by repeat (first | (with_reducible first | exact HB.out | apply below_alloc | apply pw_below_drewN | apply below_drew1 | refine below_set ?_ GE8001.out) | exact HB.out)⟩⟩
                      case round =>
                        clear H'
                        try clear c1
                        try clear c2
                        try clear p2
                        try clear c5
                        try clear c6
                        try clear c6b0
                        try clear c6b1
                        try clear p6
                        try clear c7
                        try clear c8
                        try clear p8
                        try clear q8
                        try clear hx8
                        try clear c10
                        try clear c10b0
                        try clear c10b1
                        try clear c11
                        try clear c11b0
                        try clear c11b1
                        try clear c19
                        try clear c19b0
                        try clear c20
                        try clear c20b0
                        try clear c23
                        try clear c24
                        try clear c24b0
                        try clear c24b1
                        try clear hx8009_0
                        try clear hx8009_1
                        try clear hx8010_0
                        try clear hx8010_1
                        try clear hx8015_0
                        try clear hx8015_1
                        try clear hx8016_0
                        try clear hx8016_1
                        try clear p2
                        try clear p6
                        try clear p8009
                        try clear p8010
                        try clear p8015
                        try clear p8016
                        try clear q8009
                        try clear q8010
                        try clear q8015
                        try clear q8016
                        obtain ⟨x8_2, x12_2, rfl, HA, HK2, HO_7, HO_8, BK8001, HB⟩ := hrel
                        have hl8_2 := (Kd.R_reads' HO_8.out).1
                        rw [hl8_2] at HO_8
                        (try simp only [hl8_2])
                        (try simp only [hl8_2] at BK8001)
                        (try simp only [hl8_2] at HO_7)
                        cases gk with
                        | zero => exact absurd HA.out (by simp [tinderlaw20_BlockRuns.l1])
                        | succ k2 =>
                          have H := HA.out
                          clear HA
                          simp only [tinderlaw20_BlockRuns.l1] at H
                          by_cases c30 : 0 ≤ x9_1
                          · rw [if_pos c30] at H
                            have c30b0 : decide (0 ≤ x9_1) = true := decide_eq_true c30
                            clear c30
                            by_cases c31 : x9_1 < (l1.length : Int)
                            · rw [if_pos c31] at H
                              have c31b0 : decide (x9_1 < (l1.length : Int)) = true := decide_eq_true c31
                              clear c31
                              by_cases c32 : x12_2 < (((rd_T43 l1 x9_1).f1).length : Int)
                              · rw [if_pos c32] at H
                                have c32b0 : decide (x12_2 < (((rd_T43 l1 x9_1).f1).length : Int)) = true := decide_eq_true c32
                                clear c32
                                by_cases c33 : 0 ≤ x12_2
                                · rw [if_pos c33] at H
                                  have c33b0 : decide (0 ≤ x12_2) = true := decide_eq_true c33
                                  clear c33
                                  obtain ⟨ji34, hji34⟩ : ∃ j_ : Int, (wrap64 (((rd_T43 l1 x9_1).f0) + x12_2)) = j_ := ⟨_, rfl⟩
                                  replace H : (if 0 ≤ (ji34) then (if (ji34) < (x8_2.length : Int) then (tinderlaw20_BlockRuns.l1 k2 l1 t8011 (x8_2.set ((ji34) : Int).toNat (rd ((rd_T43 l1 x9_1).f1) x12_2)) x9_1 (wrap64 (x12_2 + 1)) a2_0 a2_1) else (none)) else (none)) = some r := by first | (rw [hji34] at H; exact H) | (simp only [hji34] at H ⊢; exact H)
                                  have hji34w : (IntKind.i64.wrap (((rd_T43 l1 x9_1).f0) + x12_2)) = ji34 := (i64_w _).trans hji34
                                  by_cases c35 : 0 ≤ (ji34)
                                  · rw [if_pos c35] at H
                                    have c35b0 : decide (0 ≤ (ji34)) = true := decide_eq_true c35
                                    clear c35
                                    by_cases c36 : (ji34) < (x8_2.length : Int)
                                    · rw [if_pos c36] at H
                                      have c36b0 : decide ((ji34) < (x8_2.length : Int)) = true := decide_eq_true c36
                                      clear c36
                                      obtain ⟨y8022, hy8022⟩ : ∃ y_ : List Int, y_ = (x8_2.set ((ji34) : Int).toNat (rd ((rd_T43 l1 x9_1).f1) x12_2)) := ⟨_, rfl⟩
                                      replace H : (tinderlaw20_BlockRuns.l1 k2 l1 t8011 y8022 x9_1 (wrap64 (x12_2 + 1)) a2_0 a2_1) = some r := by first | (rw [hy8022]; with_reducible exact H) | (have H2_ := (Option.bind_some _ _).symm.trans H; rw [hy8022]; with_reducible exact H2_) | (have H2_ := (Option.bind_some _ _).symm.trans H; with_reducible exact H2_) | with_reducible exact H | (rw [hy8022]; exact H) | exact H
                                      have Ny8022 := Aside0.mk hy8022
                                      clear hy8022
                                      have H' := Aside0.mk H
                                      clear H
                                      have p8018 : 0 ≤ (x9_1 : Int) := of_decide_eq_true (by first | (with_reducible assumption) | assumption)
                                      have q8018 : x9_1 < (l1.length : Int) := of_decide_eq_true (by first | (with_reducible assumption) | assumption)
                                      obtain ⟨ad8018, A8018_1, c8018_1, e8018, hx8018_0, hx8018_1, hl8018_1, hi8018_1⟩ := at_T43 HR1.out x9_1 p8018 q8018
                                      obtain rfl : ad8009 = ad8018 := (by injection e8018)
                                      replace hx8018_0 := (HB.out.cell (World.block_lt_of_cell? w _ hx8018_0)).trans hx8018_0
                                      replace hx8018_1 := (HB.out.cell (World.block_lt_of_cell? w _ hx8018_1)).trans hx8018_1
                                      have HR8018_1 := Aside0.mk hi8018_1
                                      have HC8018_1 := Aside0.mk hl8018_1
                                      clear hi8018_1 hl8018_1
                                      replace p8018 := eq_true p8018
                                      replace q8018 := eq_true q8018
                                      try go_wp2
                                      have n0_ := Aside0.mk (Kd.R_drew HO_7.out)
                                      have n1_ := Aside0.mk (Kd.R_drew HO_8.out)
                                      have n2_ := Aside0.mk (blk_drew BK8001.out)
                                      have n3_ := Aside0.mk (below_drew1 HB.out)
                                      clear HO_7
                                      clear HO_8
                                      clear BK8001
                                      clear HB
                                      have HO_7 := n0_
                                      have HO_8 := n1_
                                      have BK8001 := n2_
                                      have HB := n3_
                                      clear n0_ n1_ n2_ n3_
                                      have p8019 : 0 ≤ (x9_1 : Int) := of_decide_eq_true (by first | (with_reducible assumption) | assumption)
                                      have q8019 : x9_1 < (l1.length : Int) := of_decide_eq_true (by first | (with_reducible assumption) | assumption)
                                      obtain ⟨ad8019, A8019_1, c8019_1, e8019, hx8019_0, hx8019_1, hl8019_1, hi8019_1⟩ := at_T43 HR1.out x9_1 p8019 q8019
                                      have hw8019_1 := hx8019_1
                                      have hw8019_0 := hx8019_0
                                      obtain rfl : ad8009 = ad8019 := (by injection e8019)
                                      replace hx8019_0 := (HB.out.cell (World.block_lt_of_cell? w _ hx8019_0)).trans hx8019_0
                                      replace hx8019_1 := (HB.out.cell (World.block_lt_of_cell? w _ hx8019_1)).trans hx8019_1
                                      have HR8019_1 := Aside0.mk hi8019_1
                                      have HC8019_1 := Aside0.mk hl8019_1
                                      clear hi8019_1 hl8019_1
                                      replace p8019 := eq_true p8019
                                      replace q8019 := eq_true q8019
                                      have p8020 : 0 ≤ (x9_1 : Int) := of_decide_eq_true (by first | (with_reducible assumption) | assumption)
                                      have q8020 : x9_1 < (l1.length : Int) := of_decide_eq_true (by first | (with_reducible assumption) | assumption)
                                      obtain ⟨ad8020, A8020_1, c8020_1, e8020, hx8020_0, hx8020_1, hl8020_1, hi8020_1⟩ := at_T43 HR1.out x9_1 p8020 q8020
                                      have hw8020_1 := hx8020_1
                                      have hw8020_0 := hx8020_0
                                      obtain rfl : ad8009 = ad8020 := (by injection e8020)
                                      replace hx8020_0 := (HB.out.cell (World.block_lt_of_cell? w _ hx8020_0)).trans hx8020_0
                                      replace hx8020_1 := (HB.out.cell (World.block_lt_of_cell? w _ hx8020_1)).trans hx8020_1
                                      have HR8020_1 := Aside0.mk hi8020_1
                                      have HC8020_1 := Aside0.mk hl8020_1
                                      clear hi8020_1 hl8020_1
                                      replace p8020 := eq_true p8020
                                      replace q8020 := eq_true q8020
                                      have ea_ := Option.some.inj (hx8019_1.symm.trans hx8020_1)
                                      injection ea_ with ea_ en_ ec_
                                      subst ea_
                                      subst ec_
                                      clear en_
                                      have p8021 : 0 ≤ (x12_2 : Int) := of_decide_eq_true (by first | (with_reducible assumption) | assumption)
                                      have q8021 : x12_2 < (((rd_T43 l1 x9_1).f1).length : Int) := of_decide_eq_true (by first | (with_reducible assumption) | assumption)
                                      obtain ⟨ad8021, e8021, hx8021_0⟩ := Kd.at_int HR8020_1.out x12_2 p8021 q8021
                                      have hw8021_0 := hx8021_0
                                      cases e8021
                                      replace hx8021_0 := (HB.out.cell (World.block_lt_of_cell? w _ hx8021_0)).trans hx8021_0
                                      replace p8021 := eq_true p8021
                                      replace q8021 := eq_true q8021
                                      have p37 : 0 ≤ ((ji34) : Int) := of_decide_eq_true (by first | (with_reducible assumption) | assumption)
                                      have q37 : ((ji34) : Int) < ((x8_2.length : Int) : Int) := of_decide_eq_true (by first | (with_reducible assumption) | assumption)
                                      obtain ⟨go37, co37, eo37, gb37, gl37, cl37, HG37⟩ := Kd.R_form HO_8.out (by omega)
                                      (first | cases eo37 | (injection eo37 with ea_ en_ ec_; (first | subst ea_ | (injection ea_ with ea_; subst ea_)); subst ec_; clear en_))
                                      have GB37 := Aside0.mk gb37
                                      have GG37 := Aside0.mk HG37
                                      clear gb37 gl37 HG37
                                      obtain ⟨hx37_0, hf37_0⟩ := Kd.R_celln 0 HO_8.out ((ji34) : Int) p37 q37
                                      replace p37 := eq_true p37
                                      replace q37 := eq_true q37
                                      have HP39 := Kd.R_putn HO_8.out ((ji34) : Int) (rd ((rd_T43 l1 x9_1).f1) x12_2)
                                      rw [← Ny8022.out] at HP39
                                      have HQ39 := Aside0.mk HP39
                                      clear HP39
                                      refine start_ (n := 18) (S := fun w' => w'.cell? (ad8009.add ((x9_1).toNat * 2)) = some (.int .i64 ((rd_T43 l1 x9_1).f0)) ∧ w'.cell? ⟨(ad8009.add ((x9_1).toNat * 2)).block, (ad8009.add ((x9_1).toNat * 2)).off + 1, none⟩ = some (.slice (some ad8021) ((rd_T43 l1 x9_1).f1).length c8019_1) ∧ w'.cell? (ad8009.add ((x9_1).toNat * 2)) = some (.int .i64 ((rd_T43 l1 x9_1).f0)) ∧ w'.cell? ⟨(ad8009.add ((x9_1).toNat * 2)).block, (ad8009.add ((x9_1).toNat * 2)).off + 1, none⟩ = some (.slice (some ad8021) ((rd_T43 l1 x9_1).f1).length c8019_1) ∧ w'.cell? (ad8021.add (x12_2).toNat) = some (.int .u8 (rd ((rd_T43 l1 x9_1).f1) x12_2))) (ds := [17]) #[false, false, false, false, false, false, false, false, false, false, false, false, false, false, false, false, false, false] (by kernel_rfl) rfl rfl ⟨((HB.out.cell (World.block_lt_of_cell? w _ hw8019_0)).trans hw8019_0), ((HB.out.cell (World.block_lt_of_cell? w _ hw8019_1)).trans hw8019_1), ((HB.out.cell (World.block_lt_of_cell? w _ hw8020_0)).trans hw8020_0), ((HB.out.cell (World.block_lt_of_cell? w _ hw8020_1)).trans hw8020_1), ((HB.out.cell (World.block_lt_of_cell? w _ hw8021_0)).trans hw8021_0)⟩ (fun hHeld => ?_); refine with_tabW tinderlaw20_BlockRuns.tab20 tinderlaw20_BlockRuns.bits20 (fun HT_ HW_ => ?_)
                                      generalize wr.drew = w38 at HO_7 HO_8 BK8001 HB GG37 HQ39 HR8019_1 HR8020_1 hf37_0 hx37_0 hx8019_0 hx8019_1 hx8020_0 hx8020_1 hx8021_0 hHeld ⊢
                                      refine pure_ (i := 0) (N := some 77) (v := ?_) (a' := ?_) #[true, false, false, false, false, false, false, false, false, false, false, false, false, false, false, false, false, false] rfl rfl (any_of HT_.out (by kernel_rfl)) (fun _ _ _ h => h) (Or.inl ⟨by rfl, ?_⟩) ?_ ?_
                                      rotate_left
                                      · intro w'
                                        go_simp
                                        with_reducible rfl
                                      rotate_left
                                      · simp only [Act.put, List.setIfInBounds_toArray, List.set_cons_zero, List.set_cons_succ, i64_w, i32_w]
                                        rfl
                                      refine pure_ (i := 1) (N := some 78) (v := ?_) (a' := ?_) #[true, true, false, false, false, false, false, false, false, false, false, false, false, false, false, false, false, false] rfl rfl (any_of HT_.out (by kernel_rfl)) (fun _ _ _ h => h) (Or.inl ⟨by rfl, ?_⟩) ?_ ?_
                                      rotate_left
                                      · intro w'
                                        go_simp
                                        with_reducible rfl
                                      rotate_left
                                      · simp only [Act.put, List.setIfInBounds_toArray, List.set_cons_zero, List.set_cons_succ, i64_w, i32_w]
                                        rfl
                                      refine pure_ (i := 2) (N := some 79) (v := ?_) (a' := ?_) #[true, true, true, false, false, false, false, false, false, false, false, false, false, false, false, false, false, false] rfl rfl (any_of HT_.out (by kernel_rfl)) (fun _ _ _ h => h) (Or.inl ⟨by rfl, ?_⟩) ?_ ?_
                                      rotate_left
                                      · intro w'
                                        go_simp
                                        with_reducible rfl
                                      rotate_left
                                      · simp only [Act.put, List.setIfInBounds_toArray, List.set_cons_zero, List.set_cons_succ, i64_w, i32_w]
                                        rfl
                                      refine pure_ (i := 3) (N := some 80) (v := ?_) (a' := ?_) #[true, true, true, true, false, false, false, false, false, false, false, false, false, false, false, false, false, false] rfl rfl (any_of HT_.out (by kernel_rfl)) (fun _ _ _ h => h) (Or.inl ⟨by rfl, ?_⟩) ?_ ?_
                                      rotate_left
                                      · intro w'
                                        go_simp
                                        with_reducible rfl
                                      rotate_left
                                      · simp only [Act.put, List.setIfInBounds_toArray, List.set_cons_zero, List.set_cons_succ, i64_w, i32_w]
                                        rfl
                                      refine pure_ (i := 4) (N := some 81) (v := ?_) (a' := ?_) #[true, true, true, true, true, false, false, false, false, false, false, false, false, false, false, false, false, false] rfl rfl (any_of HT_.out (by kernel_rfl)) (fun _ _ _ h => h) (Or.inl ⟨by rfl, ?_⟩) ?_ ?_
                                      rotate_left
                                      · intro w'
                                        go_simp
                                        with_reducible rfl
                                      rotate_left
                                      · simp only [Act.put, List.setIfInBounds_toArray, List.set_cons_zero, List.set_cons_succ, i64_w, i32_w]
                                        rfl
                                      refine pure_ (i := 6) (N := some 83) (v := ?_) (a' := ?_) #[true, true, true, true, true, false, true, false, false, false, false, false, false, false, false, false, false, false] rfl rfl (any_of HT_.out (by kernel_rfl)) (fun _ _ _ h => h) (Or.inl ⟨by rfl, ?_⟩) ?_ ?_
                                      rotate_left
                                      · intro w'
                                        go_simp
                                        with_reducible rfl
                                      rotate_left
                                      · simp only [Act.put, List.setIfInBounds_toArray, List.set_cons_zero, List.set_cons_succ, i64_w, i32_w]
                                        rfl
                                      refine pure_ (i := 8) (N := some 85) (v := ?_) (a' := ?_) #[true, true, true, true, true, false, true, false, true, false, false, false, false, false, false, false, false, false] rfl rfl (any_of HT_.out (by kernel_rfl)) (fun _ _ _ h => h) (Or.inl ⟨by rfl, ?_⟩) ?_ ?_
                                      rotate_left
                                      · intro w'
                                        go_simp
                                        with_reducible rfl
                                      rotate_left
                                      · simp only [Act.put, List.setIfInBounds_toArray, List.set_cons_zero, List.set_cons_succ, i64_w, i32_w]
                                        rfl
                                      refine pure_ (i := 9) (N := some 86) (v := ?_) (a' := ?_) #[true, true, true, true, true, false, true, false, true, true, false, false, false, false, false, false, false, false] rfl rfl (any_of HT_.out (by kernel_rfl)) (fun _ _ _ h => h) (Or.inl ⟨by rfl, ?_⟩) ?_ ?_
                                      rotate_left
                                      · intro w'
                                        go_simp
                                        with_reducible rfl
                                      rotate_left
                                      · simp only [Act.put, List.setIfInBounds_toArray, List.set_cons_zero, List.set_cons_succ, i64_w, i32_w]
                                        rfl
                                      refine pure_ (i := 10) (N := some 87) (v := ?_) (a' := ?_) #[true, true, true, true, true, false, true, false, true, true, true, false, false, false, false, false, false, false] rfl rfl (any_of HT_.out (by kernel_rfl)) (fun _ _ _ h => h) (Or.inl ⟨by rfl, ?_⟩) ?_ ?_
                                      rotate_left
                                      · intro w'
                                        go_simp
                                        with_reducible rfl
                                      rotate_left
                                      · simp only [Act.put, List.setIfInBounds_toArray, List.set_cons_zero, List.set_cons_succ, i64_w, i32_w]
                                        rfl
                                      refine pure_ (i := 11) (N := some 88) (v := ?_) (a' := ?_) #[true, true, true, true, true, false, true, false, true, true, true, true, false, false, false, false, false, false] rfl rfl (any_of HT_.out (by kernel_rfl)) (fun _ _ _ h => h) (Or.inl ⟨by rfl, ?_⟩) ?_ ?_
                                      rotate_left
                                      · intro w'
                                        go_simp
                                        with_reducible rfl
                                      rotate_left
                                      · simp only [Act.put, List.setIfInBounds_toArray, List.set_cons_zero, List.set_cons_succ, i64_w, i32_w]
                                        rfl
                                      refine pure_ (i := 13) (N := some 90) (v := ?_) (a' := ?_) #[true, true, true, true, true, false, true, false, true, true, true, true, false, true, false, false, false, false] rfl rfl (any_of HT_.out (by kernel_rfl)) (fun _ _ _ h => h) (Or.inl ⟨by rfl, ?_⟩) ?_ ?_
                                      rotate_left
                                      · intro w'
                                        go_simp
                                        with_reducible rfl
                                      rotate_left
                                      · simp only [Act.put, List.setIfInBounds_toArray, List.set_cons_zero, List.set_cons_succ, i64_w, i32_w]
                                        rfl
                                      refine take_ (i := 5) (N := some 82) (v := ?_) (a' := ?_) #[true, true, true, true, true, true, true, false, true, true, true, true, false, true, false, false, false, false] rfl rfl (take_ofW HT_.out HW_.out (by kernel_rfl)) (fun _ _ _ h => h) (Or.inl ⟨by rfl, ?_⟩) hHeld ?_ ?_
                                      rotate_left
                                      · rintro w' ⟨s0, s1, s2, s3, s4⟩
                                        go_simp
                                        with_reducible rfl
                                      rotate_left
                                      · simp only [Act.put, List.setIfInBounds_toArray, List.set_cons_zero, List.set_cons_succ, i64_w, i32_w]
                                        rfl
                                      refine pure_ (i := 7) (N := some 84) (v := ?_) (a' := ?_) #[true, true, true, true, true, true, true, true, true, true, true, true, false, true, false, false, false, false] rfl rfl (any_of HT_.out (by kernel_rfl)) (fun _ _ _ h => h) (Or.inl ⟨by rfl, ?_⟩) ?_ ?_
                                      rotate_left
                                      · intro w'
                                        go_simp
                                        with_reducible rfl
                                      rotate_left
                                      · simp only [Act.put, List.setIfInBounds_toArray, List.set_cons_zero, List.set_cons_succ, i64_w, i32_w]
                                        rfl
                                      refine take_ (i := 12) (N := some 89) (v := ?_) (a' := ?_) #[true, true, true, true, true, true, true, true, true, true, true, true, true, true, false, false, false, false] rfl rfl (take_ofW HT_.out HW_.out (by kernel_rfl)) (fun _ _ _ h => h) (Or.inl ⟨by rfl, ?_⟩) hHeld ?_ ?_
                                      rotate_left
                                      · rintro w' ⟨s0, s1, s2, s3, s4⟩
                                        go_simp
                                        with_reducible rfl
                                      rotate_left
                                      · simp only [Act.put, List.setIfInBounds_toArray, List.set_cons_zero, List.set_cons_succ, i64_w, i32_w]
                                        rfl
                                      refine pure_ (i := 14) (N := some 91) (v := ?_) (a' := ?_) #[true, true, true, true, true, true, true, true, true, true, true, true, true, true, true, false, false, false] rfl rfl (any_of HT_.out (by kernel_rfl)) (fun _ _ _ h => h) (Or.inl ⟨by rfl, ?_⟩) ?_ ?_
                                      rotate_left
                                      · intro w'
                                        go_simp
                                        with_reducible rfl
                                      rotate_left
                                      · simp only [Act.put, List.setIfInBounds_toArray, List.set_cons_zero, List.set_cons_succ, i64_w, i32_w]
                                        rfl
                                      refine take_ (i := 15) (N := some 92) (v := ?_) (a' := ?_) #[true, true, true, true, true, true, true, true, true, true, true, true, true, true, true, true, false, false] rfl rfl (take_ofW HT_.out HW_.out (by kernel_rfl)) (fun _ _ _ h => h) (Or.inl ⟨by rfl, ?_⟩) hHeld ?_ ?_
                                      rotate_left
                                      · rintro w' ⟨s0, s1, s2, s3, s4⟩
                                        go_simp
                                        with_reducible rfl
                                      rotate_left
                                      · simp only [Act.put, List.setIfInBounds_toArray, List.set_cons_zero, List.set_cons_succ, i64_w, i32_w]
                                        rfl
                                      refine pure_ (i := 16) (N := some 93) (v := ?_) (a' := ?_) #[true, true, true, true, true, true, true, true, true, true, true, true, true, true, true, true, true, false] rfl rfl (any_of HT_.out (by kernel_rfl)) (fun _ _ _ h => h) (Or.inl ⟨by rfl, ?_⟩) ?_ ?_
                                      rotate_left
                                      · intro w'
                                        go_simp
                                        with_reducible rfl
                                      rotate_left
                                      · simp only [Act.put, List.setIfInBounds_toArray, List.set_cons_zero, List.set_cons_succ, i64_w, i32_w]
                                        rfl
                                      refine last_ (i := 17) (N := none) #[true, true, true, true, true, true, true, true, true, true, true, true, true, true, true, true, true, true] rfl rfl (one_of HT_.out (by kernel_rfl)) (by decide) (fun K hK => ?_)
                                      refine skip_ (w1 := ?_) (by rfl) rfl ?_ ?_
                                      rotate_left
                                      · go_simp
                                        rfl
                                      refine hK.out _ _ ?_
                                      clear hK K
                                      refine done_ (done_of HT_.out (by kernel_rfl)) ?_
                                      try go_wp2
                                      (try simp only [← hl8_2])
                                      go_roundg k2
                                      case measure => have := HK1.out; have := HK2.out; omega
                                      case rel => exact ⟨(y8022), (wrap64 (x12_2 + 1)), (by first | rfl | (simp; done) | (simp [*]; done)), H', ⟨by have := HK1.out; have := HK2.out; omega⟩, ⟨by (try simp only [hl8_2]); (with_reducible repeat (first | apply Kd.R_alloc | apply Kd.R_drewN | apply Kd.R_drew)); exact Kd.R_mono (Kd.R_far (p := ⟨go37, ((ji34) : Int).toNat, none⟩) (Kd.R_mono HO_7.out (fun k_ hk => (⟨hk, fun e_ => hk (by rw [e_]; rfl)⟩ : _ ∧ k_ ≠ go37))) (fun _ hk => hk.2) (.int .u8 (rd ((rd_T43 l1 x9_1).f1) x12_2))) (fun _ hk => hk.1)⟩, ⟨by (try simp only [hl8_2]); (with_reducible repeat (first | apply Kd.R_alloc | apply Kd.R_drewN | apply Kd.R_drew)); exact HQ39.out⟩, ⟨by (try simp only [hl8_2]); (with_reducible repeat (first | refine blk_drewN ?_ _ | refine blk_drew ?_ | refine blk_alloc ?_ _)); refine blk_far ?_ (by have h_ := Kd.R_ne HO_8.out BK8001.out (by decide); intro e_; exact h_ (by rw [e_]; rfl)) _; (with_reducible repeat (first | refine blk_drewN ?_ _ | refine blk_drew ?_ | refine blk_alloc ?_ _)); exact BK8001.out⟩, ⟨by repeat (first | (with_reducible first | exact HB.out | apply below_alloc | apply pw_below_drewN | apply below_drew1 | refine below_set ?_ GB37.out | refine below_set ?_ GE8001.out) | exact HB.out)⟩⟩
                                    · rw [if_neg c36] at H
                                      exact absurd H (by simp)
                                  · rw [if_neg c35] at H
                                    exact absurd H (by simp)
                                · rw [if_neg c33] at H
                                  exact absurd H (by simp)
                              · rw [if_neg c32] at H
                                have c32b0 : decide (x12_2 < (((rd_T43 l1 x9_1).f1).length : Int)) = false := decide_eq_false c32
                                clear c32
                                have H' := Aside0.mk H
                                clear H
                                have p8018 : 0 ≤ (x9_1 : Int) := of_decide_eq_true (by first | (with_reducible assumption) | assumption)
                                have q8018 : x9_1 < (l1.length : Int) := of_decide_eq_true (by first | (with_reducible assumption) | assumption)
                                obtain ⟨ad8018, A8018_1, c8018_1, e8018, hx8018_0, hx8018_1, hl8018_1, hi8018_1⟩ := at_T43 HR1.out x9_1 p8018 q8018
                                obtain rfl : ad8009 = ad8018 := (by injection e8018)
                                replace hx8018_0 := (HB.out.cell (World.block_lt_of_cell? w _ hx8018_0)).trans hx8018_0
                                replace hx8018_1 := (HB.out.cell (World.block_lt_of_cell? w _ hx8018_1)).trans hx8018_1
                                have HR8018_1 := Aside0.mk hi8018_1
                                have HC8018_1 := Aside0.mk hl8018_1
                                clear hi8018_1 hl8018_1
                                replace p8018 := eq_true p8018
                                replace q8018 := eq_true q8018
                                go_wp2
                                (try simp only [← hl8_2])
                                go_roundg k2
                                case measure => have := HK1.out; have := HK2.out; omega
                                case rel => exact ⟨(t8011), (x8_2), (wrap64 (x9_1 + 1)), (by first | rfl | (simp; done) | (simp [*]; done)), H', ⟨by have := HK1.out; have := HK2.out; omega⟩, ⟨by (try simp only [hl8_2]); (with_reducible repeat (first | apply Kd.R_alloc | apply Kd.R_drewN | apply Kd.R_drew)); exact HO_7.out⟩, ⟨by (try simp only [hl8_2]); (with_reducible repeat (first | apply Kd.R_alloc | apply Kd.R_drewN | apply Kd.R_drew)); exact HO_8.out⟩, ⟨by (try simp only [hl8_2]); (with_reducible repeat (first | refine blk_drewN ?_ _ | refine blk_drew ?_ | refine blk_alloc ?_ _)); exact BK8001.out⟩, ⟨by repeat (first | (with_reducible first | exact HB.out | apply below_alloc | apply pw_below_drewN | apply below_drew1 | refine below_set ?_ GE8001.out) | exact HB.out)⟩⟩
                            · rw [if_neg c31] at H
                              exact absurd H (by simp)
                          · rw [if_neg c30] at H
                            exact absurd H (by simp)
                    · rw [if_neg c24] at H
                      have c24b0 : (t8012 == 0) = false := beq_eq_false_iff_ne.mpr c24
                      have c24b1 : (t8012 != 0) = true := bne_iff_ne.mpr c24
                      obtain rfl := Option.some.inj H
                      try go_wp2
                      have n0_ := Aside0.mk (Kd.R_drew HO_7.out)
                      have n1_ := Aside0.mk (Kd.R_drew HO_8.out)
                      have n2_ := Aside0.mk (blk_drew BK8001.out)
                      have n3_ := Aside0.mk (below_drew1 HB.out)
                      clear HO_7
                      clear HO_8
                      clear BK8001
                      clear HB
                      have HO_7 := n0_
                      have HO_8 := n1_
                      have BK8001 := n2_
                      have HB := n3_
                      clear n0_ n1_ n2_ n3_
                      have p8009 : 0 ≤ (x9_1 : Int) := of_decide_eq_true (by first | (with_reducible assumption) | assumption)
                      have q8009 : x9_1 < (l1.length : Int) := of_decide_eq_true (by first | (with_reducible assumption) | assumption)
                      obtain ⟨ad8009, A8009_1, c8009_1, e8009, hx8009_0, hx8009_1, hl8009_1, hi8009_1⟩ := at_T43 HR1.out x9_1 p8009 q8009
                      have hw8009_1 := hx8009_1
                      have hw8009_0 := hx8009_0
                      cases e8009
                      replace hx8009_0 := (HB.out.cell (World.block_lt_of_cell? w _ hx8009_0)).trans hx8009_0
                      replace hx8009_1 := (HB.out.cell (World.block_lt_of_cell? w _ hx8009_1)).trans hx8009_1
                      have HR8009_1 := Aside0.mk hi8009_1
                      have HC8009_1 := Aside0.mk hl8009_1
                      clear hi8009_1 hl8009_1
                      replace p8009 := eq_true p8009
                      replace q8009 := eq_true q8009
                      have p8010 : 0 ≤ (x9_1 : Int) := of_decide_eq_true (by first | (with_reducible assumption) | assumption)
                      have q8010 : x9_1 < (l1.length : Int) := of_decide_eq_true (by first | (with_reducible assumption) | assumption)
                      obtain ⟨ad8010, A8010_1, c8010_1, e8010, hx8010_0, hx8010_1, hl8010_1, hi8010_1⟩ := at_T43 HR1.out x9_1 p8010 q8010
                      have hw8010_1 := hx8010_1
                      have hw8010_0 := hx8010_0
                      obtain rfl : ad8009 = ad8010 := (by injection e8010)
                      replace hx8010_0 := (HB.out.cell (World.block_lt_of_cell? w _ hx8010_0)).trans hx8010_0
                      replace hx8010_1 := (HB.out.cell (World.block_lt_of_cell? w _ hx8010_1)).trans hx8010_1
                      have HR8010_1 := Aside0.mk hi8010_1
                      have HC8010_1 := Aside0.mk hl8010_1
                      clear hi8010_1 hl8010_1
                      replace p8010 := eq_true p8010
                      replace q8010 := eq_true q8010
                      have ea_ := Option.some.inj (hx8009_1.symm.trans hx8010_1)
                      injection ea_ with ea_ en_ ec_
                      subst ea_
                      subst ec_
                      clear en_
                      obtain ⟨Ao41, co41, eo41⟩ := Kd.R_slice HO_7.out
                      (first | subst eo41 | (injection eo41 with f1_ f2_ f3_; have f4_ := f1_.symm; have f5_ := f3_.symm; clear f1_ f2_ f3_; subst f4_; subst f5_))
                      refine start_ (n := 17) (S := fun w' => w'.cell? (ad8009.add ((x9_1).toNat * 2)) = some (.int .i64 ((rd_T43 l1 x9_1).f0)) ∧ w'.cell? ⟨(ad8009.add ((x9_1).toNat * 2)).block, (ad8009.add ((x9_1).toNat * 2)).off + 1, none⟩ = some (.slice A8009_1 ((rd_T43 l1 x9_1).f1).length c8009_1) ∧ w'.cell? (ad8009.add ((x9_1).toNat * 2)) = some (.int .i64 ((rd_T43 l1 x9_1).f0)) ∧ w'.cell? ⟨(ad8009.add ((x9_1).toNat * 2)).block, (ad8009.add ((x9_1).toNat * 2)).off + 1, none⟩ = some (.slice A8009_1 ((rd_T43 l1 x9_1).f1).length c8009_1)) (ds := []) #[false, false, false, false, false, false, false, false, false, false, false, false, false, false, false, false, false] (by kernel_rfl) rfl rfl ⟨((HB.out.cell (World.block_lt_of_cell? w _ hw8009_0)).trans hw8009_0), ((HB.out.cell (World.block_lt_of_cell? w _ hw8009_1)).trans hw8009_1), ((HB.out.cell (World.block_lt_of_cell? w _ hw8010_0)).trans hw8010_0), ((HB.out.cell (World.block_lt_of_cell? w _ hw8010_1)).trans hw8010_1)⟩ (fun hHeld => ?_); refine with_tabW tinderlaw20_BlockRuns.tab10 tinderlaw20_BlockRuns.bits10 (fun HT_ HW_ => ?_)
                      generalize wr.drew = w40 at HO_7 HO_8 BK8001 HB HR8009_1 HR8010_1 hx8009_0 hx8009_1 hx8010_0 hx8010_1 hHeld ⊢
                      refine pure_ (i := 0) (N := some 34) (v := ?_) (a' := ?_) #[true, false, false, false, false, false, false, false, false, false, false, false, false, false, false, false, false] rfl rfl (any_of HT_.out (by kernel_rfl)) (fun _ _ _ h => h) (Or.inl ⟨by rfl, ?_⟩) ?_ ?_
                      rotate_left
                      · intro w'
                        go_simp
                        with_reducible rfl
                      rotate_left
                      · simp only [Act.put, List.setIfInBounds_toArray, List.set_cons_zero, List.set_cons_succ, i64_w, i32_w]
                        rfl
                      refine pure_ (i := 1) (N := some 35) (v := ?_) (a' := ?_) #[true, true, false, false, false, false, false, false, false, false, false, false, false, false, false, false, false] rfl rfl (any_of HT_.out (by kernel_rfl)) (fun _ _ _ h => h) (Or.inl ⟨by rfl, ?_⟩) ?_ ?_
                      rotate_left
                      · intro w'
                        go_simp
                        with_reducible rfl
                      rotate_left
                      · simp only [Act.put, List.setIfInBounds_toArray, List.set_cons_zero, List.set_cons_succ, i64_w, i32_w]
                        rfl
                      refine pure_ (i := 2) (N := some 36) (v := ?_) (a' := ?_) #[true, true, true, false, false, false, false, false, false, false, false, false, false, false, false, false, false] rfl rfl (any_of HT_.out (by kernel_rfl)) (fun _ _ _ h => h) (Or.inl ⟨by rfl, ?_⟩) ?_ ?_
                      rotate_left
                      · intro w'
                        go_simp
                        with_reducible rfl
                      rotate_left
                      · simp only [Act.put, List.setIfInBounds_toArray, List.set_cons_zero, List.set_cons_succ, i64_w, i32_w]
                        rfl
                      refine pure_ (i := 3) (N := some 37) (v := ?_) (a' := ?_) #[true, true, true, true, false, false, false, false, false, false, false, false, false, false, false, false, false] rfl rfl (any_of HT_.out (by kernel_rfl)) (fun _ _ _ h => h) (Or.inl ⟨by rfl, ?_⟩) ?_ ?_
                      rotate_left
                      · intro w'
                        go_simp
                        with_reducible rfl
                      rotate_left
                      · simp only [Act.put, List.setIfInBounds_toArray, List.set_cons_zero, List.set_cons_succ, i64_w, i32_w]
                        rfl
                      refine pure_ (i := 4) (N := some 38) (v := ?_) (a' := ?_) #[true, true, true, true, true, false, false, false, false, false, false, false, false, false, false, false, false] rfl rfl (any_of HT_.out (by kernel_rfl)) (fun _ _ _ h => h) (Or.inl ⟨by rfl, ?_⟩) ?_ ?_
                      rotate_left
                      · intro w'
                        go_simp
                        with_reducible rfl
                      rotate_left
                      · simp only [Act.put, List.setIfInBounds_toArray, List.set_cons_zero, List.set_cons_succ, i64_w, i32_w]
                        rfl
                      refine pure_ (i := 6) (N := some 40) (v := ?_) (a' := ?_) #[true, true, true, true, true, false, true, false, false, false, false, false, false, false, false, false, false] rfl rfl (any_of HT_.out (by kernel_rfl)) (fun _ _ _ h => h) (Or.inl ⟨by rfl, ?_⟩) ?_ ?_
                      rotate_left
                      · intro w'
                        go_simp
                        with_reducible rfl
                      rotate_left
                      · simp only [Act.put, List.setIfInBounds_toArray, List.set_cons_zero, List.set_cons_succ, i64_w, i32_w]
                        rfl
                      refine pure_ (i := 7) (N := some 41) (v := ?_) (a' := ?_) #[true, true, true, true, true, false, true, true, false, false, false, false, false, false, false, false, false] rfl rfl (any_of HT_.out (by kernel_rfl)) (fun _ _ _ h => h) (Or.inl ⟨by rfl, ?_⟩) ?_ ?_
                      rotate_left
                      · intro w'
                        go_simp
                        with_reducible rfl
                      rotate_left
                      · simp only [Act.put, List.setIfInBounds_toArray, List.set_cons_zero, List.set_cons_succ, i64_w, i32_w]
                        rfl
                      refine pure_ (i := 8) (N := some 42) (v := ?_) (a' := ?_) #[true, true, true, true, true, false, true, true, true, false, false, false, false, false, false, false, false] rfl rfl (any_of HT_.out (by kernel_rfl)) (fun _ _ _ h => h) (Or.inl ⟨by rfl, ?_⟩) ?_ ?_
                      rotate_left
                      · intro w'
                        go_simp
                        with_reducible rfl
                      rotate_left
                      · simp only [Act.put, List.setIfInBounds_toArray, List.set_cons_zero, List.set_cons_succ, i64_w, i32_w]
                        rfl
                      refine pure_ (i := 9) (N := some 43) (v := ?_) (a' := ?_) #[true, true, true, true, true, false, true, true, true, true, false, false, false, false, false, false, false] rfl rfl (any_of HT_.out (by kernel_rfl)) (fun _ _ _ h => h) (Or.inl ⟨by rfl, ?_⟩) ?_ ?_
                      rotate_left
                      · intro w'
                        go_simp
                        with_reducible rfl
                      rotate_left
                      · simp only [Act.put, List.setIfInBounds_toArray, List.set_cons_zero, List.set_cons_succ, i64_w, i32_w]
                        rfl
                      refine take_ (i := 5) (N := some 39) (v := ?_) (a' := ?_) #[true, true, true, true, true, true, true, true, true, true, false, false, false, false, false, false, false] rfl rfl (take_ofW HT_.out HW_.out (by kernel_rfl)) (fun _ _ _ h => h) (Or.inl ⟨by rfl, ?_⟩) hHeld ?_ ?_
                      rotate_left
                      · rintro w' ⟨s0, s1, s2, s3⟩
                        go_simp
                        with_reducible rfl
                      rotate_left
                      · simp only [Act.put, List.setIfInBounds_toArray, List.set_cons_zero, List.set_cons_succ, i64_w, i32_w]
                        rfl
                      refine take_ (i := 10) (N := some 44) (v := ?_) (a' := ?_) #[true, true, true, true, true, true, true, true, true, true, true, false, false, false, false, false, false] rfl rfl (take_ofW HT_.out HW_.out (by kernel_rfl)) (fun _ _ _ h => h) (Or.inl ⟨by rfl, ?_⟩) hHeld ?_ ?_
                      rotate_left
                      · rintro w' ⟨s0, s1, s2, s3⟩
                        go_simp
                        with_reducible rfl
                      rotate_left
                      · simp only [Act.put, List.setIfInBounds_toArray, List.set_cons_zero, List.set_cons_succ, i64_w, i32_w]
                        rfl
                      refine one_ (i := 11) (N := some 45) #[true, true, true, true, true, true, true, true, true, true, true, true, false, false, false, false, false] rfl rfl (one_of HT_.out (by kernel_rfl)) (by decide) (fun K hK => ?_)
                      refine goes_ Try.func19 (by kernel_rfl) rfl #[.slice Ao41 x7_1.length co41, .int .i64 ((rd_T43 l1 x9_1).f0), .slice A8009_1 ((rd_T43 l1 x9_1).f1).length c8009_1] (by rfl) rfl rfl (by (try simp only [List.map_toArray, List.map_cons, List.map_nil]); first | done | rfl | (simp only [List.length_drop, List.length_take]; rfl)) ?_
                      with_reducible refine (block_Put.calls _ _ x7_1 ((rd_T43 l1 x9_1).f0) _ _ ((rd_T43 l1 x9_1).f1) t8011 t8012 _ ?side1 ?side2 ?side3 ?side4 A21.out).mono ?_
                      (case side1 => repeat (first | exact (Kd.R_reads' HO_7.out).2.2 | (with_reducible refine Kd.C_alloc ?_ _) | (with_reducible refine Kd.C_drewN ?_ _) | (with_reducible refine Kd.C_drew ?_)))
                      (case side2 => exact (Kd.R_reads' HO_7.out).2.1)
                      (case side3 => repeat (first | exact (Kd.C_below HR8010_1.out HB.out) | (with_reducible refine Kd.C_alloc ?_ _) | (with_reducible refine Kd.C_drewN ?_ _) | (with_reducible refine Kd.C_drew ?_)))
                      (case side4 => exact HC8010_1.out)
                      rintro e w42 ⟨v8013, rfl, ho0, hb⟩
                      refine ⟨_, rfl, ?_⟩
                      have n0_ := Aside0.mk (Kd.R_elder' (by (with_reducible repeat (first | apply Kd.R_alloc | apply Kd.R_drewN | apply Kd.R_drew)); exact HO_7.out) (Kd.R_base ho0) hb)
                      have n1_ := Aside0.mk (Kd.R_elder' (by (with_reducible repeat (first | apply Kd.R_alloc | apply Kd.R_drewN | apply Kd.R_drew)); exact HO_8.out) (Kd.R_base ho0) hb)
                      have n2_ := Aside0.mk (Kd.R_lower (Kd.R_new' (Kd.R_new' ho0 (Kd.R_lt (by (with_reducible repeat (first | apply Kd.R_alloc | apply Kd.R_drewN | apply Kd.R_drew)); exact HO_7.out))) (Kd.R_lt (by (with_reducible repeat (first | apply Kd.R_alloc | apply Kd.R_drewN | apply Kd.R_drew)); exact HO_8.out))) (below_size (by repeat (first | (with_reducible first | exact HB.out | apply below_alloc | apply pw_below_drewN | apply below_drew1 | refine below_set ?_ GE8001.out) | exact HB.out))))
                      have n3_ := Aside0.mk (blk_below (g := gb8001) (o := .cells #[.int .i64 a2_0, .int .i64 a2_1] 38 (0, 0)) (by (with_reducible repeat (first | refine blk_drewN ?_ _ | refine blk_drew ?_ | refine blk_alloc ?_ _)); exact BK8001.out) hb)
                      have n4_ := Aside0.mk (below_step (by repeat (first | (with_reducible first | exact HB.out | apply below_alloc | apply pw_below_drewN | apply below_drew1 | refine below_set ?_ GE8001.out) | exact HB.out)) hb)
                      clear HO_7
                      clear HO_8
                      clear BK8001
                      clear HB
                      have HO_7 := n0_
                      have HO_8 := n1_
                      have HO8014 := n2_
                      have BK8001 := n3_
                      have HB := n4_
                      clear n0_ n1_ n2_ n3_ n4_
                      (try clear hb)
                      (try clear hb2)
                      (try clear hk)
                      (try clear hi)
                      (try clear ho0)
                      refine hK.out _ _ ⟨((HB.out.cell (World.block_lt_of_cell? w _ hw8009_0)).trans hw8009_0), ((HB.out.cell (World.block_lt_of_cell? w _ hw8009_1)).trans hw8009_1), ((HB.out.cell (World.block_lt_of_cell? w _ hw8010_0)).trans hw8010_0), ((HB.out.cell (World.block_lt_of_cell? w _ hw8010_1)).trans hw8010_1)⟩ (fun hHeld => ?_)
                      clear hK K
                      refine norm_ (a' := ?_) ?_ ?_
                      rotate_left
                      · show Act.put _ (some 45) _ = _
                        simp only [Act.put, List.setIfInBounds_toArray, List.set_cons_zero, List.set_cons_succ, i64_w, i32_w]
                        rfl
                      refine pure_ (i := 12) (N := some 33) (v := ?_) (a' := ?_) #[true, true, true, true, true, true, true, true, true, true, true, true, true, false, false, false, false] rfl rfl (any_of HT_.out (by kernel_rfl)) (fun _ _ _ h => h) (Or.inl ⟨by rfl, ?_⟩) ?_ ?_
                      rotate_left
                      · intro w'
                        go_simp
                        with_reducible rfl
                      rotate_left
                      · simp only [Act.put, List.setIfInBounds_toArray, List.set_cons_zero, List.set_cons_succ, i64_w, i32_w]
                        rfl
                      refine pure_ (i := 13) (N := some 46) (v := ?_) (a' := ?_) #[true, true, true, true, true, true, true, true, true, true, true, true, true, true, false, false, false] rfl rfl (any_of HT_.out (by kernel_rfl)) (fun _ _ _ h => h) (Or.inl ⟨by rfl, ?_⟩) ?_ ?_
                      rotate_left
                      · intro w'
                        go_simp
                        with_reducible rfl
                      rotate_left
                      · simp only [Act.put, List.setIfInBounds_toArray, List.set_cons_zero, List.set_cons_succ, i64_w, i32_w]
                        rfl
                      refine pure_ (i := 14) (N := some 47) (v := ?_) (a' := ?_) #[true, true, true, true, true, true, true, true, true, true, true, true, true, true, true, false, false] rfl rfl (any_of HT_.out (by kernel_rfl)) (fun _ _ _ h => h) (Or.inl ⟨by rfl, ?_⟩) ?_ ?_
                      rotate_left
                      · intro w'
                        go_simp
                        with_reducible rfl
                      rotate_left
                      · simp only [Act.put, List.setIfInBounds_toArray, List.set_cons_zero, List.set_cons_succ, i64_w, i32_w]
                        rfl
                      refine pure_ (i := 15) (N := some 10) (v := ?_) (a' := ?_) #[true, true, true, true, true, true, true, true, true, true, true, true, true, true, true, true, false] rfl rfl (any_of HT_.out (by kernel_rfl)) (fun _ _ _ h => h) (Or.inl ⟨by rfl, ?_⟩) ?_ ?_
                      rotate_left
                      · intro w'
                        go_simp
                        with_reducible rfl
                      rotate_left
                      · simp only [Act.put, List.setIfInBounds_toArray, List.set_cons_zero, List.set_cons_succ, i64_w, i32_w]
                        rfl
                      refine pure_ (i := 16) (N := some 11) (v := ?_) (a' := ?_) #[true, true, true, true, true, true, true, true, true, true, true, true, true, true, true, true, true] rfl rfl (any_of HT_.out (by kernel_rfl)) (fun _ _ _ h => h) (Or.inl ⟨by rfl, ?_⟩) ?_ ?_
                      rotate_left
                      · intro w'
                        go_simp
                        with_reducible rfl
                      rotate_left
                      · simp only [Act.put, List.setIfInBounds_toArray, List.set_cons_zero, List.set_cons_succ, i64_w, i32_w]
                        rfl
                      refine done_ (done_of HT_.out (by kernel_rfl)) ?_
                      try go_wp2
                      have n0_ := Aside0.mk (Kd.R_drew HO_7.out)
                      have n1_ := Aside0.mk (Kd.R_drew HO_8.out)
                      have n2_ := Aside0.mk (Kd.R_drew HO8014.out)
                      have n3_ := Aside0.mk (blk_drew BK8001.out)
                      have n4_ := Aside0.mk (below_drew1 HB.out)
                      clear HO_7
                      clear HO_8
                      clear HO8014
                      clear BK8001
                      clear HB
                      have HO_7 := n0_
                      have HO_8 := n1_
                      have HO8014 := n2_
                      have BK8001 := n3_
                      have HB := n4_
                      clear n0_ n1_ n2_ n3_ n4_
                      have p8015 : 0 ≤ (x9_1 : Int) := of_decide_eq_true (by first | (with_reducible assumption) | assumption)
                      have q8015 : x9_1 < (l1.length : Int) := of_decide_eq_true (by first | (with_reducible assumption) | assumption)
                      obtain ⟨ad8015, A8015_1, c8015_1, e8015, hx8015_0, hx8015_1, hl8015_1, hi8015_1⟩ := at_T43 HR1.out x9_1 p8015 q8015
                      have hw8015_1 := hx8015_1
                      have hw8015_0 := hx8015_0
                      obtain rfl : ad8009 = ad8015 := (by injection e8015)
                      replace hx8015_0 := (HB.out.cell (World.block_lt_of_cell? w _ hx8015_0)).trans hx8015_0
                      replace hx8015_1 := (HB.out.cell (World.block_lt_of_cell? w _ hx8015_1)).trans hx8015_1
                      have HR8015_1 := Aside0.mk hi8015_1
                      have HC8015_1 := Aside0.mk hl8015_1
                      clear hi8015_1 hl8015_1
                      replace p8015 := eq_true p8015
                      replace q8015 := eq_true q8015
                      have p8016 : 0 ≤ (x9_1 : Int) := of_decide_eq_true (by first | (with_reducible assumption) | assumption)
                      have q8016 : x9_1 < (l1.length : Int) := of_decide_eq_true (by first | (with_reducible assumption) | assumption)
                      obtain ⟨ad8016, A8016_1, c8016_1, e8016, hx8016_0, hx8016_1, hl8016_1, hi8016_1⟩ := at_T43 HR1.out x9_1 p8016 q8016
                      have hw8016_1 := hx8016_1
                      have hw8016_0 := hx8016_0
                      obtain rfl : ad8009 = ad8016 := (by injection e8016)
                      replace hx8016_0 := (HB.out.cell (World.block_lt_of_cell? w _ hx8016_0)).trans hx8016_0
                      replace hx8016_1 := (HB.out.cell (World.block_lt_of_cell? w _ hx8016_1)).trans hx8016_1
                      have HR8016_1 := Aside0.mk hi8016_1
                      have HC8016_1 := Aside0.mk hl8016_1
                      clear hi8016_1 hl8016_1
                      replace p8016 := eq_true p8016
                      replace q8016 := eq_true q8016
                      have ea_ := Option.some.inj (hx8015_1.symm.trans hx8016_1)
                      injection ea_ with ea_ en_ ec_
                      subst ea_
                      subst ec_
                      clear en_
                      obtain ⟨Ao44, co44, eo44⟩ := Kd.R_slice HO_8.out
                      (first | subst eo44 | (injection eo44 with f1_ f2_ f3_; have f4_ := f1_.symm; have f5_ := f3_.symm; clear f1_ f2_ f3_; subst f4_; subst f5_))
                      refine start_ (n := 14) (S := fun w' => w'.cell? (ad8009.add ((x9_1).toNat * 2)) = some (.int .i64 ((rd_T43 l1 x9_1).f0)) ∧ w'.cell? ⟨(ad8009.add ((x9_1).toNat * 2)).block, (ad8009.add ((x9_1).toNat * 2)).off + 1, none⟩ = some (.slice A8015_1 ((rd_T43 l1 x9_1).f1).length c8015_1) ∧ w'.cell? (ad8009.add ((x9_1).toNat * 2)) = some (.int .i64 ((rd_T43 l1 x9_1).f0)) ∧ w'.cell? ⟨(ad8009.add ((x9_1).toNat * 2)).block, (ad8009.add ((x9_1).toNat * 2)).off + 1, none⟩ = some (.slice A8015_1 ((rd_T43 l1 x9_1).f1).length c8015_1)) (ds := []) #[false, false, false, false, false, false, false, false, false, false, false, false, false, false] (by kernel_rfl) rfl rfl ⟨((HB.out.cell (World.block_lt_of_cell? w _ hw8015_0)).trans hw8015_0), ((HB.out.cell (World.block_lt_of_cell? w _ hw8015_1)).trans hw8015_1), ((HB.out.cell (World.block_lt_of_cell? w _ hw8016_0)).trans hw8016_0), ((HB.out.cell (World.block_lt_of_cell? w _ hw8016_1)).trans hw8016_1)⟩ (fun hHeld => ?_); refine with_tabW tinderlaw20_BlockRuns.tab11 tinderlaw20_BlockRuns.bits11 (fun HT_ HW_ => ?_)
                      generalize w42.drew = w43 at HO_7 HO_8 HO8014 BK8001 HB HR8015_1 HR8016_1 hx8015_0 hx8015_1 hx8016_0 hx8016_1 hHeld ⊢
                      refine pure_ (i := 0) (N := some 48) (v := ?_) (a' := ?_) #[true, false, false, false, false, false, false, false, false, false, false, false, false, false] rfl rfl (any_of HT_.out (by kernel_rfl)) (fun _ _ _ h => h) (Or.inl ⟨by rfl, ?_⟩) ?_ ?_
                      rotate_left
                      · intro w'
                        go_simp
                        with_reducible rfl
                      rotate_left
                      · simp only [Act.put, List.setIfInBounds_toArray, List.set_cons_zero, List.set_cons_succ, i64_w, i32_w]
                        rfl
                      refine pure_ (i := 1) (N := some 49) (v := ?_) (a' := ?_) #[true, true, false, false, false, false, false, false, false, false, false, false, false, false] rfl rfl (any_of HT_.out (by kernel_rfl)) (fun _ _ _ h => h) (Or.inl ⟨by rfl, ?_⟩) ?_ ?_
                      rotate_left
                      · intro w'
                        go_simp
                        with_reducible rfl
                      rotate_left
                      · simp only [Act.put, List.setIfInBounds_toArray, List.set_cons_zero, List.set_cons_succ, i64_w, i32_w]
                        rfl
                      refine pure_ (i := 2) (N := some 50) (v := ?_) (a' := ?_) #[true, true, true, false, false, false, false, false, false, false, false, false, false, false] rfl rfl (any_of HT_.out (by kernel_rfl)) (fun _ _ _ h => h) (Or.inl ⟨by rfl, ?_⟩) ?_ ?_
                      rotate_left
                      · intro w'
                        go_simp
                        with_reducible rfl
                      rotate_left
                      · simp only [Act.put, List.setIfInBounds_toArray, List.set_cons_zero, List.set_cons_succ, i64_w, i32_w]
                        rfl
                      refine pure_ (i := 3) (N := some 51) (v := ?_) (a' := ?_) #[true, true, true, true, false, false, false, false, false, false, false, false, false, false] rfl rfl (any_of HT_.out (by kernel_rfl)) (fun _ _ _ h => h) (Or.inl ⟨by rfl, ?_⟩) ?_ ?_
                      rotate_left
                      · intro w'
                        go_simp
                        with_reducible rfl
                      rotate_left
                      · simp only [Act.put, List.setIfInBounds_toArray, List.set_cons_zero, List.set_cons_succ, i64_w, i32_w]
                        rfl
                      refine pure_ (i := 4) (N := some 52) (v := ?_) (a' := ?_) #[true, true, true, true, true, false, false, false, false, false, false, false, false, false] rfl rfl (any_of HT_.out (by kernel_rfl)) (fun _ _ _ h => h) (Or.inl ⟨by rfl, ?_⟩) ?_ ?_
                      rotate_left
                      · intro w'
                        go_simp
                        with_reducible rfl
                      rotate_left
                      · simp only [Act.put, List.setIfInBounds_toArray, List.set_cons_zero, List.set_cons_succ, i64_w, i32_w]
                        rfl
                      refine pure_ (i := 6) (N := some 54) (v := ?_) (a' := ?_) #[true, true, true, true, true, false, true, false, false, false, false, false, false, false] rfl rfl (any_of HT_.out (by kernel_rfl)) (fun _ _ _ h => h) (Or.inl ⟨by rfl, ?_⟩) ?_ ?_
                      rotate_left
                      · intro w'
                        go_simp
                        with_reducible rfl
                      rotate_left
                      · simp only [Act.put, List.setIfInBounds_toArray, List.set_cons_zero, List.set_cons_succ, i64_w, i32_w]
                        rfl
                      refine pure_ (i := 7) (N := some 55) (v := ?_) (a' := ?_) #[true, true, true, true, true, false, true, true, false, false, false, false, false, false] rfl rfl (any_of HT_.out (by kernel_rfl)) (fun _ _ _ h => h) (Or.inl ⟨by rfl, ?_⟩) ?_ ?_
                      rotate_left
                      · intro w'
                        go_simp
                        with_reducible rfl
                      rotate_left
                      · simp only [Act.put, List.setIfInBounds_toArray, List.set_cons_zero, List.set_cons_succ, i64_w, i32_w]
                        rfl
                      refine pure_ (i := 8) (N := some 56) (v := ?_) (a' := ?_) #[true, true, true, true, true, false, true, true, true, false, false, false, false, false] rfl rfl (any_of HT_.out (by kernel_rfl)) (fun _ _ _ h => h) (Or.inl ⟨by rfl, ?_⟩) ?_ ?_
                      rotate_left
                      · intro w'
                        go_simp
                        with_reducible rfl
                      rotate_left
                      · simp only [Act.put, List.setIfInBounds_toArray, List.set_cons_zero, List.set_cons_succ, i64_w, i32_w]
                        rfl
                      refine pure_ (i := 9) (N := some 57) (v := ?_) (a' := ?_) #[true, true, true, true, true, false, true, true, true, true, false, false, false, false] rfl rfl (any_of HT_.out (by kernel_rfl)) (fun _ _ _ h => h) (Or.inl ⟨by rfl, ?_⟩) ?_ ?_
                      rotate_left
                      · intro w'
                        go_simp
                        with_reducible rfl
                      rotate_left
                      · simp only [Act.put, List.setIfInBounds_toArray, List.set_cons_zero, List.set_cons_succ, i64_w, i32_w]
                        rfl
                      refine take_ (i := 5) (N := some 53) (v := ?_) (a' := ?_) #[true, true, true, true, true, true, true, true, true, true, false, false, false, false] rfl rfl (take_ofW HT_.out HW_.out (by kernel_rfl)) (fun _ _ _ h => h) (Or.inl ⟨by rfl, ?_⟩) hHeld ?_ ?_
                      rotate_left
                      · rintro w' ⟨s0, s1, s2, s3⟩
                        go_simp
                        with_reducible rfl
                      rotate_left
                      · simp only [Act.put, List.setIfInBounds_toArray, List.set_cons_zero, List.set_cons_succ, i64_w, i32_w]
                        rfl
                      refine take_ (i := 10) (N := some 58) (v := ?_) (a' := ?_) #[true, true, true, true, true, true, true, true, true, true, true, false, false, false] rfl rfl (take_ofW HT_.out HW_.out (by kernel_rfl)) (fun _ _ _ h => h) (Or.inl ⟨by rfl, ?_⟩) hHeld ?_ ?_
                      rotate_left
                      · rintro w' ⟨s0, s1, s2, s3⟩
                        go_simp
                        with_reducible rfl
                      rotate_left
                      · simp only [Act.put, List.setIfInBounds_toArray, List.set_cons_zero, List.set_cons_succ, i64_w, i32_w]
                        rfl
                      refine pure_ (i := 11) (N := some 59) (v := ?_) (a' := ?_) #[true, true, true, true, true, true, true, true, true, true, true, true, false, false] rfl rfl (any_of HT_.out (by kernel_rfl)) (fun _ _ _ h => h) (Or.inl ⟨by rfl, ?_⟩) ?_ ?_
                      rotate_left
                      · intro w'
                        go_simp
                        with_reducible rfl
                      rotate_left
                      · simp only [Act.put, List.setIfInBounds_toArray, List.set_cons_zero, List.set_cons_succ, i64_w, i32_w]
                        rfl
                      refine one_ (i := 12) (N := some 60) #[true, true, true, true, true, true, true, true, true, true, true, true, true, false] rfl rfl (one_of HT_.out (by kernel_rfl)) (by decide) (fun K hK => ?_)
                      refine goes_ Try.func23 (by kernel_rfl) rfl #[.slice Ao44 x8_1.length co44, .int .i64 ((rd_T43 l1 x9_1).f0), .int .i64 (((rd_T43 l1 x9_1).f1).length : Int)] (by rfl) rfl rfl (by (try simp only [List.map_toArray, List.map_cons, List.map_nil]); first | done | rfl | (simp only [List.length_drop, List.length_take]; rfl)) ?_
                      with_reducible refine (tinderref20_In.calls _ _ x8_1 ((rd_T43 l1 x9_1).f0) (((rd_T43 l1 x9_1).f1).length : Int) true _ ?side1 ?side2 A22.out).mono ?_
                      (case side1 => repeat (first | exact (Kd.R_reads' HO_8.out).2.2 | (with_reducible refine Kd.C_alloc ?_ _) | (with_reducible refine Kd.C_drewN ?_ _) | (with_reducible refine Kd.C_drew ?_)))
                      (case side2 => exact (Kd.R_reads' HO_8.out).2.1)
                      rintro e w' ⟨rfl, ⟨nd, rfl⟩⟩
                      refine ⟨_, rfl, ?_⟩
                      refine hK.out _ _ ⟨((HB.out.cell (World.block_lt_of_cell? w _ hw8015_0)).trans hw8015_0), ((HB.out.cell (World.block_lt_of_cell? w _ hw8015_1)).trans hw8015_1), ((HB.out.cell (World.block_lt_of_cell? w _ hw8016_0)).trans hw8016_0), ((HB.out.cell (World.block_lt_of_cell? w _ hw8016_1)).trans hw8016_1)⟩ (fun hHeld => ?_)
                      clear hK K
                      refine norm_ (a' := ?_) ?_ ?_
                      rotate_left
                      · show Act.put _ (some 60) _ = _
                        simp only [Act.put, List.setIfInBounds_toArray, List.set_cons_zero, List.set_cons_succ, i64_w, i32_w]
                        rfl
                      refine pure_ (i := 13) (N := some 61) (v := ?_) (a' := ?_) #[true, true, true, true, true, true, true, true, true, true, true, true, true, true] rfl rfl (any_of HT_.out (by kernel_rfl)) (fun _ _ _ h => h) (Or.inl ⟨by rfl, ?_⟩) ?_ ?_
                      rotate_left
                      · intro w'
                        go_simp
                        with_reducible rfl
                      rotate_left
                      · simp only [Act.put, List.setIfInBounds_toArray, List.set_cons_zero, List.set_cons_succ, i64_w, i32_w]
                        rfl
                      refine done_ (done_of HT_.out (by kernel_rfl)) ?_
                      try go_wp2
                      go_ret
                      exact ⟨by first | rfl | (simp [errW_none, errW_some] <;> rfl) | (simp only [← hji9]; first | rfl | (simp [errW_none, errW_some] <;> rfl)) | (simp [*, errW_none, errW_some] <;> rfl), by repeat (first | (with_reducible first | exact HB.out | apply below_alloc | apply pw_below_drewN | apply below_drew1 | refine below_set ?_ GE8001.out) | exact HB.out)⟩
                  · replace c23 := Bool.eq_false_iff.mpr c23
                    subst c23
                    have H1 : (if t8012 = 23 then (tinderlaw20_BlockRuns.l0 k1 l1 x7_1 x8_1 (wrap64 (x9_1 + 1)) a2_0 a2_1) else (some false)) = some r := by rw [if_neg (show ¬ (false = true) by decide)] at H; exact H
                    clear H
                    have H := H1
                    clear H1
                    by_cases c45 : t8012 = 23
                    · rw [if_pos c45] at H
                      have c45b0 : (t8012 == 23) = true := beq_iff_eq.mpr c45
                      have c45b1 : (t8012 != 23) = false := bne_eq_false_iff_eq.mpr c45
                      clear c45
                      have H' := Aside0.mk H
                      clear H
                      try go_wp2
                      have n0_ := Aside0.mk (Kd.R_drew HO_7.out)
                      have n1_ := Aside0.mk (Kd.R_drew HO_8.out)
                      have n2_ := Aside0.mk (blk_drew BK8001.out)
                      have n3_ := Aside0.mk (below_drew1 HB.out)
                      clear HO_7
                      clear HO_8
                      clear BK8001
                      clear HB
                      have HO_7 := n0_
                      have HO_8 := n1_
                      have BK8001 := n2_
                      have HB := n3_
                      clear n0_ n1_ n2_ n3_
                      have p8009 : 0 ≤ (x9_1 : Int) := of_decide_eq_true (by first | (with_reducible assumption) | assumption)
                      have q8009 : x9_1 < (l1.length : Int) := of_decide_eq_true (by first | (with_reducible assumption) | assumption)
                      obtain ⟨ad8009, A8009_1, c8009_1, e8009, hx8009_0, hx8009_1, hl8009_1, hi8009_1⟩ := at_T43 HR1.out x9_1 p8009 q8009
                      have hw8009_1 := hx8009_1
                      have hw8009_0 := hx8009_0
                      cases e8009
                      replace hx8009_0 := (HB.out.cell (World.block_lt_of_cell? w _ hx8009_0)).trans hx8009_0
                      replace hx8009_1 := (HB.out.cell (World.block_lt_of_cell? w _ hx8009_1)).trans hx8009_1
                      have HR8009_1 := Aside0.mk hi8009_1
                      have HC8009_1 := Aside0.mk hl8009_1
                      clear hi8009_1 hl8009_1
                      replace p8009 := eq_true p8009
                      replace q8009 := eq_true q8009
                      have p8010 : 0 ≤ (x9_1 : Int) := of_decide_eq_true (by first | (with_reducible assumption) | assumption)
                      have q8010 : x9_1 < (l1.length : Int) := of_decide_eq_true (by first | (with_reducible assumption) | assumption)
                      obtain ⟨ad8010, A8010_1, c8010_1, e8010, hx8010_0, hx8010_1, hl8010_1, hi8010_1⟩ := at_T43 HR1.out x9_1 p8010 q8010
                      have hw8010_1 := hx8010_1
                      have hw8010_0 := hx8010_0
                      obtain rfl : ad8009 = ad8010 := (by injection e8010)
                      replace hx8010_0 := (HB.out.cell (World.block_lt_of_cell? w _ hx8010_0)).trans hx8010_0
                      replace hx8010_1 := (HB.out.cell (World.block_lt_of_cell? w _ hx8010_1)).trans hx8010_1
                      have HR8010_1 := Aside0.mk hi8010_1
                      have HC8010_1 := Aside0.mk hl8010_1
                      clear hi8010_1 hl8010_1
                      replace p8010 := eq_true p8010
                      replace q8010 := eq_true q8010
                      have ea_ := Option.some.inj (hx8009_1.symm.trans hx8010_1)
                      injection ea_ with ea_ en_ ec_
                      subst ea_
                      subst ec_
                      clear en_
                      obtain ⟨Ao47, co47, eo47⟩ := Kd.R_slice HO_7.out
                      (first | subst eo47 | (injection eo47 with f1_ f2_ f3_; have f4_ := f1_.symm; have f5_ := f3_.symm; clear f1_ f2_ f3_; subst f4_; subst f5_))
                      refine start_ (n := 17) (S := fun w' => w'.cell? (ad8009.add ((x9_1).toNat * 2)) = some (.int .i64 ((rd_T43 l1 x9_1).f0)) ∧ w'.cell? ⟨(ad8009.add ((x9_1).toNat * 2)).block, (ad8009.add ((x9_1).toNat * 2)).off + 1, none⟩ = some (.slice A8009_1 ((rd_T43 l1 x9_1).f1).length c8009_1) ∧ w'.cell? (ad8009.add ((x9_1).toNat * 2)) = some (.int .i64 ((rd_T43 l1 x9_1).f0)) ∧ w'.cell? ⟨(ad8009.add ((x9_1).toNat * 2)).block, (ad8009.add ((x9_1).toNat * 2)).off + 1, none⟩ = some (.slice A8009_1 ((rd_T43 l1 x9_1).f1).length c8009_1)) (ds := []) #[false, false, false, false, false, false, false, false, false, false, false, false, false, false, false, false, false] (by kernel_rfl) rfl rfl ⟨((HB.out.cell (World.block_lt_of_cell? w _ hw8009_0)).trans hw8009_0), ((HB.out.cell (World.block_lt_of_cell? w _ hw8009_1)).trans hw8009_1), ((HB.out.cell (World.block_lt_of_cell? w _ hw8010_0)).trans hw8010_0), ((HB.out.cell (World.block_lt_of_cell? w _ hw8010_1)).trans hw8010_1)⟩ (fun hHeld => ?_); refine with_tabW tinderlaw20_BlockRuns.tab10 tinderlaw20_BlockRuns.bits10 (fun HT_ HW_ => ?_)
                      generalize wr.drew = w46 at HO_7 HO_8 BK8001 HB HR8009_1 HR8010_1 hx8009_0 hx8009_1 hx8010_0 hx8010_1 hHeld ⊢
                      refine pure_ (i := 0) (N := some 34) (v := ?_) (a' := ?_) #[true, false, false, false, false, false, false, false, false, false, false, false, false, false, false, false, false] rfl rfl (any_of HT_.out (by kernel_rfl)) (fun _ _ _ h => h) (Or.inl ⟨by rfl, ?_⟩) ?_ ?_
                      rotate_left
                      · intro w'
                        go_simp
                        with_reducible rfl
                      rotate_left
                      · simp only [Act.put, List.setIfInBounds_toArray, List.set_cons_zero, List.set_cons_succ, i64_w, i32_w]
                        rfl
                      refine pure_ (i := 1) (N := some 35) (v := ?_) (a' := ?_) #[true, true, false, false, false, false, false, false, false, false, false, false, false, false, false, false, false] rfl rfl (any_of HT_.out (by kernel_rfl)) (fun _ _ _ h => h) (Or.inl ⟨by rfl, ?_⟩) ?_ ?_
                      rotate_left
                      · intro w'
                        go_simp
                        with_reducible rfl
                      rotate_left
                      · simp only [Act.put, List.setIfInBounds_toArray, List.set_cons_zero, List.set_cons_succ, i64_w, i32_w]
                        rfl
                      refine pure_ (i := 2) (N := some 36) (v := ?_) (a' := ?_) #[true, true, true, false, false, false, false, false, false, false, false, false, false, false, false, false, false] rfl rfl (any_of HT_.out (by kernel_rfl)) (fun _ _ _ h => h) (Or.inl ⟨by rfl, ?_⟩) ?_ ?_
                      rotate_left
                      · intro w'
                        go_simp
                        with_reducible rfl
                      rotate_left
                      · simp only [Act.put, List.setIfInBounds_toArray, List.set_cons_zero, List.set_cons_succ, i64_w, i32_w]
                        rfl
                      refine pure_ (i := 3) (N := some 37) (v := ?_) (a' := ?_) #[true, true, true, true, false, false, false, false, false, false, false, false, false, false, false, false, false] rfl rfl (any_of HT_.out (by kernel_rfl)) (fun _ _ _ h => h) (Or.inl ⟨by rfl, ?_⟩) ?_ ?_
                      rotate_left
                      · intro w'
                        go_simp
                        with_reducible rfl
                      rotate_left
                      · simp only [Act.put, List.setIfInBounds_toArray, List.set_cons_zero, List.set_cons_succ, i64_w, i32_w]
                        rfl
                      refine pure_ (i := 4) (N := some 38) (v := ?_) (a' := ?_) #[true, true, true, true, true, false, false, false, false, false, false, false, false, false, false, false, false] rfl rfl (any_of HT_.out (by kernel_rfl)) (fun _ _ _ h => h) (Or.inl ⟨by rfl, ?_⟩) ?_ ?_
                      rotate_left
                      · intro w'
                        go_simp
                        with_reducible rfl
                      rotate_left
                      · simp only [Act.put, List.setIfInBounds_toArray, List.set_cons_zero, List.set_cons_succ, i64_w, i32_w]
                        rfl
                      refine pure_ (i := 6) (N := some 40) (v := ?_) (a' := ?_) #[true, true, true, true, true, false, true, false, false, false, false, false, false, false, false, false, false] rfl rfl (any_of HT_.out (by kernel_rfl)) (fun _ _ _ h => h) (Or.inl ⟨by rfl, ?_⟩) ?_ ?_
                      rotate_left
                      · intro w'
                        go_simp
                        with_reducible rfl
                      rotate_left
                      · simp only [Act.put, List.setIfInBounds_toArray, List.set_cons_zero, List.set_cons_succ, i64_w, i32_w]
                        rfl
                      refine pure_ (i := 7) (N := some 41) (v := ?_) (a' := ?_) #[true, true, true, true, true, false, true, true, false, false, false, false, false, false, false, false, false] rfl rfl (any_of HT_.out (by kernel_rfl)) (fun _ _ _ h => h) (Or.inl ⟨by rfl, ?_⟩) ?_ ?_
                      rotate_left
                      · intro w'
                        go_simp
                        with_reducible rfl
                      rotate_left
                      · simp only [Act.put, List.setIfInBounds_toArray, List.set_cons_zero, List.set_cons_succ, i64_w, i32_w]
                        rfl
                      refine pure_ (i := 8) (N := some 42) (v := ?_) (a' := ?_) #[true, true, true, true, true, false, true, true, true, false, false, false, false, false, false, false, false] rfl rfl (any_of HT_.out (by kernel_rfl)) (fun _ _ _ h => h) (Or.inl ⟨by rfl, ?_⟩) ?_ ?_
                      rotate_left
                      · intro w'
                        go_simp
                        with_reducible rfl
                      rotate_left
                      · simp only [Act.put, List.setIfInBounds_toArray, List.set_cons_zero, List.set_cons_succ, i64_w, i32_w]
                        rfl
                      refine pure_ (i := 9) (N := some 43) (v := ?_) (a' := ?_) #[true, true, true, true, true, false, true, true, true, true, false, false, false, false, false, false, false] rfl rfl (any_of HT_.out (by kernel_rfl)) (fun _ _ _ h => h) (Or.inl ⟨by rfl, ?_⟩) ?_ ?_
                      rotate_left
                      · intro w'
                        go_simp
                        with_reducible rfl
                      rotate_left
                      · simp only [Act.put, List.setIfInBounds_toArray, List.set_cons_zero, List.set_cons_succ, i64_w, i32_w]
                        rfl
                      refine take_ (i := 5) (N := some 39) (v := ?_) (a' := ?_) #[true, true, true, true, true, true, true, true, true, true, false, false, false, false, false, false, false] rfl rfl (take_ofW HT_.out HW_.out (by kernel_rfl)) (fun _ _ _ h => h) (Or.inl ⟨by rfl, ?_⟩) hHeld ?_ ?_
                      rotate_left
                      · rintro w' ⟨s0, s1, s2, s3⟩
                        go_simp
                        with_reducible rfl
                      rotate_left
                      · simp only [Act.put, List.setIfInBounds_toArray, List.set_cons_zero, List.set_cons_succ, i64_w, i32_w]
                        rfl
                      refine take_ (i := 10) (N := some 44) (v := ?_) (a' := ?_) #[true, true, true, true, true, true, true, true, true, true, true, false, false, false, false, false, false] rfl rfl (take_ofW HT_.out HW_.out (by kernel_rfl)) (fun _ _ _ h => h) (Or.inl ⟨by rfl, ?_⟩) hHeld ?_ ?_
                      rotate_left
                      · rintro w' ⟨s0, s1, s2, s3⟩
                        go_simp
                        with_reducible rfl
                      rotate_left
                      · simp only [Act.put, List.setIfInBounds_toArray, List.set_cons_zero, List.set_cons_succ, i64_w, i32_w]
                        rfl
                      refine one_ (i := 11) (N := some 45) #[true, true, true, true, true, true, true, true, true, true, true, true, false, false, false, false, false] rfl rfl (one_of HT_.out (by kernel_rfl)) (by decide) (fun K hK => ?_)
                      refine goes_ Try.func19 (by kernel_rfl) rfl #[.slice Ao47 x7_1.length co47, .int .i64 ((rd_T43 l1 x9_1).f0), .slice A8009_1 ((rd_T43 l1 x9_1).f1).length c8009_1] (by rfl) rfl rfl (by (try simp only [List.map_toArray, List.map_cons, List.map_nil]); first | done | rfl | (simp only [List.length_drop, List.length_take]; rfl)) ?_
                      with_reducible refine (block_Put.calls _ _ x7_1 ((rd_T43 l1 x9_1).f0) _ _ ((rd_T43 l1 x9_1).f1) t8011 t8012 _ ?side1 ?side2 ?side3 ?side4 A21.out).mono ?_
                      (case side1 => repeat (first | exact (Kd.R_reads' HO_7.out).2.2 | (with_reducible refine Kd.C_alloc ?_ _) | (with_reducible refine Kd.C_drewN ?_ _) | (with_reducible refine Kd.C_drew ?_)))
                      (case side2 => exact (Kd.R_reads' HO_7.out).2.1)
                      (case side3 => repeat (first | exact (Kd.C_below HR8010_1.out HB.out) | (with_reducible refine Kd.C_alloc ?_ _) | (with_reducible refine Kd.C_drewN ?_ _) | (with_reducible refine Kd.C_drew ?_)))
                      (case side4 => exact HC8010_1.out)
                      rintro e w48 ⟨v8013, rfl, ho0, hb⟩
                      refine ⟨_, rfl, ?_⟩
                      have n0_ := Aside0.mk (Kd.R_elder' (by (with_reducible repeat (first | apply Kd.R_alloc | apply Kd.R_drewN | apply Kd.R_drew)); exact HO_7.out) (Kd.R_base ho0) hb)
                      have n1_ := Aside0.mk (Kd.R_elder' (by (with_reducible repeat (first | apply Kd.R_alloc | apply Kd.R_drewN | apply Kd.R_drew)); exact HO_8.out) (Kd.R_base ho0) hb)
                      have n2_ := Aside0.mk (Kd.R_lower (Kd.R_new' (Kd.R_new' ho0 (Kd.R_lt (by (with_reducible repeat (first | apply Kd.R_alloc | apply Kd.R_drewN | apply Kd.R_drew)); exact HO_7.out))) (Kd.R_lt (by (with_reducible repeat (first | apply Kd.R_alloc | apply Kd.R_drewN | apply Kd.R_drew)); exact HO_8.out))) (below_size (by repeat (first | (with_reducible first | exact HB.out | apply below_alloc | apply pw_below_drewN | apply below_drew1 | refine below_set ?_ GE8001.out) | exact HB.out))))
                      have n3_ := Aside0.mk (blk_below (g := gb8001) (o := .cells #[.int .i64 a2_0, .int .i64 a2_1] 38 (0, 0)) (by (with_reducible repeat (first | refine blk_drewN ?_ _ | refine blk_drew ?_ | refine blk_alloc ?_ _)); exact BK8001.out) hb)
                      have n4_ := Aside0.mk (below_step (by repeat (first | (with_reducible first | exact HB.out | apply below_alloc | apply pw_below_drewN | apply below_drew1 | refine below_set ?_ GE8001.out) | exact HB.out)) hb)
                      clear HO_7
                      clear HO_8
                      clear BK8001
                      clear HB
                      have HO_7 := n0_
                      have HO_8 := n1_
                      have HO8014 := n2_
                      have BK8001 := n3_
                      have HB := n4_
                      clear n0_ n1_ n2_ n3_ n4_
                      (try clear hb)
                      (try clear hb2)
                      (try clear hk)
                      (try clear hi)
                      (try clear ho0)
                      refine hK.out _ _ ⟨((HB.out.cell (World.block_lt_of_cell? w _ hw8009_0)).trans hw8009_0), ((HB.out.cell (World.block_lt_of_cell? w _ hw8009_1)).trans hw8009_1), ((HB.out.cell (World.block_lt_of_cell? w _ hw8010_0)).trans hw8010_0), ((HB.out.cell (World.block_lt_of_cell? w _ hw8010_1)).trans hw8010_1)⟩ (fun hHeld => ?_)
                      clear hK K
                      refine norm_ (a' := ?_) ?_ ?_
                      rotate_left
                      · show Act.put _ (some 45) _ = _
                        simp only [Act.put, List.setIfInBounds_toArray, List.set_cons_zero, List.set_cons_succ, i64_w, i32_w]
                        rfl
                      refine pure_ (i := 12) (N := some 33) (v := ?_) (a' := ?_) #[true, true, true, true, true, true, true, true, true, true, true, true, true, false, false, false, false] rfl rfl (any_of HT_.out (by kernel_rfl)) (fun _ _ _ h => h) (Or.inl ⟨by rfl, ?_⟩) ?_ ?_
                      rotate_left
                      · intro w'
                        go_simp
                        with_reducible rfl
                      rotate_left
                      · simp only [Act.put, List.setIfInBounds_toArray, List.set_cons_zero, List.set_cons_succ, i64_w, i32_w]
                        rfl
                      refine pure_ (i := 13) (N := some 46) (v := ?_) (a' := ?_) #[true, true, true, true, true, true, true, true, true, true, true, true, true, true, false, false, false] rfl rfl (any_of HT_.out (by kernel_rfl)) (fun _ _ _ h => h) (Or.inl ⟨by rfl, ?_⟩) ?_ ?_
                      rotate_left
                      · intro w'
                        go_simp
                        with_reducible rfl
                      rotate_left
                      · simp only [Act.put, List.setIfInBounds_toArray, List.set_cons_zero, List.set_cons_succ, i64_w, i32_w]
                        rfl
                      refine pure_ (i := 14) (N := some 47) (v := ?_) (a' := ?_) #[true, true, true, true, true, true, true, true, true, true, true, true, true, true, true, false, false] rfl rfl (any_of HT_.out (by kernel_rfl)) (fun _ _ _ h => h) (Or.inl ⟨by rfl, ?_⟩) ?_ ?_
                      rotate_left
                      · intro w'
                        go_simp
                        with_reducible rfl
                      rotate_left
                      · simp only [Act.put, List.setIfInBounds_toArray, List.set_cons_zero, List.set_cons_succ, i64_w, i32_w]
                        rfl
                      refine pure_ (i := 15) (N := some 10) (v := ?_) (a' := ?_) #[true, true, true, true, true, true, true, true, true, true, true, true, true, true, true, true, false] rfl rfl (any_of HT_.out (by kernel_rfl)) (fun _ _ _ h => h) (Or.inl ⟨by rfl, ?_⟩) ?_ ?_
                      rotate_left
                      · intro w'
                        go_simp
                        with_reducible rfl
                      rotate_left
                      · simp only [Act.put, List.setIfInBounds_toArray, List.set_cons_zero, List.set_cons_succ, i64_w, i32_w]
                        rfl
                      refine pure_ (i := 16) (N := some 11) (v := ?_) (a' := ?_) #[true, true, true, true, true, true, true, true, true, true, true, true, true, true, true, true, true] rfl rfl (any_of HT_.out (by kernel_rfl)) (fun _ _ _ h => h) (Or.inl ⟨by rfl, ?_⟩) ?_ ?_
                      rotate_left
                      · intro w'
                        go_simp
                        with_reducible rfl
                      rotate_left
                      · simp only [Act.put, List.setIfInBounds_toArray, List.set_cons_zero, List.set_cons_succ, i64_w, i32_w]
                        rfl
                      refine done_ (done_of HT_.out (by kernel_rfl)) ?_
                      try go_wp2
                      have n0_ := Aside0.mk (Kd.R_drew HO_7.out)
                      have n1_ := Aside0.mk (Kd.R_drew HO_8.out)
                      have n2_ := Aside0.mk (Kd.R_drew HO8014.out)
                      have n3_ := Aside0.mk (blk_drew BK8001.out)
                      have n4_ := Aside0.mk (below_drew1 HB.out)
                      clear HO_7
                      clear HO_8
                      clear HO8014
                      clear BK8001
                      clear HB
                      have HO_7 := n0_
                      have HO_8 := n1_
                      have HO8014 := n2_
                      have BK8001 := n3_
                      have HB := n4_
                      clear n0_ n1_ n2_ n3_ n4_
                      have p8015 : 0 ≤ (x9_1 : Int) := of_decide_eq_true (by first | (with_reducible assumption) | assumption)
                      have q8015 : x9_1 < (l1.length : Int) := of_decide_eq_true (by first | (with_reducible assumption) | assumption)
                      obtain ⟨ad8015, A8015_1, c8015_1, e8015, hx8015_0, hx8015_1, hl8015_1, hi8015_1⟩ := at_T43 HR1.out x9_1 p8015 q8015
                      have hw8015_1 := hx8015_1
                      have hw8015_0 := hx8015_0
                      obtain rfl : ad8009 = ad8015 := (by injection e8015)
                      replace hx8015_0 := (HB.out.cell (World.block_lt_of_cell? w _ hx8015_0)).trans hx8015_0
                      replace hx8015_1 := (HB.out.cell (World.block_lt_of_cell? w _ hx8015_1)).trans hx8015_1
                      have HR8015_1 := Aside0.mk hi8015_1
                      have HC8015_1 := Aside0.mk hl8015_1
                      clear hi8015_1 hl8015_1
                      replace p8015 := eq_true p8015
                      replace q8015 := eq_true q8015
                      have p8016 : 0 ≤ (x9_1 : Int) := of_decide_eq_true (by first | (with_reducible assumption) | assumption)
                      have q8016 : x9_1 < (l1.length : Int) := of_decide_eq_true (by first | (with_reducible assumption) | assumption)
                      obtain ⟨ad8016, A8016_1, c8016_1, e8016, hx8016_0, hx8016_1, hl8016_1, hi8016_1⟩ := at_T43 HR1.out x9_1 p8016 q8016
                      have hw8016_1 := hx8016_1
                      have hw8016_0 := hx8016_0
                      obtain rfl : ad8009 = ad8016 := (by injection e8016)
                      replace hx8016_0 := (HB.out.cell (World.block_lt_of_cell? w _ hx8016_0)).trans hx8016_0
                      replace hx8016_1 := (HB.out.cell (World.block_lt_of_cell? w _ hx8016_1)).trans hx8016_1
                      have HR8016_1 := Aside0.mk hi8016_1
                      have HC8016_1 := Aside0.mk hl8016_1
                      clear hi8016_1 hl8016_1
                      replace p8016 := eq_true p8016
                      replace q8016 := eq_true q8016
                      have ea_ := Option.some.inj (hx8015_1.symm.trans hx8016_1)
                      injection ea_ with ea_ en_ ec_
                      subst ea_
                      subst ec_
                      clear en_
                      obtain ⟨Ao50, co50, eo50⟩ := Kd.R_slice HO_8.out
                      (first | subst eo50 | (injection eo50 with f1_ f2_ f3_; have f4_ := f1_.symm; have f5_ := f3_.symm; clear f1_ f2_ f3_; subst f4_; subst f5_))
                      refine start_ (n := 14) (S := fun w' => w'.cell? (ad8009.add ((x9_1).toNat * 2)) = some (.int .i64 ((rd_T43 l1 x9_1).f0)) ∧ w'.cell? ⟨(ad8009.add ((x9_1).toNat * 2)).block, (ad8009.add ((x9_1).toNat * 2)).off + 1, none⟩ = some (.slice A8015_1 ((rd_T43 l1 x9_1).f1).length c8015_1) ∧ w'.cell? (ad8009.add ((x9_1).toNat * 2)) = some (.int .i64 ((rd_T43 l1 x9_1).f0)) ∧ w'.cell? ⟨(ad8009.add ((x9_1).toNat * 2)).block, (ad8009.add ((x9_1).toNat * 2)).off + 1, none⟩ = some (.slice A8015_1 ((rd_T43 l1 x9_1).f1).length c8015_1)) (ds := []) #[false, false, false, false, false, false, false, false, false, false, false, false, false, false] (by kernel_rfl) rfl rfl ⟨((HB.out.cell (World.block_lt_of_cell? w _ hw8015_0)).trans hw8015_0), ((HB.out.cell (World.block_lt_of_cell? w _ hw8015_1)).trans hw8015_1), ((HB.out.cell (World.block_lt_of_cell? w _ hw8016_0)).trans hw8016_0), ((HB.out.cell (World.block_lt_of_cell? w _ hw8016_1)).trans hw8016_1)⟩ (fun hHeld => ?_); refine with_tabW tinderlaw20_BlockRuns.tab11 tinderlaw20_BlockRuns.bits11 (fun HT_ HW_ => ?_)
                      generalize w48.drew = w49 at HO_7 HO_8 HO8014 BK8001 HB HR8015_1 HR8016_1 hx8015_0 hx8015_1 hx8016_0 hx8016_1 hHeld ⊢
                      refine pure_ (i := 0) (N := some 48) (v := ?_) (a' := ?_) #[true, false, false, false, false, false, false, false, false, false, false, false, false, false] rfl rfl (any_of HT_.out (by kernel_rfl)) (fun _ _ _ h => h) (Or.inl ⟨by rfl, ?_⟩) ?_ ?_
                      rotate_left
                      · intro w'
                        go_simp
                        with_reducible rfl
                      rotate_left
                      · simp only [Act.put, List.setIfInBounds_toArray, List.set_cons_zero, List.set_cons_succ, i64_w, i32_w]
                        rfl
                      refine pure_ (i := 1) (N := some 49) (v := ?_) (a' := ?_) #[true, true, false, false, false, false, false, false, false, false, false, false, false, false] rfl rfl (any_of HT_.out (by kernel_rfl)) (fun _ _ _ h => h) (Or.inl ⟨by rfl, ?_⟩) ?_ ?_
                      rotate_left
                      · intro w'
                        go_simp
                        with_reducible rfl
                      rotate_left
                      · simp only [Act.put, List.setIfInBounds_toArray, List.set_cons_zero, List.set_cons_succ, i64_w, i32_w]
                        rfl
                      refine pure_ (i := 2) (N := some 50) (v := ?_) (a' := ?_) #[true, true, true, false, false, false, false, false, false, false, false, false, false, false] rfl rfl (any_of HT_.out (by kernel_rfl)) (fun _ _ _ h => h) (Or.inl ⟨by rfl, ?_⟩) ?_ ?_
                      rotate_left
                      · intro w'
                        go_simp
                        with_reducible rfl
                      rotate_left
                      · simp only [Act.put, List.setIfInBounds_toArray, List.set_cons_zero, List.set_cons_succ, i64_w, i32_w]
                        rfl
                      refine pure_ (i := 3) (N := some 51) (v := ?_) (a' := ?_) #[true, true, true, true, false, false, false, false, false, false, false, false, false, false] rfl rfl (any_of HT_.out (by kernel_rfl)) (fun _ _ _ h => h) (Or.inl ⟨by rfl, ?_⟩) ?_ ?_
                      rotate_left
                      · intro w'
                        go_simp
                        with_reducible rfl
                      rotate_left
                      · simp only [Act.put, List.setIfInBounds_toArray, List.set_cons_zero, List.set_cons_succ, i64_w, i32_w]
                        rfl
                      refine pure_ (i := 4) (N := some 52) (v := ?_) (a' := ?_) #[true, true, true, true, true, false, false, false, false, false, false, false, false, false] rfl rfl (any_of HT_.out (by kernel_rfl)) (fun _ _ _ h => h) (Or.inl ⟨by rfl, ?_⟩) ?_ ?_
                      rotate_left
                      · intro w'
                        go_simp
                        with_reducible rfl
                      rotate_left
                      · simp only [Act.put, List.setIfInBounds_toArray, List.set_cons_zero, List.set_cons_succ, i64_w, i32_w]
                        rfl
                      refine pure_ (i := 6) (N := some 54) (v := ?_) (a' := ?_) #[true, true, true, true, true, false, true, false, false, false, false, false, false, false] rfl rfl (any_of HT_.out (by kernel_rfl)) (fun _ _ _ h => h) (Or.inl ⟨by rfl, ?_⟩) ?_ ?_
                      rotate_left
                      · intro w'
                        go_simp
                        with_reducible rfl
                      rotate_left
                      · simp only [Act.put, List.setIfInBounds_toArray, List.set_cons_zero, List.set_cons_succ, i64_w, i32_w]
                        rfl
                      refine pure_ (i := 7) (N := some 55) (v := ?_) (a' := ?_) #[true, true, true, true, true, false, true, true, false, false, false, false, false, false] rfl rfl (any_of HT_.out (by kernel_rfl)) (fun _ _ _ h => h) (Or.inl ⟨by rfl, ?_⟩) ?_ ?_
                      rotate_left
                      · intro w'
                        go_simp
                        with_reducible rfl
                      rotate_left
                      · simp only [Act.put, List.setIfInBounds_toArray, List.set_cons_zero, List.set_cons_succ, i64_w, i32_w]
                        rfl
                      refine pure_ (i := 8) (N := some 56) (v := ?_) (a' := ?_) #[true, true, true, true, true, false, true, true, true, false, false, false, false, false] rfl rfl (any_of HT_.out (by kernel_rfl)) (fun _ _ _ h => h) (Or.inl ⟨by rfl, ?_⟩) ?_ ?_
                      rotate_left
                      · intro w'
                        go_simp
                        with_reducible rfl
                      rotate_left
                      · simp only [Act.put, List.setIfInBounds_toArray, List.set_cons_zero, List.set_cons_succ, i64_w, i32_w]
                        rfl
                      refine pure_ (i := 9) (N := some 57) (v := ?_) (a' := ?_) #[true, true, true, true, true, false, true, true, true, true, false, false, false, false] rfl rfl (any_of HT_.out (by kernel_rfl)) (fun _ _ _ h => h) (Or.inl ⟨by rfl, ?_⟩) ?_ ?_
                      rotate_left
                      · intro w'
                        go_simp
                        with_reducible rfl
                      rotate_left
                      · simp only [Act.put, List.setIfInBounds_toArray, List.set_cons_zero, List.set_cons_succ, i64_w, i32_w]
                        rfl
                      refine take_ (i := 5) (N := some 53) (v := ?_) (a' := ?_) #[true, true, true, true, true, true, true, true, true, true, false, false, false, false] rfl rfl (take_ofW HT_.out HW_.out (by kernel_rfl)) (fun _ _ _ h => h) (Or.inl ⟨by rfl, ?_⟩) hHeld ?_ ?_
                      rotate_left
                      · rintro w' ⟨s0, s1, s2, s3⟩
                        go_simp
                        with_reducible rfl
                      rotate_left
                      · simp only [Act.put, List.setIfInBounds_toArray, List.set_cons_zero, List.set_cons_succ, i64_w, i32_w]
                        rfl
                      refine take_ (i := 10) (N := some 58) (v := ?_) (a' := ?_) #[true, true, true, true, true, true, true, true, true, true, true, false, false, false] rfl rfl (take_ofW HT_.out HW_.out (by kernel_rfl)) (fun _ _ _ h => h) (Or.inl ⟨by rfl, ?_⟩) hHeld ?_ ?_
                      rotate_left
                      · rintro w' ⟨s0, s1, s2, s3⟩
                        go_simp
                        with_reducible rfl
                      rotate_left
                      · simp only [Act.put, List.setIfInBounds_toArray, List.set_cons_zero, List.set_cons_succ, i64_w, i32_w]
                        rfl
                      refine pure_ (i := 11) (N := some 59) (v := ?_) (a' := ?_) #[true, true, true, true, true, true, true, true, true, true, true, true, false, false] rfl rfl (any_of HT_.out (by kernel_rfl)) (fun _ _ _ h => h) (Or.inl ⟨by rfl, ?_⟩) ?_ ?_
                      rotate_left
                      · intro w'
                        go_simp
                        with_reducible rfl
                      rotate_left
                      · simp only [Act.put, List.setIfInBounds_toArray, List.set_cons_zero, List.set_cons_succ, i64_w, i32_w]
                        rfl
                      refine one_ (i := 12) (N := some 60) #[true, true, true, true, true, true, true, true, true, true, true, true, true, false] rfl rfl (one_of HT_.out (by kernel_rfl)) (by decide) (fun K hK => ?_)
                      refine goes_ Try.func23 (by kernel_rfl) rfl #[.slice Ao50 x8_1.length co50, .int .i64 ((rd_T43 l1 x9_1).f0), .int .i64 (((rd_T43 l1 x9_1).f1).length : Int)] (by rfl) rfl rfl (by (try simp only [List.map_toArray, List.map_cons, List.map_nil]); first | done | rfl | (simp only [List.length_drop, List.length_take]; rfl)) ?_
                      with_reducible refine (tinderref20_In.calls _ _ x8_1 ((rd_T43 l1 x9_1).f0) (((rd_T43 l1 x9_1).f1).length : Int) false _ ?side1 ?side2 A22.out).mono ?_
                      (case side1 => repeat (first | exact (Kd.R_reads' HO_8.out).2.2 | (with_reducible refine Kd.C_alloc ?_ _) | (with_reducible refine Kd.C_drewN ?_ _) | (with_reducible refine Kd.C_drew ?_)))
                      (case side2 => exact (Kd.R_reads' HO_8.out).2.1)
                      rintro e w' ⟨rfl, ⟨nd, rfl⟩⟩
                      refine ⟨_, rfl, ?_⟩
                      refine hK.out _ _ ⟨((HB.out.cell (World.block_lt_of_cell? w _ hw8015_0)).trans hw8015_0), ((HB.out.cell (World.block_lt_of_cell? w _ hw8015_1)).trans hw8015_1), ((HB.out.cell (World.block_lt_of_cell? w _ hw8016_0)).trans hw8016_0), ((HB.out.cell (World.block_lt_of_cell? w _ hw8016_1)).trans hw8016_1)⟩ (fun hHeld => ?_)
                      clear hK K
                      refine norm_ (a' := ?_) ?_ ?_
                      rotate_left
                      · show Act.put _ (some 60) _ = _
                        simp only [Act.put, List.setIfInBounds_toArray, List.set_cons_zero, List.set_cons_succ, i64_w, i32_w]
                        rfl
                      refine pure_ (i := 13) (N := some 61) (v := ?_) (a' := ?_) #[true, true, true, true, true, true, true, true, true, true, true, true, true, true] rfl rfl (any_of HT_.out (by kernel_rfl)) (fun _ _ _ h => h) (Or.inl ⟨by rfl, ?_⟩) ?_ ?_
                      rotate_left
                      · intro w'
                        go_simp
                        with_reducible rfl
                      rotate_left
                      · simp only [Act.put, List.setIfInBounds_toArray, List.set_cons_zero, List.set_cons_succ, i64_w, i32_w]
                        rfl
                      refine done_ (done_of HT_.out (by kernel_rfl)) ?_
                      try go_wp2
                      go_roundg k1
                      case measure => have := HK1.out; omega
                      case rel => exact ⟨(x7_1), (x8_1), (wrap64 (x9_1 + 1)), (by first | rfl | (simp; done) | (simp [*]; done)), H', ⟨by have := HK1.out; omega⟩, ⟨by (with_reducible repeat (first | apply Kd.R_alloc | apply Kd.R_drewN | apply Kd.R_drew)); exact Kd.R_mono HO_7.out (fun _ hk => hk.1)⟩, ⟨by (with_reducible repeat (first | apply Kd.R_alloc | apply Kd.R_drewN | apply Kd.R_drew)); exact Kd.R_mono HO_8.out (fun _ hk => hk.1)⟩, ⟨by (with_reducible repeat (first | refine blk_drewN ?_ _ | refine blk_drew ?_ | refine blk_alloc ?_ _)); exact BK8001.out⟩, ⟨by repeat (first | (with_reducible first | exact HB.out | apply below_alloc | apply pw_below_drewN | apply below_drew1 | refine below_set ?_ GE8001.out) | exact HB.out)⟩⟩
                    · rw [if_neg c45] at H
                      have c45b0 : (t8012 == 23) = false := beq_eq_false_iff_ne.mpr c45
                      have c45b1 : (t8012 != 23) = true := bne_iff_ne.mpr c45
                      obtain rfl := Option.some.inj H
                      try go_wp2
                      have n0_ := Aside0.mk (Kd.R_drew HO_7.out)
                      have n1_ := Aside0.mk (Kd.R_drew HO_8.out)
                      have n2_ := Aside0.mk (blk_drew BK8001.out)
                      have n3_ := Aside0.mk (below_drew1 HB.out)
                      clear HO_7
                      clear HO_8
                      clear BK8001
                      clear HB
                      have HO_7 := n0_
                      have HO_8 := n1_
                      have BK8001 := n2_
                      have HB := n3_
                      clear n0_ n1_ n2_ n3_
                      have p8009 : 0 ≤ (x9_1 : Int) := of_decide_eq_true (by first | (with_reducible assumption) | assumption)
                      have q8009 : x9_1 < (l1.length : Int) := of_decide_eq_true (by first | (with_reducible assumption) | assumption)
                      obtain ⟨ad8009, A8009_1, c8009_1, e8009, hx8009_0, hx8009_1, hl8009_1, hi8009_1⟩ := at_T43 HR1.out x9_1 p8009 q8009
                      have hw8009_1 := hx8009_1
                      have hw8009_0 := hx8009_0
                      cases e8009
                      replace hx8009_0 := (HB.out.cell (World.block_lt_of_cell? w _ hx8009_0)).trans hx8009_0
                      replace hx8009_1 := (HB.out.cell (World.block_lt_of_cell? w _ hx8009_1)).trans hx8009_1
                      have HR8009_1 := Aside0.mk hi8009_1
                      have HC8009_1 := Aside0.mk hl8009_1
                      clear hi8009_1 hl8009_1
                      replace p8009 := eq_true p8009
                      replace q8009 := eq_true q8009
                      have p8010 : 0 ≤ (x9_1 : Int) := of_decide_eq_true (by first | (with_reducible assumption) | assumption)
                      have q8010 : x9_1 < (l1.length : Int) := of_decide_eq_true (by first | (with_reducible assumption) | assumption)
                      obtain ⟨ad8010, A8010_1, c8010_1, e8010, hx8010_0, hx8010_1, hl8010_1, hi8010_1⟩ := at_T43 HR1.out x9_1 p8010 q8010
                      have hw8010_1 := hx8010_1
                      have hw8010_0 := hx8010_0
                      obtain rfl : ad8009 = ad8010 := (by injection e8010)
                      replace hx8010_0 := (HB.out.cell (World.block_lt_of_cell? w _ hx8010_0)).trans hx8010_0
                      replace hx8010_1 := (HB.out.cell (World.block_lt_of_cell? w _ hx8010_1)).trans hx8010_1
                      have HR8010_1 := Aside0.mk hi8010_1
                      have HC8010_1 := Aside0.mk hl8010_1
                      clear hi8010_1 hl8010_1
                      replace p8010 := eq_true p8010
                      replace q8010 := eq_true q8010
                      have ea_ := Option.some.inj (hx8009_1.symm.trans hx8010_1)
                      injection ea_ with ea_ en_ ec_
                      subst ea_
                      subst ec_
                      clear en_
                      obtain ⟨Ao52, co52, eo52⟩ := Kd.R_slice HO_7.out
                      (first | subst eo52 | (injection eo52 with f1_ f2_ f3_; have f4_ := f1_.symm; have f5_ := f3_.symm; clear f1_ f2_ f3_; subst f4_; subst f5_))
                      refine start_ (n := 17) (S := fun w' => w'.cell? (ad8009.add ((x9_1).toNat * 2)) = some (.int .i64 ((rd_T43 l1 x9_1).f0)) ∧ w'.cell? ⟨(ad8009.add ((x9_1).toNat * 2)).block, (ad8009.add ((x9_1).toNat * 2)).off + 1, none⟩ = some (.slice A8009_1 ((rd_T43 l1 x9_1).f1).length c8009_1) ∧ w'.cell? (ad8009.add ((x9_1).toNat * 2)) = some (.int .i64 ((rd_T43 l1 x9_1).f0)) ∧ w'.cell? ⟨(ad8009.add ((x9_1).toNat * 2)).block, (ad8009.add ((x9_1).toNat * 2)).off + 1, none⟩ = some (.slice A8009_1 ((rd_T43 l1 x9_1).f1).length c8009_1)) (ds := []) #[false, false, false, false, false, false, false, false, false, false, false, false, false, false, false, false, false] (by kernel_rfl) rfl rfl ⟨((HB.out.cell (World.block_lt_of_cell? w _ hw8009_0)).trans hw8009_0), ((HB.out.cell (World.block_lt_of_cell? w _ hw8009_1)).trans hw8009_1), ((HB.out.cell (World.block_lt_of_cell? w _ hw8010_0)).trans hw8010_0), ((HB.out.cell (World.block_lt_of_cell? w _ hw8010_1)).trans hw8010_1)⟩ (fun hHeld => ?_); refine with_tabW tinderlaw20_BlockRuns.tab10 tinderlaw20_BlockRuns.bits10 (fun HT_ HW_ => ?_)
                      generalize wr.drew = w51 at HO_7 HO_8 BK8001 HB HR8009_1 HR8010_1 hx8009_0 hx8009_1 hx8010_0 hx8010_1 hHeld ⊢
                      refine pure_ (i := 0) (N := some 34) (v := ?_) (a' := ?_) #[true, false, false, false, false, false, false, false, false, false, false, false, false, false, false, false, false] rfl rfl (any_of HT_.out (by kernel_rfl)) (fun _ _ _ h => h) (Or.inl ⟨by rfl, ?_⟩) ?_ ?_
                      rotate_left
                      · intro w'
                        go_simp
                        with_reducible rfl
                      rotate_left
                      · simp only [Act.put, List.setIfInBounds_toArray, List.set_cons_zero, List.set_cons_succ, i64_w, i32_w]
                        rfl
                      refine pure_ (i := 1) (N := some 35) (v := ?_) (a' := ?_) #[true, true, false, false, false, false, false, false, false, false, false, false, false, false, false, false, false] rfl rfl (any_of HT_.out (by kernel_rfl)) (fun _ _ _ h => h) (Or.inl ⟨by rfl, ?_⟩) ?_ ?_
                      rotate_left
                      · intro w'
                        go_simp
                        with_reducible rfl
                      rotate_left
                      · simp only [Act.put, List.setIfInBounds_toArray, List.set_cons_zero, List.set_cons_succ, i64_w, i32_w]
                        rfl
                      refine pure_ (i := 2) (N := some 36) (v := ?_) (a' := ?_) #[true, true, true, false, false, false, false, false, false, false, false, false, false, false, false, false, false] rfl rfl (any_of HT_.out (by kernel_rfl)) (fun _ _ _ h => h) (Or.inl ⟨by rfl, ?_⟩) ?_ ?_
                      rotate_left
                      · intro w'
                        go_simp
                        with_reducible rfl
                      rotate_left
                      · simp only [Act.put, List.setIfInBounds_toArray, List.set_cons_zero, List.set_cons_succ, i64_w, i32_w]
                        rfl
                      refine pure_ (i := 3) (N := some 37) (v := ?_) (a' := ?_) #[true, true, true, true, false, false, false, false, false, false, false, false, false, false, false, false, false] rfl rfl (any_of HT_.out (by kernel_rfl)) (fun _ _ _ h => h) (Or.inl ⟨by rfl, ?_⟩) ?_ ?_
                      rotate_left
                      · intro w'
                        go_simp
                        with_reducible rfl
                      rotate_left
                      · simp only [Act.put, List.setIfInBounds_toArray, List.set_cons_zero, List.set_cons_succ, i64_w, i32_w]
                        rfl
                      refine pure_ (i := 4) (N := some 38) (v := ?_) (a' := ?_) #[true, true, true, true, true, false, false, false, false, false, false, false, false, false, false, false, false] rfl rfl (any_of HT_.out (by kernel_rfl)) (fun _ _ _ h => h) (Or.inl ⟨by rfl, ?_⟩) ?_ ?_
                      rotate_left
                      · intro w'
                        go_simp
                        with_reducible rfl
                      rotate_left
                      · simp only [Act.put, List.setIfInBounds_toArray, List.set_cons_zero, List.set_cons_succ, i64_w, i32_w]
                        rfl
                      refine pure_ (i := 6) (N := some 40) (v := ?_) (a' := ?_) #[true, true, true, true, true, false, true, false, false, false, false, false, false, false, false, false, false] rfl rfl (any_of HT_.out (by kernel_rfl)) (fun _ _ _ h => h) (Or.inl ⟨by rfl, ?_⟩) ?_ ?_
                      rotate_left
                      · intro w'
                        go_simp
                        with_reducible rfl
                      rotate_left
                      · simp only [Act.put, List.setIfInBounds_toArray, List.set_cons_zero, List.set_cons_succ, i64_w, i32_w]
                        rfl
                      refine pure_ (i := 7) (N := some 41) (v := ?_) (a' := ?_) #[true, true, true, true, true, false, true, true, false, false, false, false, false, false, false, false, false] rfl rfl (any_of HT_.out (by kernel_rfl)) (fun _ _ _ h => h) (Or.inl ⟨by rfl, ?_⟩) ?_ ?_
                      rotate_left
                      · intro w'
                        go_simp
                        with_reducible rfl
                      rotate_left
                      · simp only [Act.put, List.setIfInBounds_toArray, List.set_cons_zero, List.set_cons_succ, i64_w, i32_w]
                        rfl
                      refine pure_ (i := 8) (N := some 42) (v := ?_) (a' := ?_) #[true, true, true, true, true, false, true, true, true, false, false, false, false, false, false, false, false] rfl rfl (any_of HT_.out (by kernel_rfl)) (fun _ _ _ h => h) (Or.inl ⟨by rfl, ?_⟩) ?_ ?_
                      rotate_left
                      · intro w'
                        go_simp
                        with_reducible rfl
                      rotate_left
                      · simp only [Act.put, List.setIfInBounds_toArray, List.set_cons_zero, List.set_cons_succ, i64_w, i32_w]
                        rfl
                      refine pure_ (i := 9) (N := some 43) (v := ?_) (a' := ?_) #[true, true, true, true, true, false, true, true, true, true, false, false, false, false, false, false, false] rfl rfl (any_of HT_.out (by kernel_rfl)) (fun _ _ _ h => h) (Or.inl ⟨by rfl, ?_⟩) ?_ ?_
                      rotate_left
                      · intro w'
                        go_simp
                        with_reducible rfl
                      rotate_left
                      · simp only [Act.put, List.setIfInBounds_toArray, List.set_cons_zero, List.set_cons_succ, i64_w, i32_w]
                        rfl
                      refine take_ (i := 5) (N := some 39) (v := ?_) (a' := ?_) #[true, true, true, true, true, true, true, true, true, true, false, false, false, false, false, false, false] rfl rfl (take_ofW HT_.out HW_.out (by kernel_rfl)) (fun _ _ _ h => h) (Or.inl ⟨by rfl, ?_⟩) hHeld ?_ ?_
                      rotate_left
                      · rintro w' ⟨s0, s1, s2, s3⟩
                        go_simp
                        with_reducible rfl
                      rotate_left
                      · simp only [Act.put, List.setIfInBounds_toArray, List.set_cons_zero, List.set_cons_succ, i64_w, i32_w]
                        rfl
                      refine take_ (i := 10) (N := some 44) (v := ?_) (a' := ?_) #[true, true, true, true, true, true, true, true, true, true, true, false, false, false, false, false, false] rfl rfl (take_ofW HT_.out HW_.out (by kernel_rfl)) (fun _ _ _ h => h) (Or.inl ⟨by rfl, ?_⟩) hHeld ?_ ?_
                      rotate_left
                      · rintro w' ⟨s0, s1, s2, s3⟩
                        go_simp
                        with_reducible rfl
                      rotate_left
                      · simp only [Act.put, List.setIfInBounds_toArray, List.set_cons_zero, List.set_cons_succ, i64_w, i32_w]
                        rfl
                      refine one_ (i := 11) (N := some 45) #[true, true, true, true, true, true, true, true, true, true, true, true, false, false, false, false, false] rfl rfl (one_of HT_.out (by kernel_rfl)) (by decide) (fun K hK => ?_)
                      refine goes_ Try.func19 (by kernel_rfl) rfl #[.slice Ao52 x7_1.length co52, .int .i64 ((rd_T43 l1 x9_1).f0), .slice A8009_1 ((rd_T43 l1 x9_1).f1).length c8009_1] (by rfl) rfl rfl (by (try simp only [List.map_toArray, List.map_cons, List.map_nil]); first | done | rfl | (simp only [List.length_drop, List.length_take]; rfl)) ?_
                      with_reducible refine (block_Put.calls _ _ x7_1 ((rd_T43 l1 x9_1).f0) _ _ ((rd_T43 l1 x9_1).f1) t8011 t8012 _ ?side1 ?side2 ?side3 ?side4 A21.out).mono ?_
                      (case side1 => repeat (first | exact (Kd.R_reads' HO_7.out).2.2 | (with_reducible refine Kd.C_alloc ?_ _) | (with_reducible refine Kd.C_drewN ?_ _) | (with_reducible refine Kd.C_drew ?_)))
                      (case side2 => exact (Kd.R_reads' HO_7.out).2.1)
                      (case side3 => repeat (first | exact (Kd.C_below HR8010_1.out HB.out) | (with_reducible refine Kd.C_alloc ?_ _) | (with_reducible refine Kd.C_drewN ?_ _) | (with_reducible refine Kd.C_drew ?_)))
                      (case side4 => exact HC8010_1.out)
                      rintro e w53 ⟨v8013, rfl, ho0, hb⟩
                      refine ⟨_, rfl, ?_⟩
                      have n0_ := Aside0.mk (Kd.R_elder' (by (with_reducible repeat (first | apply Kd.R_alloc | apply Kd.R_drewN | apply Kd.R_drew)); exact HO_7.out) (Kd.R_base ho0) hb)
                      have n1_ := Aside0.mk (Kd.R_elder' (by (with_reducible repeat (first | apply Kd.R_alloc | apply Kd.R_drewN | apply Kd.R_drew)); exact HO_8.out) (Kd.R_base ho0) hb)
                      have n2_ := Aside0.mk (Kd.R_lower (Kd.R_new' (Kd.R_new' ho0 (Kd.R_lt (by (with_reducible repeat (first | apply Kd.R_alloc | apply Kd.R_drewN | apply Kd.R_drew)); exact HO_7.out))) (Kd.R_lt (by (with_reducible repeat (first | apply Kd.R_alloc | apply Kd.R_drewN | apply Kd.R_drew)); exact HO_8.out))) (below_size (by repeat (first | (with_reducible first | exact HB.out | apply below_alloc | apply pw_below_drewN | apply below_drew1 | refine below_set ?_ GE8001.out) | exact HB.out))))
                      have n3_ := Aside0.mk (blk_below (g := gb8001) (o := .cells #[.int .i64 a2_0, .int .i64 a2_1] 38 (0, 0)) (by (with_reducible repeat (first | refine blk_drewN ?_ _ | refine blk_drew ?_ | refine blk_alloc ?_ _)); exact BK8001.out) hb)
                      have n4_ := Aside0.mk (below_step (by repeat (first | (with_reducible first | exact HB.out | apply below_alloc | apply pw_below_drewN | apply below_drew1 | refine below_set ?_ GE8001.out) | exact HB.out)) hb)
                      clear HO_7
                      clear HO_8
                      clear BK8001
                      clear HB
                      have HO_7 := n0_
                      have HO_8 := n1_
                      have HO8014 := n2_
                      have BK8001 := n3_
                      have HB := n4_
                      clear n0_ n1_ n2_ n3_ n4_
                      (try clear hb)
                      (try clear hb2)
                      (try clear hk)
                      (try clear hi)
                      (try clear ho0)
                      refine hK.out _ _ ⟨((HB.out.cell (World.block_lt_of_cell? w _ hw8009_0)).trans hw8009_0), ((HB.out.cell (World.block_lt_of_cell? w _ hw8009_1)).trans hw8009_1), ((HB.out.cell (World.block_lt_of_cell? w _ hw8010_0)).trans hw8010_0), ((HB.out.cell (World.block_lt_of_cell? w _ hw8010_1)).trans hw8010_1)⟩ (fun hHeld => ?_)
                      clear hK K
                      refine norm_ (a' := ?_) ?_ ?_
                      rotate_left
                      · show Act.put _ (some 45) _ = _
                        simp only [Act.put, List.setIfInBounds_toArray, List.set_cons_zero, List.set_cons_succ, i64_w, i32_w]
                        rfl
                      refine pure_ (i := 12) (N := some 33) (v := ?_) (a' := ?_) #[true, true, true, true, true, true, true, true, true, true, true, true, true, false, false, false, false] rfl rfl (any_of HT_.out (by kernel_rfl)) (fun _ _ _ h => h) (Or.inl ⟨by rfl, ?_⟩) ?_ ?_
                      rotate_left
                      · intro w'
                        go_simp
                        with_reducible rfl
                      rotate_left
                      · simp only [Act.put, List.setIfInBounds_toArray, List.set_cons_zero, List.set_cons_succ, i64_w, i32_w]
                        rfl
                      refine pure_ (i := 13) (N := some 46) (v := ?_) (a' := ?_) #[true, true, true, true, true, true, true, true, true, true, true, true, true, true, false, false, false] rfl rfl (any_of HT_.out (by kernel_rfl)) (fun _ _ _ h => h) (Or.inl ⟨by rfl, ?_⟩) ?_ ?_
                      rotate_left
                      · intro w'
                        go_simp
                        with_reducible rfl
                      rotate_left
                      · simp only [Act.put, List.setIfInBounds_toArray, List.set_cons_zero, List.set_cons_succ, i64_w, i32_w]
                        rfl
                      refine pure_ (i := 14) (N := some 47) (v := ?_) (a' := ?_) #[true, true, true, true, true, true, true, true, true, true, true, true, true, true, true, false, false] rfl rfl (any_of HT_.out (by kernel_rfl)) (fun _ _ _ h => h) (Or.inl ⟨by rfl, ?_⟩) ?_ ?_
                      rotate_left
                      · intro w'
                        go_simp
                        with_reducible rfl
                      rotate_left
                      · simp only [Act.put, List.setIfInBounds_toArray, List.set_cons_zero, List.set_cons_succ, i64_w, i32_w]
                        rfl
                      refine pure_ (i := 15) (N := some 10) (v := ?_) (a' := ?_) #[true, true, true, true, true, true, true, true, true, true, true, true, true, true, true, true, false] rfl rfl (any_of HT_.out (by kernel_rfl)) (fun _ _ _ h => h) (Or.inl ⟨by rfl, ?_⟩) ?_ ?_
                      rotate_left
                      · intro w'
                        go_simp
                        with_reducible rfl
                      rotate_left
                      · simp only [Act.put, List.setIfInBounds_toArray, List.set_cons_zero, List.set_cons_succ, i64_w, i32_w]
                        rfl
                      refine pure_ (i := 16) (N := some 11) (v := ?_) (a' := ?_) #[true, true, true, true, true, true, true, true, true, true, true, true, true, true, true, true, true] rfl rfl (any_of HT_.out (by kernel_rfl)) (fun _ _ _ h => h) (Or.inl ⟨by rfl, ?_⟩) ?_ ?_
                      rotate_left
                      · intro w'
                        go_simp
                        with_reducible rfl
                      rotate_left
                      · simp only [Act.put, List.setIfInBounds_toArray, List.set_cons_zero, List.set_cons_succ, i64_w, i32_w]
                        rfl
                      refine done_ (done_of HT_.out (by kernel_rfl)) ?_
                      try go_wp2
                      have n0_ := Aside0.mk (Kd.R_drew HO_7.out)
                      have n1_ := Aside0.mk (Kd.R_drew HO_8.out)
                      have n2_ := Aside0.mk (Kd.R_drew HO8014.out)
                      have n3_ := Aside0.mk (blk_drew BK8001.out)
                      have n4_ := Aside0.mk (below_drew1 HB.out)
                      clear HO_7
                      clear HO_8
                      clear HO8014
                      clear BK8001
                      clear HB
                      have HO_7 := n0_
                      have HO_8 := n1_
                      have HO8014 := n2_
                      have BK8001 := n3_
                      have HB := n4_
                      clear n0_ n1_ n2_ n3_ n4_
                      have p8015 : 0 ≤ (x9_1 : Int) := of_decide_eq_true (by first | (with_reducible assumption) | assumption)
                      have q8015 : x9_1 < (l1.length : Int) := of_decide_eq_true (by first | (with_reducible assumption) | assumption)
                      obtain ⟨ad8015, A8015_1, c8015_1, e8015, hx8015_0, hx8015_1, hl8015_1, hi8015_1⟩ := at_T43 HR1.out x9_1 p8015 q8015
                      have hw8015_1 := hx8015_1
                      have hw8015_0 := hx8015_0
                      obtain rfl : ad8009 = ad8015 := (by injection e8015)
                      replace hx8015_0 := (HB.out.cell (World.block_lt_of_cell? w _ hx8015_0)).trans hx8015_0
                      replace hx8015_1 := (HB.out.cell (World.block_lt_of_cell? w _ hx8015_1)).trans hx8015_1
                      have HR8015_1 := Aside0.mk hi8015_1
                      have HC8015_1 := Aside0.mk hl8015_1
                      clear hi8015_1 hl8015_1
                      replace p8015 := eq_true p8015
                      replace q8015 := eq_true q8015
                      have p8016 : 0 ≤ (x9_1 : Int) := of_decide_eq_true (by first | (with_reducible assumption) | assumption)
                      have q8016 : x9_1 < (l1.length : Int) := of_decide_eq_true (by first | (with_reducible assumption) | assumption)
                      obtain ⟨ad8016, A8016_1, c8016_1, e8016, hx8016_0, hx8016_1, hl8016_1, hi8016_1⟩ := at_T43 HR1.out x9_1 p8016 q8016
                      have hw8016_1 := hx8016_1
                      have hw8016_0 := hx8016_0
                      obtain rfl : ad8009 = ad8016 := (by injection e8016)
                      replace hx8016_0 := (HB.out.cell (World.block_lt_of_cell? w _ hx8016_0)).trans hx8016_0
                      replace hx8016_1 := (HB.out.cell (World.block_lt_of_cell? w _ hx8016_1)).trans hx8016_1
                      have HR8016_1 := Aside0.mk hi8016_1
                      have HC8016_1 := Aside0.mk hl8016_1
                      clear hi8016_1 hl8016_1
                      replace p8016 := eq_true p8016
                      replace q8016 := eq_true q8016
                      have ea_ := Option.some.inj (hx8015_1.symm.trans hx8016_1)
                      injection ea_ with ea_ en_ ec_
                      subst ea_
                      subst ec_
                      clear en_
                      obtain ⟨Ao55, co55, eo55⟩ := Kd.R_slice HO_8.out
                      (first | subst eo55 | (injection eo55 with f1_ f2_ f3_; have f4_ := f1_.symm; have f5_ := f3_.symm; clear f1_ f2_ f3_; subst f4_; subst f5_))
                      refine start_ (n := 14) (S := fun w' => w'.cell? (ad8009.add ((x9_1).toNat * 2)) = some (.int .i64 ((rd_T43 l1 x9_1).f0)) ∧ w'.cell? ⟨(ad8009.add ((x9_1).toNat * 2)).block, (ad8009.add ((x9_1).toNat * 2)).off + 1, none⟩ = some (.slice A8015_1 ((rd_T43 l1 x9_1).f1).length c8015_1) ∧ w'.cell? (ad8009.add ((x9_1).toNat * 2)) = some (.int .i64 ((rd_T43 l1 x9_1).f0)) ∧ w'.cell? ⟨(ad8009.add ((x9_1).toNat * 2)).block, (ad8009.add ((x9_1).toNat * 2)).off + 1, none⟩ = some (.slice A8015_1 ((rd_T43 l1 x9_1).f1).length c8015_1)) (ds := []) #[false, false, false, false, false, false, false, false, false, false, false, false, false, false] (by kernel_rfl) rfl rfl ⟨((HB.out.cell (World.block_lt_of_cell? w _ hw8015_0)).trans hw8015_0), ((HB.out.cell (World.block_lt_of_cell? w _ hw8015_1)).trans hw8015_1), ((HB.out.cell (World.block_lt_of_cell? w _ hw8016_0)).trans hw8016_0), ((HB.out.cell (World.block_lt_of_cell? w _ hw8016_1)).trans hw8016_1)⟩ (fun hHeld => ?_); refine with_tabW tinderlaw20_BlockRuns.tab11 tinderlaw20_BlockRuns.bits11 (fun HT_ HW_ => ?_)
                      generalize w53.drew = w54 at HO_7 HO_8 HO8014 BK8001 HB HR8015_1 HR8016_1 hx8015_0 hx8015_1 hx8016_0 hx8016_1 hHeld ⊢
                      refine pure_ (i := 0) (N := some 48) (v := ?_) (a' := ?_) #[true, false, false, false, false, false, false, false, false, false, false, false, false, false] rfl rfl (any_of HT_.out (by kernel_rfl)) (fun _ _ _ h => h) (Or.inl ⟨by rfl, ?_⟩) ?_ ?_
                      rotate_left
                      · intro w'
                        go_simp
                        with_reducible rfl
                      rotate_left
                      · simp only [Act.put, List.setIfInBounds_toArray, List.set_cons_zero, List.set_cons_succ, i64_w, i32_w]
                        rfl
                      refine pure_ (i := 1) (N := some 49) (v := ?_) (a' := ?_) #[true, true, false, false, false, false, false, false, false, false, false, false, false, false] rfl rfl (any_of HT_.out (by kernel_rfl)) (fun _ _ _ h => h) (Or.inl ⟨by rfl, ?_⟩) ?_ ?_
                      rotate_left
                      · intro w'
                        go_simp
                        with_reducible rfl
                      rotate_left
                      · simp only [Act.put, List.setIfInBounds_toArray, List.set_cons_zero, List.set_cons_succ, i64_w, i32_w]
                        rfl
                      refine pure_ (i := 2) (N := some 50) (v := ?_) (a' := ?_) #[true, true, true, false, false, false, false, false, false, false, false, false, false, false] rfl rfl (any_of HT_.out (by kernel_rfl)) (fun _ _ _ h => h) (Or.inl ⟨by rfl, ?_⟩) ?_ ?_
                      rotate_left
                      · intro w'
                        go_simp
                        with_reducible rfl
                      rotate_left
                      · simp only [Act.put, List.setIfInBounds_toArray, List.set_cons_zero, List.set_cons_succ, i64_w, i32_w]
                        rfl
                      refine pure_ (i := 3) (N := some 51) (v := ?_) (a' := ?_) #[true, true, true, true, false, false, false, false, false, false, false, false, false, false] rfl rfl (any_of HT_.out (by kernel_rfl)) (fun _ _ _ h => h) (Or.inl ⟨by rfl, ?_⟩) ?_ ?_
                      rotate_left
                      · intro w'
                        go_simp
                        with_reducible rfl
                      rotate_left
                      · simp only [Act.put, List.setIfInBounds_toArray, List.set_cons_zero, List.set_cons_succ, i64_w, i32_w]
                        rfl
                      refine pure_ (i := 4) (N := some 52) (v := ?_) (a' := ?_) #[true, true, true, true, true, false, false, false, false, false, false, false, false, false] rfl rfl (any_of HT_.out (by kernel_rfl)) (fun _ _ _ h => h) (Or.inl ⟨by rfl, ?_⟩) ?_ ?_
                      rotate_left
                      · intro w'
                        go_simp
                        with_reducible rfl
                      rotate_left
                      · simp only [Act.put, List.setIfInBounds_toArray, List.set_cons_zero, List.set_cons_succ, i64_w, i32_w]
                        rfl
                      refine pure_ (i := 6) (N := some 54) (v := ?_) (a' := ?_) #[true, true, true, true, true, false, true, false, false, false, false, false, false, false] rfl rfl (any_of HT_.out (by kernel_rfl)) (fun _ _ _ h => h) (Or.inl ⟨by rfl, ?_⟩) ?_ ?_
                      rotate_left
                      · intro w'
                        go_simp
                        with_reducible rfl
                      rotate_left
                      · simp only [Act.put, List.setIfInBounds_toArray, List.set_cons_zero, List.set_cons_succ, i64_w, i32_w]
                        rfl
                      refine pure_ (i := 7) (N := some 55) (v := ?_) (a' := ?_) #[true, true, true, true, true, false, true, true, false, false, false, false, false, false] rfl rfl (any_of HT_.out (by kernel_rfl)) (fun _ _ _ h => h) (Or.inl ⟨by rfl, ?_⟩) ?_ ?_
                      rotate_left
                      · intro w'
                        go_simp
                        with_reducible rfl
                      rotate_left
                      · simp only [Act.put, List.setIfInBounds_toArray, List.set_cons_zero, List.set_cons_succ, i64_w, i32_w]
                        rfl
                      refine pure_ (i := 8) (N := some 56) (v := ?_) (a' := ?_) #[true, true, true, true, true, false, true, true, true, false, false, false, false, false] rfl rfl (any_of HT_.out (by kernel_rfl)) (fun _ _ _ h => h) (Or.inl ⟨by rfl, ?_⟩) ?_ ?_
                      rotate_left
                      · intro w'
                        go_simp
                        with_reducible rfl
                      rotate_left
                      · simp only [Act.put, List.setIfInBounds_toArray, List.set_cons_zero, List.set_cons_succ, i64_w, i32_w]
                        rfl
                      refine pure_ (i := 9) (N := some 57) (v := ?_) (a' := ?_) #[true, true, true, true, true, false, true, true, true, true, false, false, false, false] rfl rfl (any_of HT_.out (by kernel_rfl)) (fun _ _ _ h => h) (Or.inl ⟨by rfl, ?_⟩) ?_ ?_
                      rotate_left
                      · intro w'
                        go_simp
                        with_reducible rfl
                      rotate_left
                      · simp only [Act.put, List.setIfInBounds_toArray, List.set_cons_zero, List.set_cons_succ, i64_w, i32_w]
                        rfl
                      refine take_ (i := 5) (N := some 53) (v := ?_) (a' := ?_) #[true, true, true, true, true, true, true, true, true, true, false, false, false, false] rfl rfl (take_ofW HT_.out HW_.out (by kernel_rfl)) (fun _ _ _ h => h) (Or.inl ⟨by rfl, ?_⟩) hHeld ?_ ?_
                      rotate_left
                      · rintro w' ⟨s0, s1, s2, s3⟩
                        go_simp
                        with_reducible rfl
                      rotate_left
                      · simp only [Act.put, List.setIfInBounds_toArray, List.set_cons_zero, List.set_cons_succ, i64_w, i32_w]
                        rfl
                      refine take_ (i := 10) (N := some 58) (v := ?_) (a' := ?_) #[true, true, true, true, true, true, true, true, true, true, true, false, false, false] rfl rfl (take_ofW HT_.out HW_.out (by kernel_rfl)) (fun _ _ _ h => h) (Or.inl ⟨by rfl, ?_⟩) hHeld ?_ ?_
                      rotate_left
                      · rintro w' ⟨s0, s1, s2, s3⟩
                        go_simp
                        with_reducible rfl
                      rotate_left
                      · simp only [Act.put, List.setIfInBounds_toArray, List.set_cons_zero, List.set_cons_succ, i64_w, i32_w]
                        rfl
                      refine pure_ (i := 11) (N := some 59) (v := ?_) (a' := ?_) #[true, true, true, true, true, true, true, true, true, true, true, true, false, false] rfl rfl (any_of HT_.out (by kernel_rfl)) (fun _ _ _ h => h) (Or.inl ⟨by rfl, ?_⟩) ?_ ?_
                      rotate_left
                      · intro w'
                        go_simp
                        with_reducible rfl
                      rotate_left
                      · simp only [Act.put, List.setIfInBounds_toArray, List.set_cons_zero, List.set_cons_succ, i64_w, i32_w]
                        rfl
                      refine one_ (i := 12) (N := some 60) #[true, true, true, true, true, true, true, true, true, true, true, true, true, false] rfl rfl (one_of HT_.out (by kernel_rfl)) (by decide) (fun K hK => ?_)
                      refine goes_ Try.func23 (by kernel_rfl) rfl #[.slice Ao55 x8_1.length co55, .int .i64 ((rd_T43 l1 x9_1).f0), .int .i64 (((rd_T43 l1 x9_1).f1).length : Int)] (by rfl) rfl rfl (by (try simp only [List.map_toArray, List.map_cons, List.map_nil]); first | done | rfl | (simp only [List.length_drop, List.length_take]; rfl)) ?_
                      with_reducible refine (tinderref20_In.calls _ _ x8_1 ((rd_T43 l1 x9_1).f0) (((rd_T43 l1 x9_1).f1).length : Int) false _ ?side1 ?side2 A22.out).mono ?_
                      (case side1 => repeat (first | exact (Kd.R_reads' HO_8.out).2.2 | (with_reducible refine Kd.C_alloc ?_ _) | (with_reducible refine Kd.C_drewN ?_ _) | (with_reducible refine Kd.C_drew ?_)))
                      (case side2 => exact (Kd.R_reads' HO_8.out).2.1)
                      rintro e w' ⟨rfl, ⟨nd, rfl⟩⟩
                      refine ⟨_, rfl, ?_⟩
                      refine hK.out _ _ ⟨((HB.out.cell (World.block_lt_of_cell? w _ hw8015_0)).trans hw8015_0), ((HB.out.cell (World.block_lt_of_cell? w _ hw8015_1)).trans hw8015_1), ((HB.out.cell (World.block_lt_of_cell? w _ hw8016_0)).trans hw8016_0), ((HB.out.cell (World.block_lt_of_cell? w _ hw8016_1)).trans hw8016_1)⟩ (fun hHeld => ?_)
                      clear hK K
                      refine norm_ (a' := ?_) ?_ ?_
                      rotate_left
                      · show Act.put _ (some 60) _ = _
                        simp only [Act.put, List.setIfInBounds_toArray, List.set_cons_zero, List.set_cons_succ, i64_w, i32_w]
                        rfl
                      refine pure_ (i := 13) (N := some 61) (v := ?_) (a' := ?_) #[true, true, true, true, true, true, true, true, true, true, true, true, true, true] rfl rfl (any_of HT_.out (by kernel_rfl)) (fun _ _ _ h => h) (Or.inl ⟨by rfl, ?_⟩) ?_ ?_
                      rotate_left
                      · intro w'
                        go_simp
                        with_reducible rfl
                      rotate_left
                      · simp only [Act.put, List.setIfInBounds_toArray, List.set_cons_zero, List.set_cons_succ, i64_w, i32_w]
                        rfl
                      refine done_ (done_of HT_.out (by kernel_rfl)) ?_
                      try go_wp2
                      go_ret
                      exact ⟨by first | rfl | (simp [errW_none, errW_some] <;> rfl) | (simp only [← hji9]; first | rfl | (simp [errW_none, errW_some] <;> rfl)) | (simp [*, errW_none, errW_some] <;> rfl), by repeat (first | (with_reducible first | exact HB.out | apply below_alloc | apply pw_below_drewN | apply below_drew1 | refine below_set ?_ GE8001.out) | exact HB.out)⟩
                · rw [if_neg c20] at H
                  exact absurd H (by simp)
              · rw [if_neg c19] at H
                have c19b0 : decide (x9_1 < (l1.length : Int)) = false := decide_eq_false c19
                clear c19
                replace H := Option.bind_eq_some_iff.mp H
                obtain ⟨⟨t8023, t8024⟩, A560, H⟩ := H
                replace H : ((tinderref20_In.f x8_1 a2_0 a2_1).bind fun t8027 => (if t8027 = true then (if t8024 = 0 then (if 0 ≤ a2_0 then (if a2_0 ≤ (wrap64 (a2_0 + a2_1)) then (if (wrap64 (a2_0 + a2_1)) ≤ (x8_1.length : Int) then ((tinderref04_Same.f t8023 ((x8_1.take ((wrap64 (a2_0 + a2_1)) : Int).toNat).drop (a2_0 : Int).toNat)).bind fun t8032 => (if t8032 = true then ((tinderref04_Same.f x7_1 x8_1).bind fun t8033 => (some t8033)) else (some false))) else (none)) else (none)) else (none)) else (some false)) else (if t8024 = 23 then (some ((t8023.length : Int) == 0)) else (some false)))) = some r := H
                have A56 := Aside0.mk A560
                clear A560
                replace H := Option.bind_eq_some_iff.mp H
                obtain ⟨t8027, A570, H⟩ := H
                replace H : (if t8027 = true then (if t8024 = 0 then (if 0 ≤ a2_0 then (if a2_0 ≤ (wrap64 (a2_0 + a2_1)) then (if (wrap64 (a2_0 + a2_1)) ≤ (x8_1.length : Int) then ((tinderref04_Same.f t8023 ((x8_1.take ((wrap64 (a2_0 + a2_1)) : Int).toNat).drop (a2_0 : Int).toNat)).bind fun t8032 => (if t8032 = true then ((tinderref04_Same.f x7_1 x8_1).bind fun t8033 => (some t8033)) else (some false))) else (none)) else (none)) else (none)) else (some false)) else (if t8024 = 23 then (some ((t8023.length : Int) == 0)) else (some false))) = some r := H
                have A57 := Aside0.mk A570
                clear A570
                by_cases c58 : t8027 = true
                · subst c58
                  have H1 : (if t8024 = 0 then (if 0 ≤ a2_0 then (if a2_0 ≤ (wrap64 (a2_0 + a2_1)) then (if (wrap64 (a2_0 + a2_1)) ≤ (x8_1.length : Int) then ((tinderref04_Same.f t8023 ((x8_1.take ((wrap64 (a2_0 + a2_1)) : Int).toNat).drop (a2_0 : Int).toNat)).bind fun t8032 => (if t8032 = true then ((tinderref04_Same.f x7_1 x8_1).bind fun t8033 => (some t8033)) else (some false))) else (none)) else (none)) else (none)) else (some false)) = some r := by rw [if_pos rfl] at H; exact H
                  clear H
                  have H := H1
                  clear H1
                  by_cases c59 : t8024 = 0
                  · rw [if_pos c59] at H
                    have c59b0 : (t8024 == 0) = true := beq_iff_eq.mpr c59
                    have c59b1 : (t8024 != 0) = false := bne_eq_false_iff_eq.mpr c59
                    clear c59
                    by_cases c60 : 0 ≤ a2_0
                    · rw [if_pos c60] at H
                      have c60b0 := eq_true c60
                      have c60b1 : decide (0 ≤ a2_0) = true := decide_eq_true c60
                      clear c60
                      by_cases c61 : a2_0 ≤ (wrap64 (a2_0 + a2_1))
                      · rw [if_pos c61] at H
                        have c61b0 := eq_true c61
                        have c61b1 : decide (a2_0 ≤ (wrap64 (a2_0 + a2_1))) = true := decide_eq_true c61
                        by_cases c62 : (wrap64 (a2_0 + a2_1)) ≤ (x8_1.length : Int)
                        · rw [if_pos c62] at H
                          have c62b0 := eq_true c62
                          have c62b1 : decide ((wrap64 (a2_0 + a2_1)) ≤ (x8_1.length : Int)) = true := decide_eq_true c62
                          obtain ⟨y8028, hy8028⟩ : ∃ y_ : List Int, y_ = ((x8_1.take ((wrap64 (a2_0 + a2_1)) : Int).toNat).drop (a2_0 : Int).toNat) := ⟨_, rfl⟩
                          replace H : ((tinderref04_Same.f t8023 y8028).bind fun t8032 => (if t8032 = true then ((tinderref04_Same.f x7_1 x8_1).bind fun t8033 => (some t8033)) else (some false))) = some r := by first | (rw [hy8028]; with_reducible exact H) | (have H2_ := (Option.bind_some _ _).symm.trans H; rw [hy8028]; with_reducible exact H2_) | (have H2_ := (Option.bind_some _ _).symm.trans H; with_reducible exact H2_) | with_reducible exact H | (rw [hy8028]; exact H) | exact H
                          have Ny8028 := Aside0.mk hy8028
                          clear hy8028
                          replace H := Option.bind_eq_some_iff.mp H
                          obtain ⟨t8032, A630, H⟩ := H
                          replace H : (if t8032 = true then ((tinderref04_Same.f x7_1 x8_1).bind fun t8033 => (some t8033)) else (some false)) = some r := H
                          have A63 := Aside0.mk A630
                          clear A630
                          by_cases c64 : t8032 = true
                          · subst c64
                            have H1 : ((tinderref04_Same.f x7_1 x8_1).bind fun t8033 => (some t8033)) = some r := by rw [if_pos rfl] at H; exact H
                            clear H
                            have H := H1
                            clear H1
                            replace H := Option.bind_eq_some_iff.mp H
                            obtain ⟨t8033, A650, H⟩ := H
                            replace H : (some t8033) = some r := H
                            have A65 := Aside0.mk A650
                            clear A650
                            obtain rfl := Option.some.inj H
                            have hcz66_0 : wr.cell? ⟨gb8001, 0, none⟩ = some (.int .i64 a2_0) := (blk_cell BK8001.out 0).trans rfl
                            have hcz66_1 : wr.cell? ⟨gb8001, 1, none⟩ = some (.int .i64 a2_1) := (blk_cell BK8001.out 1).trans rfl
                            have hfz66_0 := blk_frozen BK8001.out 0
                            have hfz66_1 := blk_frozen BK8001.out 1
                            obtain ⟨Ao67, co67, eo67⟩ := Kd.R_slice HO_7.out
                            subst eo67
                            go_wp2_with (first | ((with_reducible refine gate_callee (f := 20) rfl ?_); refine goesL_ (some 100) rfl rfl Try.func20 (by kernel_rfl) rfl #[.slice Ao67 x7_1.length co67, .int .i64 a2_0, .int .i64 a2_1] rfl (by (try simp only [List.map_toArray, List.map_cons, List.map_nil]); first | done | rfl | (simp only [List.length_drop, List.length_take]; rfl)) ?_; (with_reducible refine (block_Get.calls k1 _ _ x7_1 a2_0 a2_1 t8023 t8024 _ ?side1 ?side2 A56.out).mono ?_); (case side1 => repeat (first | exact (Kd.R_reads' HO_7.out).2.2 | (with_reducible refine Kd.C_alloc ?_ _) | (with_reducible refine Kd.C_drewN ?_ _) | (with_reducible refine Kd.C_drew ?_))); (case side2 => exact (Kd.R_reads' HO_7.out).2.1); rintro e w68 ⟨v8025, rfl, ho0, hb⟩; refine ⟨_, rfl, ?_⟩; have n0_ := Aside0.mk (Kd.R_elder' (by (with_reducible repeat (first | apply Kd.R_alloc | apply Kd.R_drewN | apply Kd.R_drew)); exact HO_7.out) (Kd.R_base ho0) hb); have n1_ := Aside0.mk (Kd.R_elder' (by (with_reducible repeat (first | apply Kd.R_alloc | apply Kd.R_drewN | apply Kd.R_drew)); exact HO_8.out) (Kd.R_base ho0) hb); have n2_ := Aside0.mk (Kd.R_lower (Kd.R_new' (Kd.R_new' ho0 (Kd.R_lt (by (with_reducible repeat (first | apply Kd.R_alloc | apply Kd.R_drewN | apply Kd.R_drew)); exact HO_7.out))) (Kd.R_lt (by (with_reducible repeat (first | apply Kd.R_alloc | apply Kd.R_drewN | apply Kd.R_drew)); exact HO_8.out))) (below_size (by repeat (first | (with_reducible first | exact HB.out | apply below_alloc | apply pw_below_drewN | apply below_drew1 | refine below_set ?_ GE8001.out) | exact HB.out)))); have n3_ := Aside0.mk (blk_below (g := gb8001) (o := .cells #[.int .i64 a2_0, .int .i64 a2_1] 38 (0, 0)) (by (with_reducible repeat (first | refine blk_drewN ?_ _ | refine blk_drew ?_ | refine blk_alloc ?_ _)); exact BK8001.out) hb); have n4_ := Aside0.mk (below_step (by repeat (first | (with_reducible first | exact HB.out | apply below_alloc | apply pw_below_drewN | apply below_drew1 | refine below_set ?_ GE8001.out) | exact HB.out)) hb); clear HO_7; clear HO_8; clear BK8001; clear HB; have HO_7 := n0_; have HO_8 := n1_; have HO8026 := n2_; have BK8001 := n3_; have HB := n4_; clear n0_ n1_ n2_ n3_ n4_; (try clear hb); (try clear hb2); (try clear hk); (try clear hi); (try clear ho0); have hcz69_0 : w68.cell? ⟨gb8001, 0, none⟩ = some (.int .i64 a2_0) := (blk_cell BK8001.out 0).trans rfl; have hcz69_1 : w68.cell? ⟨gb8001, 1, none⟩ = some (.int .i64 a2_1) := (blk_cell BK8001.out 1).trans rfl; have hfz69_0 := blk_frozen BK8001.out 0; have hfz69_1 := blk_frozen BK8001.out 1; obtain ⟨Ao70, co70, eo70⟩ := Kd.R_slice HO_8.out; subst eo70) | ((with_reducible refine gate_callee (f := 23) rfl ?_); refine goesL_ (some 108) rfl rfl Try.func23 (by kernel_rfl) rfl #[.slice Ao70 x8_1.length co70, .int .i64 a2_0, .int .i64 a2_1] rfl (by (try simp only [List.map_toArray, List.map_cons, List.map_nil]); first | done | rfl | (simp only [List.length_drop, List.length_take]; rfl)) ?_; (with_reducible refine (tinderref20_In.calls _ _ x8_1 a2_0 a2_1 true _ ?side1 ?side2 A57.out).mono ?_); (case side1 => repeat (first | exact (Kd.R_reads' HO_8.out).2.2 | (with_reducible refine Kd.C_alloc ?_ _) | (with_reducible refine Kd.C_drewN ?_ _) | (with_reducible refine Kd.C_drew ?_))); (case side2 => exact (Kd.R_reads' HO_8.out).2.1); rintro e w' ⟨rfl, ⟨nd, rfl⟩⟩; refine ⟨_, rfl, ?_⟩; have q71 : ((wrap64 (a2_0 + a2_1)) : Int) ≤ ((x8_1.length : Int) : Int) := of_decide_eq_true (by first | (with_reducible assumption) | assumption); obtain ⟨i071, hi071, _, hsz71, _⟩ := info_parts info5; have hroom71 : x8_1.length ≤ co70 := (Kd.R_reads' HO_8.out).2.1; have hC71 : Kd.C (Kd.int .u8) _ Ao70 x8_1.length x8_1 := (Kd.R_reads' HO_8.out).2.2; have ql71 : (a2_0 : Int) ≤ ((wrap64 (a2_0 + a2_1)) : Int) := of_decide_eq_true (by first | (with_reducible assumption) | assumption); have q071 : (0 : Int) ≤ (a2_0 : Int) := of_decide_eq_true (by first | (with_reducible assumption) | assumption); have hcut71 := cut_mid (P := Try.prog) 30 5 .i64 .i64 Try.underlying30 hi071 1 hsz71 Ao70 x8_1.length co70 a2_0 (wrap64 (a2_0 + a2_1)) q071 ql71 q71 hroom71; have hr71 := Kd.C_mid (lo := (a2_0 : Int).toNat) (hi := ((wrap64 (a2_0 + a2_1)) : Int).toNat) (c := co70) hC71 (by omega) (by omega) hroom71; obtain ⟨A71, hA71⟩ : ∃ A1, A1 = (if co70 = (a2_0 : Int).toNat then Ao70 else (Ao70 : Option Addr).map (·.add ((a2_0 : Int).toNat * 1))) := ⟨_, rfl⟩; obtain ⟨c71, hc71⟩ : ∃ c1, c1 = co70 - (a2_0 : Int).toNat := ⟨_, rfl⟩; have hy71 : y8028.length = ((wrap64 (a2_0 + a2_1)) : Int).toNat - (a2_0 : Int).toNat := (by rw [Ny8028.out, List.length_drop, List.length_take] <;> omega); rw [show ((x8_1).take ((wrap64 (a2_0 + a2_1)) : Int).toNat).drop (a2_0 : Int).toNat = y8028 from Ny8028.out.symm] at hr71; replace hr71 : Kd.C (Kd.int .u8) _ A71 y8028.length y8028 := (by rw [hA71]; exact hr71); rw [← hy71, ← hA71, ← hc71] at hcut71; have HR8031 := Aside0.mk hr71; have HC8031 := Aside0.mk (show y8028.length ≤ c71 from by rw [hy71, hc71]; exact Nat.sub_le_sub_right (Nat.le_trans (by omega) hroom71) _); clear hr71 hC71 hroom71 hi071 hsz71 hc71; have KY71 := Aside0.mk hy71; have KA71 := Aside0.mk hA71; clear hy71 hA71; have KL71 := Aside0.mk (show ((wrap64 (a2_0 + a2_1)) : Int).toNat ≤ x8_1.length from by omega); have KM71 := Aside0.mk (show (a2_0 : Int).toNat ≤ ((wrap64 (a2_0 + a2_1)) : Int).toNat from by omega); replace q71 := eq_true q71; obtain ⟨Ao72, co72, eo72⟩ := Kd.R_slice HO8026.out; subst eo72) | (go_at_call 16; (with_reducible refine (tinderref04_Same.calls _ _ t8023 _ _ y8028 true _ ?side1 ?side2 ?side3 ?side4 A63.out).mono ?_); (case side1 => repeat (first | exact (Kd.R_reads' HO8026.out).2.2 | (with_reducible refine Kd.C_alloc ?_ _) | (with_reducible refine Kd.C_drewN ?_ _) | (with_reducible refine Kd.C_drew ?_))); (case side2 => exact (Kd.R_reads' HO8026.out).2.1); (case side3 => repeat (first | exact (by repeat (first | (with_reducible exact HR8031.out) | (with_reducible refine Kd.C_alloc ?_ _) | (with_reducible refine Kd.C_drewN ?_ _) | (with_reducible refine Kd.C_drew ?_) | exact HR8031.out)) | (with_reducible refine Kd.C_alloc ?_ _) | (with_reducible refine Kd.C_drewN ?_ _) | (with_reducible refine Kd.C_drew ?_))); (case side4 => exact HC8031.out); rintro e w' ⟨rfl, ⟨nd, rfl⟩⟩) | (go_at_call 16; (with_reducible refine (tinderref04_Same.calls _ _ x7_1 _ _ x8_1 t8033 _ ?side1 ?side2 ?side3 ?side4 A65.out).mono ?_); (case side1 => repeat (first | exact (Kd.R_reads' HO_7.out).2.2 | (with_reducible refine Kd.C_alloc ?_ _) | (with_reducible refine Kd.C_drewN ?_ _) | (with_reducible refine Kd.C_drew ?_))); (case side2 => exact (Kd.R_reads' HO_7.out).2.1); (case side3 => repeat (first | exact (Kd.R_reads' HO_8.out).2.2 | (with_reducible refine Kd.C_alloc ?_ _) | (with_reducible refine Kd.C_drewN ?_ _) | (with_reducible refine Kd.C_drew ?_))); (case side4 => exact (Kd.R_reads' HO_8.out).2.1); rintro e w' ⟨rfl, ⟨nd, rfl⟩⟩))
                            go_ret
                            exact ⟨by first | rfl | (simp [errW_none, errW_some] <;> rfl) | (simp only [← hji9]; first | rfl | (simp [errW_none, errW_some] <;> rfl)) | (simp [*, errW_none, errW_some] <;> rfl), by repeat (first | (with_reducible first | exact HB.out | apply below_alloc | apply pw_below_drewN | apply below_drew1 | refine below_set ?_ GE8001.out) | exact HB.out)⟩
                          · replace c64 := Bool.eq_false_iff.mpr c64
                            subst c64
                            have H1 : (some false) = some r := by rw [if_neg (show ¬ (false = true) by decide)] at H; exact H
                            clear H
                            have H := H1
                            clear H1
                            obtain rfl := Option.some.inj H
                            have hcz73_0 : wr.cell? ⟨gb8001, 0, none⟩ = some (.int .i64 a2_0) := (blk_cell BK8001.out 0).trans rfl
                            have hcz73_1 : wr.cell? ⟨gb8001, 1, none⟩ = some (.int .i64 a2_1) := (blk_cell BK8001.out 1).trans rfl
                            have hfz73_0 := blk_frozen BK8001.out 0
                            have hfz73_1 := blk_frozen BK8001.out 1
                            obtain ⟨Ao74, co74, eo74⟩ := Kd.R_slice HO_7.out
                            subst eo74
                            go_wp2_with (first | ((with_reducible refine gate_callee (f := 20) rfl ?_); refine goesL_ (some 100) rfl rfl Try.func20 (by kernel_rfl) rfl #[.slice Ao74 x7_1.length co74, .int .i64 a2_0, .int .i64 a2_1] rfl (by (try simp only [List.map_toArray, List.map_cons, List.map_nil]); first | done | rfl | (simp only [List.length_drop, List.length_take]; rfl)) ?_; (with_reducible refine (block_Get.calls k1 _ _ x7_1 a2_0 a2_1 t8023 t8024 _ ?side1 ?side2 A56.out).mono ?_); (case side1 => repeat (first | exact (Kd.R_reads' HO_7.out).2.2 | (with_reducible refine Kd.C_alloc ?_ _) | (with_reducible refine Kd.C_drewN ?_ _) | (with_reducible refine Kd.C_drew ?_))); (case side2 => exact (Kd.R_reads' HO_7.out).2.1); rintro e w75 ⟨v8025, rfl, ho0, hb⟩; refine ⟨_, rfl, ?_⟩; have n0_ := Aside0.mk (Kd.R_elder' (by (with_reducible repeat (first | apply Kd.R_alloc | apply Kd.R_drewN | apply Kd.R_drew)); exact HO_7.out) (Kd.R_base ho0) hb); have n1_ := Aside0.mk (Kd.R_elder' (by (with_reducible repeat (first | apply Kd.R_alloc | apply Kd.R_drewN | apply Kd.R_drew)); exact HO_8.out) (Kd.R_base ho0) hb); have n2_ := Aside0.mk (Kd.R_lower (Kd.R_new' (Kd.R_new' ho0 (Kd.R_lt (by (with_reducible repeat (first | apply Kd.R_alloc | apply Kd.R_drewN | apply Kd.R_drew)); exact HO_7.out))) (Kd.R_lt (by (with_reducible repeat (first | apply Kd.R_alloc | apply Kd.R_drewN | apply Kd.R_drew)); exact HO_8.out))) (below_size (by repeat (first | (with_reducible first | exact HB.out | apply below_alloc | apply pw_below_drewN | apply below_drew1 | refine below_set ?_ GE8001.out) | exact HB.out)))); have n3_ := Aside0.mk (blk_below (g := gb8001) (o := .cells #[.int .i64 a2_0, .int .i64 a2_1] 38 (0, 0)) (by (with_reducible repeat (first | refine blk_drewN ?_ _ | refine blk_drew ?_ | refine blk_alloc ?_ _)); exact BK8001.out) hb); have n4_ := Aside0.mk (below_step (by repeat (first | (with_reducible first | exact HB.out | apply below_alloc | apply pw_below_drewN | apply below_drew1 | refine below_set ?_ GE8001.out) | exact HB.out)) hb); clear HO_7; clear HO_8; clear BK8001; clear HB; have HO_7 := n0_; have HO_8 := n1_; have HO8026 := n2_; have BK8001 := n3_; have HB := n4_; clear n0_ n1_ n2_ n3_ n4_; (try clear hb); (try clear hb2); (try clear hk); (try clear hi); (try clear ho0); have hcz76_0 : w75.cell? ⟨gb8001, 0, none⟩ = some (.int .i64 a2_0) := (blk_cell BK8001.out 0).trans rfl; have hcz76_1 : w75.cell? ⟨gb8001, 1, none⟩ = some (.int .i64 a2_1) := (blk_cell BK8001.out 1).trans rfl; have hfz76_0 := blk_frozen BK8001.out 0; have hfz76_1 := blk_frozen BK8001.out 1; obtain ⟨Ao77, co77, eo77⟩ := Kd.R_slice HO_8.out; subst eo77) | ((with_reducible refine gate_callee (f := 23) rfl ?_); refine goesL_ (some 108) rfl rfl Try.func23 (by kernel_rfl) rfl #[.slice Ao77 x8_1.length co77, .int .i64 a2_0, .int .i64 a2_1] rfl (by (try simp only [List.map_toArray, List.map_cons, List.map_nil]); first | done | rfl | (simp only [List.length_drop, List.length_take]; rfl)) ?_; (with_reducible refine (tinderref20_In.calls _ _ x8_1 a2_0 a2_1 true _ ?side1 ?side2 A57.out).mono ?_); (case side1 => repeat (first | exact (Kd.R_reads' HO_8.out).2.2 | (with_reducible refine Kd.C_alloc ?_ _) | (with_reducible refine Kd.C_drewN ?_ _) | (with_reducible refine Kd.C_drew ?_))); (case side2 => exact (Kd.R_reads' HO_8.out).2.1); rintro e w' ⟨rfl, ⟨nd, rfl⟩⟩; refine ⟨_, rfl, ?_⟩; have q78 : ((wrap64 (a2_0 + a2_1)) : Int) ≤ ((x8_1.length : Int) : Int) := of_decide_eq_true (by first | (with_reducible assumption) | assumption); obtain ⟨i078, hi078, _, hsz78, _⟩ := info_parts info5; have hroom78 : x8_1.length ≤ co77 := (Kd.R_reads' HO_8.out).2.1; have hC78 : Kd.C (Kd.int .u8) _ Ao77 x8_1.length x8_1 := (Kd.R_reads' HO_8.out).2.2; have ql78 : (a2_0 : Int) ≤ ((wrap64 (a2_0 + a2_1)) : Int) := of_decide_eq_true (by first | (with_reducible assumption) | assumption); have q078 : (0 : Int) ≤ (a2_0 : Int) := of_decide_eq_true (by first | (with_reducible assumption) | assumption); have hcut78 := cut_mid (P := Try.prog) 30 5 .i64 .i64 Try.underlying30 hi078 1 hsz78 Ao77 x8_1.length co77 a2_0 (wrap64 (a2_0 + a2_1)) q078 ql78 q78 hroom78; have hr78 := Kd.C_mid (lo := (a2_0 : Int).toNat) (hi := ((wrap64 (a2_0 + a2_1)) : Int).toNat) (c := co77) hC78 (by omega) (by omega) hroom78; obtain ⟨A78, hA78⟩ : ∃ A1, A1 = (if co77 = (a2_0 : Int).toNat then Ao77 else (Ao77 : Option Addr).map (·.add ((a2_0 : Int).toNat * 1))) := ⟨_, rfl⟩; obtain ⟨c78, hc78⟩ : ∃ c1, c1 = co77 - (a2_0 : Int).toNat := ⟨_, rfl⟩; have hy78 : y8028.length = ((wrap64 (a2_0 + a2_1)) : Int).toNat - (a2_0 : Int).toNat := (by rw [Ny8028.out, List.length_drop, List.length_take] <;> omega); rw [show ((x8_1).take ((wrap64 (a2_0 + a2_1)) : Int).toNat).drop (a2_0 : Int).toNat = y8028 from Ny8028.out.symm] at hr78; replace hr78 : Kd.C (Kd.int .u8) _ A78 y8028.length y8028 := (by rw [hA78]; exact hr78); rw [← hy78, ← hA78, ← hc78] at hcut78; have HR8031 := Aside0.mk hr78; have HC8031 := Aside0.mk (show y8028.length ≤ c78 from by rw [hy78, hc78]; exact Nat.sub_le_sub_right (Nat.le_trans (by omega) hroom78) _); clear hr78 hC78 hroom78 hi078 hsz78 hc78; have KY78 := Aside0.mk hy78; have KA78 := Aside0.mk hA78; clear hy78 hA78; have KL78 := Aside0.mk (show ((wrap64 (a2_0 + a2_1)) : Int).toNat ≤ x8_1.length from by omega); have KM78 := Aside0.mk (show (a2_0 : Int).toNat ≤ ((wrap64 (a2_0 + a2_1)) : Int).toNat from by omega); replace q78 := eq_true q78; obtain ⟨Ao79, co79, eo79⟩ := Kd.R_slice HO8026.out; subst eo79) | (go_at_call 16; (with_reducible refine (tinderref04_Same.calls _ _ t8023 _ _ y8028 false _ ?side1 ?side2 ?side3 ?side4 A63.out).mono ?_); (case side1 => repeat (first | exact (Kd.R_reads' HO8026.out).2.2 | (with_reducible refine Kd.C_alloc ?_ _) | (with_reducible refine Kd.C_drewN ?_ _) | (with_reducible refine Kd.C_drew ?_))); (case side2 => exact (Kd.R_reads' HO8026.out).2.1); (case side3 => repeat (first | exact (by repeat (first | (with_reducible exact HR8031.out) | (with_reducible refine Kd.C_alloc ?_ _) | (with_reducible refine Kd.C_drewN ?_ _) | (with_reducible refine Kd.C_drew ?_) | exact HR8031.out)) | (with_reducible refine Kd.C_alloc ?_ _) | (with_reducible refine Kd.C_drewN ?_ _) | (with_reducible refine Kd.C_drew ?_))); (case side4 => exact HC8031.out); rintro e w' ⟨rfl, ⟨nd, rfl⟩⟩))
                            go_ret
                            exact ⟨by first | rfl | (simp [errW_none, errW_some] <;> rfl) | (simp only [← hji9]; first | rfl | (simp [errW_none, errW_some] <;> rfl)) | (simp [*, errW_none, errW_some] <;> rfl), by repeat (first | (with_reducible first | exact HB.out | apply below_alloc | apply pw_below_drewN | apply below_drew1 | refine below_set ?_ GE8001.out) | exact HB.out)⟩
                        · rw [if_neg c62] at H
                          exact absurd H (by simp)
                      · rw [if_neg c61] at H
                        exact absurd H (by simp)
                    · rw [if_neg c60] at H
                      exact absurd H (by simp)
                  · rw [if_neg c59] at H
                    have c59b0 : (t8024 == 0) = false := beq_eq_false_iff_ne.mpr c59
                    have c59b1 : (t8024 != 0) = true := bne_iff_ne.mpr c59
                    obtain rfl := Option.some.inj H
                    have hcz80_0 : wr.cell? ⟨gb8001, 0, none⟩ = some (.int .i64 a2_0) := (blk_cell BK8001.out 0).trans rfl
                    have hcz80_1 : wr.cell? ⟨gb8001, 1, none⟩ = some (.int .i64 a2_1) := (blk_cell BK8001.out 1).trans rfl
                    have hfz80_0 := blk_frozen BK8001.out 0
                    have hfz80_1 := blk_frozen BK8001.out 1
                    obtain ⟨Ao81, co81, eo81⟩ := Kd.R_slice HO_7.out
                    subst eo81
                    go_wp2_with (first | ((with_reducible refine gate_callee (f := 20) rfl ?_); refine goesL_ (some 100) rfl rfl Try.func20 (by kernel_rfl) rfl #[.slice Ao81 x7_1.length co81, .int .i64 a2_0, .int .i64 a2_1] rfl (by (try simp only [List.map_toArray, List.map_cons, List.map_nil]); first | done | rfl | (simp only [List.length_drop, List.length_take]; rfl)) ?_; (with_reducible refine (block_Get.calls k1 _ _ x7_1 a2_0 a2_1 t8023 t8024 _ ?side1 ?side2 A56.out).mono ?_); (case side1 => repeat (first | exact (Kd.R_reads' HO_7.out).2.2 | (with_reducible refine Kd.C_alloc ?_ _) | (with_reducible refine Kd.C_drewN ?_ _) | (with_reducible refine Kd.C_drew ?_))); (case side2 => exact (Kd.R_reads' HO_7.out).2.1); rintro e w82 ⟨v8025, rfl, ho0, hb⟩; refine ⟨_, rfl, ?_⟩; have n0_ := Aside0.mk (Kd.R_elder' (by (with_reducible repeat (first | apply Kd.R_alloc | apply Kd.R_drewN | apply Kd.R_drew)); exact HO_7.out) (Kd.R_base ho0) hb); have n1_ := Aside0.mk (Kd.R_elder' (by (with_reducible repeat (first | apply Kd.R_alloc | apply Kd.R_drewN | apply Kd.R_drew)); exact HO_8.out) (Kd.R_base ho0) hb); have n2_ := Aside0.mk (Kd.R_lower (Kd.R_new' (Kd.R_new' ho0 (Kd.R_lt (by (with_reducible repeat (first | apply Kd.R_alloc | apply Kd.R_drewN | apply Kd.R_drew)); exact HO_7.out))) (Kd.R_lt (by (with_reducible repeat (first | apply Kd.R_alloc | apply Kd.R_drewN | apply Kd.R_drew)); exact HO_8.out))) (below_size (by repeat (first | (with_reducible first | exact HB.out | apply below_alloc | apply pw_below_drewN | apply below_drew1 | refine below_set ?_ GE8001.out) | exact HB.out)))); have n3_ := Aside0.mk (blk_below (g := gb8001) (o := .cells #[.int .i64 a2_0, .int .i64 a2_1] 38 (0, 0)) (by (with_reducible repeat (first | refine blk_drewN ?_ _ | refine blk_drew ?_ | refine blk_alloc ?_ _)); exact BK8001.out) hb); have n4_ := Aside0.mk (below_step (by repeat (first | (with_reducible first | exact HB.out | apply below_alloc | apply pw_below_drewN | apply below_drew1 | refine below_set ?_ GE8001.out) | exact HB.out)) hb); clear HO_7; clear HO_8; clear BK8001; clear HB; have HO_7 := n0_; have HO_8 := n1_; have HO8026 := n2_; have BK8001 := n3_; have HB := n4_; clear n0_ n1_ n2_ n3_ n4_; (try clear hb); (try clear hb2); (try clear hk); (try clear hi); (try clear ho0); have hcz83_0 : w82.cell? ⟨gb8001, 0, none⟩ = some (.int .i64 a2_0) := (blk_cell BK8001.out 0).trans rfl; have hcz83_1 : w82.cell? ⟨gb8001, 1, none⟩ = some (.int .i64 a2_1) := (blk_cell BK8001.out 1).trans rfl; have hfz83_0 := blk_frozen BK8001.out 0; have hfz83_1 := blk_frozen BK8001.out 1; obtain ⟨Ao84, co84, eo84⟩ := Kd.R_slice HO_8.out; subst eo84) | ((with_reducible refine gate_callee (f := 23) rfl ?_); refine goesL_ (some 108) rfl rfl Try.func23 (by kernel_rfl) rfl #[.slice Ao84 x8_1.length co84, .int .i64 a2_0, .int .i64 a2_1] rfl (by (try simp only [List.map_toArray, List.map_cons, List.map_nil]); first | done | rfl | (simp only [List.length_drop, List.length_take]; rfl)) ?_; (with_reducible refine (tinderref20_In.calls _ _ x8_1 a2_0 a2_1 true _ ?side1 ?side2 A57.out).mono ?_); (case side1 => repeat (first | exact (Kd.R_reads' HO_8.out).2.2 | (with_reducible refine Kd.C_alloc ?_ _) | (with_reducible refine Kd.C_drewN ?_ _) | (with_reducible refine Kd.C_drew ?_))); (case side2 => exact (Kd.R_reads' HO_8.out).2.1); rintro e w' ⟨rfl, ⟨nd, rfl⟩⟩; refine ⟨_, rfl, ?_⟩))
                    go_ret
                    exact ⟨by first | rfl | (simp [errW_none, errW_some] <;> rfl) | (simp only [← hji9]; first | rfl | (simp [errW_none, errW_some] <;> rfl)) | (simp [*, errW_none, errW_some] <;> rfl), by repeat (first | (with_reducible first | exact HB.out | apply below_alloc | apply pw_below_drewN | apply below_drew1 | refine below_set ?_ GE8001.out) | exact HB.out)⟩
                · replace c58 := Bool.eq_false_iff.mpr c58
                  subst c58
                  have H1 : (if t8024 = 23 then (some ((t8023.length : Int) == 0)) else (some false)) = some r := by rw [if_neg (show ¬ (false = true) by decide)] at H; exact H
                  clear H
                  have H := H1
                  clear H1
                  by_cases c85 : t8024 = 23
                  · rw [if_pos c85] at H
                    have c85b0 : (t8024 == 23) = true := beq_iff_eq.mpr c85
                    have c85b1 : (t8024 != 23) = false := bne_eq_false_iff_eq.mpr c85
                    clear c85
                    obtain rfl := Option.some.inj H
                    have hcz86_0 : wr.cell? ⟨gb8001, 0, none⟩ = some (.int .i64 a2_0) := (blk_cell BK8001.out 0).trans rfl
                    have hcz86_1 : wr.cell? ⟨gb8001, 1, none⟩ = some (.int .i64 a2_1) := (blk_cell BK8001.out 1).trans rfl
                    have hfz86_0 := blk_frozen BK8001.out 0
                    have hfz86_1 := blk_frozen BK8001.out 1
                    obtain ⟨Ao87, co87, eo87⟩ := Kd.R_slice HO_7.out
                    subst eo87
                    go_wp2_with (first | ((with_reducible refine gate_callee (f := 20) rfl ?_); refine goesL_ (some 100) rfl rfl Try.func20 (by kernel_rfl) rfl #[.slice Ao87 x7_1.length co87, .int .i64 a2_0, .int .i64 a2_1] rfl (by (try simp only [List.map_toArray, List.map_cons, List.map_nil]); first | done | rfl | (simp only [List.length_drop, List.length_take]; rfl)) ?_; (with_reducible refine (block_Get.calls k1 _ _ x7_1 a2_0 a2_1 t8023 t8024 _ ?side1 ?side2 A56.out).mono ?_); (case side1 => repeat (first | exact (Kd.R_reads' HO_7.out).2.2 | (with_reducible refine Kd.C_alloc ?_ _) | (with_reducible refine Kd.C_drewN ?_ _) | (with_reducible refine Kd.C_drew ?_))); (case side2 => exact (Kd.R_reads' HO_7.out).2.1); rintro e w88 ⟨v8025, rfl, ho0, hb⟩; refine ⟨_, rfl, ?_⟩; have n0_ := Aside0.mk (Kd.R_elder' (by (with_reducible repeat (first | apply Kd.R_alloc | apply Kd.R_drewN | apply Kd.R_drew)); exact HO_7.out) (Kd.R_base ho0) hb); have n1_ := Aside0.mk (Kd.R_elder' (by (with_reducible repeat (first | apply Kd.R_alloc | apply Kd.R_drewN | apply Kd.R_drew)); exact HO_8.out) (Kd.R_base ho0) hb); have n2_ := Aside0.mk (Kd.R_lower (Kd.R_new' (Kd.R_new' ho0 (Kd.R_lt (by (with_reducible repeat (first | apply Kd.R_alloc | apply Kd.R_drewN | apply Kd.R_drew)); exact HO_7.out))) (Kd.R_lt (by (with_reducible repeat (first | apply Kd.R_alloc | apply Kd.R_drewN | apply Kd.R_drew)); exact HO_8.out))) (below_size (by repeat (first | (with_reducible first | exact HB.out | apply below_alloc | apply pw_below_drewN | apply below_drew1 | refine below_set ?_ GE8001.out) | exact HB.out)))); have n3_ := Aside0.mk (blk_below (g := gb8001) (o := .cells #[.int .i64 a2_0, .int .i64 a2_1] 38 (0, 0)) (by (with_reducible repeat (first | refine blk_drewN ?_ _ | refine blk_drew ?_ | refine blk_alloc ?_ _)); exact BK8001.out) hb); have n4_ := Aside0.mk (below_step (by repeat (first | (with_reducible first | exact HB.out | apply below_alloc | apply pw_below_drewN | apply below_drew1 | refine below_set ?_ GE8001.out) | exact HB.out)) hb); clear HO_7; clear HO_8; clear BK8001; clear HB; have HO_7 := n0_; have HO_8 := n1_; have HO8026 := n2_; have BK8001 := n3_; have HB := n4_; clear n0_ n1_ n2_ n3_ n4_; (try clear hb); (try clear hb2); (try clear hk); (try clear hi); (try clear ho0); have hcz89_0 : w88.cell? ⟨gb8001, 0, none⟩ = some (.int .i64 a2_0) := (blk_cell BK8001.out 0).trans rfl; have hcz89_1 : w88.cell? ⟨gb8001, 1, none⟩ = some (.int .i64 a2_1) := (blk_cell BK8001.out 1).trans rfl; have hfz89_0 := blk_frozen BK8001.out 0; have hfz89_1 := blk_frozen BK8001.out 1; obtain ⟨Ao90, co90, eo90⟩ := Kd.R_slice HO_8.out; subst eo90) | ((with_reducible refine gate_callee (f := 23) rfl ?_); refine goesL_ (some 108) rfl rfl Try.func23 (by kernel_rfl) rfl #[.slice Ao90 x8_1.length co90, .int .i64 a2_0, .int .i64 a2_1] rfl (by (try simp only [List.map_toArray, List.map_cons, List.map_nil]); first | done | rfl | (simp only [List.length_drop, List.length_take]; rfl)) ?_; (with_reducible refine (tinderref20_In.calls _ _ x8_1 a2_0 a2_1 false _ ?side1 ?side2 A57.out).mono ?_); (case side1 => repeat (first | exact (Kd.R_reads' HO_8.out).2.2 | (with_reducible refine Kd.C_alloc ?_ _) | (with_reducible refine Kd.C_drewN ?_ _) | (with_reducible refine Kd.C_drew ?_))); (case side2 => exact (Kd.R_reads' HO_8.out).2.1); rintro e w' ⟨rfl, ⟨nd, rfl⟩⟩; refine ⟨_, rfl, ?_⟩; obtain ⟨Ao91, co91, eo91⟩ := Kd.R_slice HO8026.out; subst eo91))
                    go_ret
                    exact ⟨by first | rfl | (simp [errW_none, errW_some] <;> rfl) | (simp only [← hji9]; first | rfl | (simp [errW_none, errW_some] <;> rfl)) | (simp [*, errW_none, errW_some] <;> rfl), by repeat (first | (with_reducible first | exact HB.out | apply below_alloc | apply pw_below_drewN | apply below_drew1 | refine below_set ?_ GE8001.out) | exact HB.out)⟩
                  · rw [if_neg c85] at H
                    have c85b0 : (t8024 == 23) = false := beq_eq_false_iff_ne.mpr c85
                    have c85b1 : (t8024 != 23) = true := bne_iff_ne.mpr c85
                    obtain rfl := Option.some.inj H
                    have hcz92_0 : wr.cell? ⟨gb8001, 0, none⟩ = some (.int .i64 a2_0) := (blk_cell BK8001.out 0).trans rfl
                    have hcz92_1 : wr.cell? ⟨gb8001, 1, none⟩ = some (.int .i64 a2_1) := (blk_cell BK8001.out 1).trans rfl
                    have hfz92_0 := blk_frozen BK8001.out 0
                    have hfz92_1 := blk_frozen BK8001.out 1
                    obtain ⟨Ao93, co93, eo93⟩ := Kd.R_slice HO_7.out
                    subst eo93
                    go_wp2_with (first | ((with_reducible refine gate_callee (f := 20) rfl ?_); refine goesL_ (some 100) rfl rfl Try.func20 (by kernel_rfl) rfl #[.slice Ao93 x7_1.length co93, .int .i64 a2_0, .int .i64 a2_1] rfl (by (try simp only [List.map_toArray, List.map_cons, List.map_nil]); first | done | rfl | (simp only [List.length_drop, List.length_take]; rfl)) ?_; (with_reducible refine (block_Get.calls k1 _ _ x7_1 a2_0 a2_1 t8023 t8024 _ ?side1 ?side2 A56.out).mono ?_); (case side1 => repeat (first | exact (Kd.R_reads' HO_7.out).2.2 | (with_reducible refine Kd.C_alloc ?_ _) | (with_reducible refine Kd.C_drewN ?_ _) | (with_reducible refine Kd.C_drew ?_))); (case side2 => exact (Kd.R_reads' HO_7.out).2.1); rintro e w94 ⟨v8025, rfl, ho0, hb⟩; refine ⟨_, rfl, ?_⟩; have n0_ := Aside0.mk (Kd.R_elder' (by (with_reducible repeat (first | apply Kd.R_alloc | apply Kd.R_drewN | apply Kd.R_drew)); exact HO_7.out) (Kd.R_base ho0) hb); have n1_ := Aside0.mk (Kd.R_elder' (by (with_reducible repeat (first | apply Kd.R_alloc | apply Kd.R_drewN | apply Kd.R_drew)); exact HO_8.out) (Kd.R_base ho0) hb); have n2_ := Aside0.mk (Kd.R_lower (Kd.R_new' (Kd.R_new' ho0 (Kd.R_lt (by (with_reducible repeat (first | apply Kd.R_alloc | apply Kd.R_drewN | apply Kd.R_drew)); exact HO_7.out))) (Kd.R_lt (by (with_reducible repeat (first | apply Kd.R_alloc | apply Kd.R_drewN | apply Kd.R_drew)); exact HO_8.out))) (below_size (by repeat (first | (with_reducible first | exact HB.out | apply below_alloc | apply pw_below_drewN | apply below_drew1 | refine below_set ?_ GE8001.out) | exact HB.out)))); have n3_ := Aside0.mk (blk_below (g := gb8001) (o := .cells #[.int .i64 a2_0, .int .i64 a2_1] 38 (0, 0)) (by (with_reducible repeat (first | refine blk_drewN ?_ _ | refine blk_drew ?_ | refine blk_alloc ?_ _)); exact BK8001.out) hb); have n4_ := Aside0.mk (below_step (by repeat (first | (with_reducible first | exact HB.out | apply below_alloc | apply pw_below_drewN | apply below_drew1 | refine below_set ?_ GE8001.out) | exact HB.out)) hb); clear HO_7; clear HO_8; clear BK8001; clear HB; have HO_7 := n0_; have HO_8 := n1_; have HO8026 := n2_; have BK8001 := n3_; have HB := n4_; clear n0_ n1_ n2_ n3_ n4_; (try clear hb); (try clear hb2); (try clear hk); (try clear hi); (try clear ho0); have hcz95_0 : w94.cell? ⟨gb8001, 0, none⟩ = some (.int .i64 a2_0) := (blk_cell BK8001.out 0).trans rfl; have hcz95_1 : w94.cell? ⟨gb8001, 1, none⟩ = some (.int .i64 a2_1) := (blk_cell BK8001.out 1).trans rfl; have hfz95_0 := blk_frozen BK8001.out 0; have hfz95_1 := blk_frozen BK8001.out 1; obtain ⟨Ao96, co96, eo96⟩ := Kd.R_slice HO_8.out; subst eo96) | ((with_reducible refine gate_callee (f := 23) rfl ?_); refine goesL_ (some 108) rfl rfl Try.func23 (by kernel_rfl) rfl #[.slice Ao96 x8_1.length co96, .int .i64 a2_0, .int .i64 a2_1] rfl (by (try simp only [List.map_toArray, List.map_cons, List.map_nil]); first | done | rfl | (simp only [List.length_drop, List.length_take]; rfl)) ?_; (with_reducible refine (tinderref20_In.calls _ _ x8_1 a2_0 a2_1 false _ ?side1 ?side2 A57.out).mono ?_); (case side1 => repeat (first | exact (Kd.R_reads' HO_8.out).2.2 | (with_reducible refine Kd.C_alloc ?_ _) | (with_reducible refine Kd.C_drewN ?_ _) | (with_reducible refine Kd.C_drew ?_))); (case side2 => exact (Kd.R_reads' HO_8.out).2.1); rintro e w' ⟨rfl, ⟨nd, rfl⟩⟩; refine ⟨_, rfl, ?_⟩))
                    go_ret
                    exact ⟨by first | rfl | (simp [errW_none, errW_some] <;> rfl) | (simp only [← hji9]; first | rfl | (simp [errW_none, errW_some] <;> rfl)) | (simp [*, errW_none, errW_some] <;> rfl), by repeat (first | (with_reducible first | exact HB.out | apply below_alloc | apply pw_below_drewN | apply below_drew1 | refine below_set ?_ GE8001.out) | exact HB.out)⟩
        · rw [if_neg c11] at H
          exact absurd H (by simp)
      · rw [if_neg c10] at H
        exact absurd H (by simp)
  · replace c5 := Bool.eq_false_iff.mpr c5
    subst c5
    have H1 : (some false) = some r := by rw [if_neg (show ¬ (false = true) by decide)] at H; exact H
    clear H
    have H := H1
    clear H1
    obtain rfl := Option.some.inj H
    go_enter Try.func7, Try.ntmps7
    go_wp2_with (first | ((with_reducible refine gate_dst (N := 5) rfl ?_); (try (refine gate_guard (by rfl) ?_; dsimp only)); refine box_event ?hg (N := 5) ?hd (cs := #[.int .i64 a2_0, .int .i64 a2_1]) (t := 38) ?hr ?_; (case hd => rfl); (case hg => rfl); (case hr => first | (go_simp; done) | (go_simp; rfl)); intro gb8001 hg w97 hbox hb; have n0_ := Aside0.mk (below_step (by repeat (first | (with_reducible first | exact HB.out | apply below_alloc | apply pw_below_drewN | apply below_drew1) | exact HB.out)) hb); have n1_ := Aside0.mk (hbox); have n2_ := Aside0.mk ((by rw [hg]; exact (below_size (by repeat (first | (with_reducible first | exact HB.out | apply below_alloc | apply pw_below_drewN | apply below_drew1) | exact HB.out))) : w.heap.size ≤ gb8001)); have n3_ := Aside0.mk ((by rw [hg]; exact (below_size (by repeat (first | (with_reducible first | exact HB.out | apply below_alloc | apply pw_below_drewN | apply below_drew1) | exact HB.out))) : w.heap.size ≤ gb8001)); clear HB; have HB := n0_; have BK8001 := n1_; have GW8001 := n2_; have GE8001 := n3_; clear n0_ n1_ n2_ n3_; clear hb hbox hg) | ((with_reducible refine gate_callee (f := 8) rfl ?_); refine goesL_ (some 15) rfl rfl Try.func8 (by kernel_rfl) rfl #[] rfl (by (try simp only [List.map_toArray, List.map_cons, List.map_nil]); first | done | rfl | (simp only [List.length_drop, List.length_take]; rfl)) ?_; (with_reducible refine (tinderlaw20_alive.calls k  false _ A4.out).mono ?_); rintro e w98 ⟨rfl, hb⟩; refine ⟨_, rfl, ?_⟩; have n0_ := Aside0.mk (blk_below (g := gb8001) (o := .cells #[.int .i64 a2_0, .int .i64 a2_1] 38 (0, 0)) (by (with_reducible repeat (first | refine blk_drewN ?_ _ | refine blk_drew ?_ | refine blk_alloc ?_ _)); exact BK8001.out) hb); have n1_ := Aside0.mk (below_step (by repeat (first | (with_reducible first | exact HB.out | apply below_alloc | apply pw_below_drewN | apply below_drew1 | refine below_set ?_ GE8001.out) | exact HB.out)) hb); clear BK8001; clear HB; have BK8001 := n0_; have HB := n1_; clear n0_ n1_; (try clear hb); (try clear hb2); (try clear hk); (try clear hi)))
    go_ret
    exact ⟨by first | rfl | (simp [errW_none, errW_some] <;> rfl) | (simp [*, errW_none, errW_some] <;> rfl), by repeat (first | (with_reducible first | exact HB.out | apply below_alloc | apply pw_below_drewN | apply below_drew1 | refine below_set ?_ GE8001.out) | exact HB.out)⟩

end Go.Proofs.Ytpjlhehmobhijaa.Q
