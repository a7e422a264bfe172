/- What Go functions of this program answer, as plain Lean functions, and that the calls answer so, wherever the plain function has an answer. Written by a program of this claim's own out of the translation. -/
import Derived.Test.YtlpagilpbdiniaaQ0
import Derived.Test.YtlpagilpbdiniaaQNvramApply
import Derived.Test.YtlpagilpbdiniaaQTinderlaw18Alive
import Derived.Test.YtlpagilpbdiniaaQTinderref04Same
import Derived.Test.YtlpagilpbdiniaaQTinderref18Sum
import Derived.Test.YtlpagilpbdiniaaHNvPlanC
import Derived.Test.YtlpagilpbdiniaaHNvRecC
namespace Go.Proofs.Ytlpagilpbdiniaa.Q
open Go.RowKit Go.Proofs.YtlpagilpbdiniaaW.PrintWords Go.Proofs.YtlpagilpbdiniaaW.PrintLast Go.Proofs.YtlpagilpbdiniaaW.PrintMore
set_option linter.unusedVariables false
set_option linter.unusedSimpArgs false

attribute [local go_sem] max2_int min2_int max_two min_two max_three min_three max_four min_four
/-! ### tinderlaw18_NvramTells: function 9 -/
def tinderlaw18_NvramTells.j0 : Nat → List Int → Int → Int → List Int → List (S62) → Bool → Option (Bool)
  | 0, _, _, _, _, _, _ => none
  | k + 1, x0, x1, x2, x7, x8, x29 => if x29 = true then (some true) else ((nvram_Apply.f k x7 x8 (x8.length : Int)).bind fun t10009 => (if 0 ≤ (Int.tmod (wrap64 (x1)) 256) then (if (Int.tmod (wrap64 (x1)) 256) < (t10009.length : Int) then ((some (t10009.set ((Int.tmod (wrap64 (x1)) 256) : Int).toNat (Go.bits .xor .u8 (rd t10009 (Int.tmod (wrap64 (x1)) 256)) x2) : List Int)).bind fun y10013 => ((nvram_Recover.f y10013).bind fun bt10014 => (if (Int.tmod (wrap64 (x1)) 256) ≥ (wrap64 (8 + (x0.length : Int))) then (if bt10014.2.2 = true then ((tinderref04_Same.f bt10014.1 x0).bind fun t10019 => (some t10019)) else (some false)) else (if 2 < (t10009.length : Int) then (if 3 < (t10009.length : Int) then (if (Int.tmod (wrap64 (x1)) 256) < 4 then (if (Int.tmod (wrap64 (x1)) 256) > 0 then (if (wrap64 ((wrap64 (256 * (wrap64 (rd y10013 2)))) + (wrap64 (rd y10013 3)))) ≤ 248 then (if 1 < (t10009.length : Int) then (if 8 ≤ (wrap64 (8 + (wrap64 ((wrap64 (256 * (wrap64 (rd y10013 2)))) + (wrap64 (rd y10013 3)))))) then (if (wrap64 (8 + (wrap64 ((wrap64 (256 * (wrap64 (rd y10013 2)))) + (wrap64 (rd y10013 3)))))) ≤ (t10009.length : Int) then ((tinderref18_Sum.f k (rd y10013 1) ((y10013.take ((wrap64 (8 + (wrap64 ((wrap64 (256 * (wrap64 (rd y10013 2)))) + (wrap64 (rd y10013 3)))))) : Int).toNat).drop 8)).bind fun t10027 => (if 4 < (t10009.length : Int) then (if 5 < (t10009.length : Int) then (if 6 < (t10009.length : Int) then (if 7 < (t10009.length : Int) then (some (bt10014.2.2 == (t10027 == ((((((((((rd y10013 4) % 4294967296) * 16777216) % 4294967296) + ((((rd y10013 5) % 4294967296) * 65536) % 4294967296)) % 4294967296) + ((((rd y10013 6) % 4294967296) * 256) % 4294967296)) % 4294967296) + ((rd y10013 7) % 4294967296)) % 4294967296)))) else (none)) else (none)) else (none)) else (none))) else (none)) else (none)) else (none)) else (if bt10014.2.2 = true then (some false) else (some ((bt10014.1.length : Int) == 0)))) else (if bt10014.2.2 = true then (some false) else (some ((bt10014.1.length : Int) == 0)))) else (if bt10014.2.2 = true then (some false) else (some ((bt10014.1.length : Int) == 0)))) else (none)) else (none))))) else (none)) else (none)))
def tinderlaw18_NvramTells.f (k : Nat) (l0 : List Int) (a1 : Int) (a2 : Int) : Option (Bool) := (tinderlaw18_alive.f k).bind fun t10001 => (if t10001 = true then (if 512 ≤ 281474976710656 then ((some (List.replicate 512 0 : List Int)).bind fun y10002 => ((nvram_Plan.f y10002 l0).bind fun bt10005 => (if bt10005.2 = 0 then (tinderlaw18_NvramTells.j0 k l0 a1 a2 y10002 bt10005.1 (a2 == 0)) else (tinderlaw18_NvramTells.j0 k l0 a1 a2 y10002 bt10005.1 true)))) else (none)) else (some false))
theorem tinderlaw18_NvramTells.mono_l : ∀ k, (∀ y0 y1 y2 y3 y4 y5, LeO (tinderlaw18_NvramTells.j0 k y0 y1 y2 y3 y4 y5) (tinderlaw18_NvramTells.j0 (k + 1) y0 y1 y2 y3 y4 y5))
  | 0 => fun _ _ _ _ _ _ r h => by simp [tinderlaw18_NvramTells.j0] at h
  | k + 1 => by
    have ih0 := tinderlaw18_NvramTells.mono_l k
    · intro y0 y1 y2 y3 y4 y5
      unfold tinderlaw18_NvramTells.j0
      repeat' first
      | (with_reducible exact ih0 _ _ _ _ _ _)
      | (with_reducible exact nvram_Apply.mono _ _ _ _)
      | (with_reducible exact tinderlaw18_alive.mono _)
      | (with_reducible exact tinderref18_Sum.mono _ _ _)
      | (with_reducible exact LeO.refl _)
      | (with_reducible exact LeO.none _)
      | (with_reducible refine LeO.ite ?_ ?_)
      | (with_reducible refine LeO.bind ?_ (fun _ => ?_))
      | exact ih0 _ _ _ _ _ _
      | exact nvram_Apply.mono _ _ _ _
      | exact tinderlaw18_alive.mono _
      | exact tinderref18_Sum.mono _ _ _
      | exact LeO.none _
      | refine LeO.ite ?_ ?_
      | refine LeO.bind ?_ (fun _ => ?_)
theorem tinderlaw18_NvramTells.mono : ∀ a0 a1 a2 k, LeO (tinderlaw18_NvramTells.f k a0 a1 a2) (tinderlaw18_NvramTells.f (k + 1) a0 a1 a2) := by
  intro a0 a1 a2 k
  have ih0 := tinderlaw18_NvramTells.mono_l k
  unfold tinderlaw18_NvramTells.f
  repeat' first
      | (with_reducible exact ih0 _ _ _ _ _ _)
      | (with_reducible exact nvram_Apply.mono _ _ _ _)
      | (with_reducible exact tinderlaw18_alive.mono _)
      | (with_reducible exact tinderref18_Sum.mono _ _ _)
      | (with_reducible exact LeO.refl _)
      | (with_reducible exact LeO.none _)
      | (with_reducible refine LeO.ite ?_ ?_)
      | (with_reducible refine LeO.bind ?_ (fun _ => ?_))
      | exact ih0 _ _ _ _ _ _
      | exact nvram_Apply.mono _ _ _ _
      | exact tinderlaw18_alive.mono _
      | exact tinderref18_Sum.mono _ _ _
      | exact LeO.none _
      | refine LeO.ite ?_ ?_
      | refine LeO.bind ?_ (fun _ => ?_)
def tinderlaw18_NvramTells.T13 : Bool × List (List Nat × List Nat) := (true, [([], []), ([0], [0]), ([1], [1]), ([2], [2]), ([3], [3]), ([], []), ([5], [5]), ([6], [6]), ([7], [7]), ([4, 8], [4, 8]), ([9, 0, 1, 2, 3, 4, 5, 6, 7, 8, 9], [9])])
def tinderlaw18_NvramTells.B13 : List Nat := [0, 1, 3, 7, 15, 0, 32, 96, 224, 511, 1023]
theorem tinderlaw18_NvramTells.tab13 : rtab .any (opsOf Try.f9 13) = tinderlaw18_NvramTells.T13 := by kernel_rfl
theorem tinderlaw18_NvramTells.bits13 : waitsOk tinderlaw18_NvramTells.T13.2 tinderlaw18_NvramTells.B13 = true := by kernel_rfl
def tinderlaw18_NvramTells.T15 : Bool × List (List Nat × List Nat) := (true, [([], []), ([], []), ([1], [1]), ([2], [2]), ([], []), ([], []), ([5], [5]), ([4, 6], [4, 6]), ([3, 7], [3, 7]), ([], []), ([9], [9]), ([10], [10]), ([11], [11]), ([12], [12]), ([], []), ([14], [14]), ([15], [15]), ([16], [16]), ([17], [17]), ([13, 18], [13, 18]), ([], []), ([20], [20]), ([21], [21]), ([22], [22]), ([23], [23]), ([19, 24], [19, 24]), ([], []), ([26], [26]), ([27], [27]), ([28], [28]), ([25, 29], [25, 29]), ([8, 30], [8, 30]), ([0, 31], [0, 31]), ([32, 8, 0, 1, 2, 3, 4, 5, 6, 7, 8, 9, 10, 11, 12, 13, 14, 15, 16, 17, 18, 19, 20, 21, 22, 23, 24, 25, 26, 27, 28, 29, 30, 31, 32], [32])])
def tinderlaw18_NvramTells.B15 : List Nat := [0, 0, 2, 6, 0, 0, 32, 112, 254, 0, 512, 1536, 3584, 7680, 0, 16384, 49152, 114688, 245760, 523776, 0, 1048576, 3145728, 7340032, 15728640, 33553920, 0, 67108864, 201326592, 469762048, 1073741312, 2147483646, 4294967295, 8589934591]
theorem tinderlaw18_NvramTells.tab15 : rtab .any (opsOf Try.f9 15) = tinderlaw18_NvramTells.T15 := by kernel_rfl
theorem tinderlaw18_NvramTells.bits15 : waitsOk tinderlaw18_NvramTells.T15.2 tinderlaw18_NvramTells.B15 = true := by kernel_rfl
set_option maxHeartbeats 8000000 in
set_option maxRecDepth 100000 in
theorem tinderlaw18_NvramTells.calls (k : Nat) (A0 : Option Addr) (c0 : Nat) (l0 : List Int) (a1 : Int) (a2 : Int) (r : Bool) (w : World) (hr0 : Kd.C (Kd.int .u8) w A0 l0.length l0) (hc0 : l0.length ≤ c0) (h : tinderlaw18_NvramTells.f k l0 a1 a2 = some r) :
    Calls Try.prog 9 #[.slice A0 l0.length c0, .int .u16 a1, .int .u8 a2] w fun e w' => e = .returned (.bool r) ∧ Below w.heap.size w w' := by
  have HR0 := Aside0.mk hr0
  have HC0 := Aside0.mk hc0
  clear hr0 hc0
  have HB := Aside0.mk (Below.refl w.heap.size w)
  have H : ((tinderlaw18_alive.f k).bind fun t10001 => (if t10001 = true then (if 512 ≤ 281474976710656 then ((some (List.replicate 512 0 : List Int)).bind fun y10002 => ((nvram_Plan.f y10002 l0).bind fun bt10005 => (if bt10005.2 = 0 then (tinderlaw18_NvramTells.j0 k l0 a1 a2 y10002 bt10005.1 (a2 == 0)) else (tinderlaw18_NvramTells.j0 k l0 a1 a2 y10002 bt10005.1 true)))) else (none)) else (some false))) = some r := h
  clear h
  replace H := Option.bind_eq_some_iff.mp H
  obtain ⟨t10001, A40, H⟩ := H
  replace H : (if t10001 = true then (if 512 ≤ 281474976710656 then ((some (List.replicate 512 0 : List Int)).bind fun y10002 => ((nvram_Plan.f y10002 l0).bind fun bt10005 => (if bt10005.2 = 0 then (tinderlaw18_NvramTells.j0 k l0 a1 a2 y10002 bt10005.1 (a2 == 0)) else (tinderlaw18_NvramTells.j0 k l0 a1 a2 y10002 bt10005.1 true)))) else (none)) else (some false)) = some r := H
  have A4 := Aside0.mk A40
  clear A40
  by_cases c5 : t10001 = true
  · subst c5
    have H1 : (if 512 ≤ 281474976710656 then ((some (List.replicate 512 0 : List Int)).bind fun y10002 => ((nvram_Plan.f y10002 l0).bind fun bt10005 => (if bt10005.2 = 0 then (tinderlaw18_NvramTells.j0 k l0 a1 a2 y10002 bt10005.1 (a2 == 0)) else (tinderlaw18_NvramTells.j0 k l0 a1 a2 y10002 bt10005.1 true)))) else (none)) = some r := by rw [if_pos rfl] at H; exact H
    clear H
    have H := H1
    clear H1
    by_cases c6 : 512 ≤ 281474976710656
    · rw [if_pos c6] at H
      have c6b0 := eq_true c6
      have c6b1 : decide (512 ≤ 281474976710656) = true := decide_eq_true c6
      clear c6
      obtain ⟨y10002, hy10002⟩ : ∃ y_ : List Int, y_ = (List.replicate 512 0) := ⟨_, rfl⟩
      replace H : ((nvram_Plan.f y10002 l0).bind fun bt10005 => (if bt10005.2 = 0 then (tinderlaw18_NvramTells.j0 k l0 a1 a2 y10002 bt10005.1 (a2 == 0)) else (tinderlaw18_NvramTells.j0 k l0 a1 a2 y10002 bt10005.1 true))) = some r := by first | (rw [hy10002]; with_reducible exact H) | (have H2_ := (Option.bind_some _ _).symm.trans H; rw [hy10002]; with_reducible exact H2_) | (have H2_ := (Option.bind_some _ _).symm.trans H; with_reducible exact H2_) | with_reducible exact H | (rw [hy10002]; exact H) | exact H
      have Ny10002 := Aside0.mk hy10002
      clear hy10002
      replace H := Option.bind_eq_some_iff.mp H
      obtain ⟨⟨t10005, t10006⟩, A70, H⟩ := H
      replace H : (if t10006 = 0 then (tinderlaw18_NvramTells.j0 k l0 a1 a2 y10002 t10005 (a2 == 0)) else (tinderlaw18_NvramTells.j0 k l0 a1 a2 y10002 t10005 true)) = some r := H
      have A7 := Aside0.mk A70
      clear A70
      have HC8 := Aside0.mk H
      clear H
      go_enter Try.func9, Try.ntmps9
      go_upto_region 5 with (first | ((with_reducible refine gate_callee (f := 10) rfl ?_); refine goesL_ (some 15) rfl rfl Try.func10 (by kernel_rfl) rfl #[] rfl (by (try simp only [List.map_toArray, List.map_cons, List.map_nil]); first | done | rfl | (simp only [List.length_drop, List.length_take]; rfl)) ?_; (with_reducible refine (tinderlaw18_alive.calls k  true _ A4.out).mono ?_); rintro e w9 ⟨rfl, hb⟩; refine ⟨_, rfl, ?_⟩; have n0_ := Aside0.mk (below_step (by repeat (first | (with_reducible first | exact HB.out | apply below_alloc | apply pw_below_drewN | apply below_drew1) | exact HB.out)) hb); clear HB; have HB := n0_; clear n0_; (try clear hb); (try clear hb2); (try clear hk); (try clear hi)) | ((with_reducible refine gate_dst (N := 17) rfl ?_); (try (refine gate_guard (by rfl) ?_; dsimp only)); refine Kd.R_make (Kd.int .u8) _ 5 rfl (N := 17) rfl 22 _ _ rfl 512 rfl rfl Try.underlying22 (.int .u8 0) 1 info5 rfl (by decide) (by omega) 0 (ok := fun _ => True) (okp := fun _ => True) rfl (fun _ hk => hk) trivial (by omega) (by omega) (Below.refl _ _) (Nat.le_refl _) ?_; intro v10003 w10 ho11 hb hg_ hnew_; clear hg_ hnew_; (first | rw [← Ny10002.out] at ho11 | (simp only [Int.reduceToNat] at ho11; rw [← Ny10002.out] at ho11)); have n0_ := Aside0.mk (Kd.R_lower ho11 (below_size (by repeat (first | (with_reducible first | exact HB.out | apply below_alloc | apply pw_below_drewN | apply below_drew1) | exact HB.out)))); have n1_ := Aside0.mk (below_step (by repeat (first | (with_reducible first | exact HB.out | apply below_alloc | apply pw_below_drewN | apply below_drew1) | exact HB.out)) hb); clear HB; have HO10004 := n0_; have HB := n1_; clear n0_ n1_; clear hb ho11; obtain ⟨Ao12, co12, eo12⟩ := Kd.R_slice HO10004.out; subst eo12) | ((with_reducible refine gate_callee (f := 17) rfl ?_); refine goesL_ (some 21) rfl rfl Try.func17 (by kernel_rfl) rfl #[.slice Ao12 y10002.length co12, .slice A0 l0.length c0] rfl (by (try simp only [List.map_toArray, List.map_cons, List.map_nil]); first | done | rfl | (simp only [List.length_drop, List.length_take]; rfl)) ?_; (with_reducible refine (nvram_Plan.calls _ _ y10002 _ _ l0 t10005 t10006 _ ?side1 ?side2 ?side3 ?side4 A7.out).mono ?_); (case side1 => repeat (first | exact (Kd.R_reads' HO10004.out).2.2 | (with_reducible refine Kd.C_alloc ?_ _) | (with_reducible refine Kd.C_drewN ?_ _) | (with_reducible refine Kd.C_drew ?_))); (case side2 => exact (Kd.R_reads' HO10004.out).2.1); (case side3 => repeat (first | exact (Kd.C_below HR0.out HB.out) | (with_reducible refine Kd.C_alloc ?_ _) | (with_reducible refine Kd.C_drewN ?_ _) | (with_reducible refine Kd.C_drew ?_))); (case side4 => exact HC0.out); rintro e w13 ⟨v10007, rfl, ho0, hb⟩; refine ⟨_, rfl, ?_⟩; have n0_ := Aside0.mk (Kd.R_below (by (with_reducible repeat (first | apply Kd.R_alloc | apply Kd.R_drewN | apply Kd.R_drew)); exact HO10004.out) hb); have n1_ := Aside0.mk (Kd.R_lower ho0 (below_size (by repeat (first | (with_reducible first | exact HB.out | apply below_alloc | apply pw_below_drewN | apply below_drew1) | exact HB.out)))); have n2_ := Aside0.mk (below_step (by repeat (first | (with_reducible first | exact HB.out | apply below_alloc | apply pw_below_drewN | apply below_drew1) | exact HB.out)) hb); clear HO10004; clear HB; have HO10004 := n0_; have HO10008 := n1_; have HB := n2_; clear n0_ n1_ n2_; (try clear hb); (try clear hb2); (try clear hk); (try clear hi); (try clear ho0)))
      (try simp only [Act.put, List.setIfInBounds_toArray, List.set_cons_zero, List.set_cons_succ])
      go_cut [29] (fun v29 wc => ∃ (kq : Nat) (x29_7 : Bool), v29 = .bool x29_7 ∧ Aside0 (tinderlaw18_NvramTells.j0 kq l0 a1 a2 y10002 t10005 x29_7 = some r) ∧ Aside0 (kq ≤ k) ∧ Aside0 (Kd.R (Kd.int .u8) 5 wc w.heap.size (fun _ => True) (.slice Ao12 y10002.length co12) y10002) ∧ Aside0 (Kd.R k62 62 wc w.heap.size (fun _ => True) v10007 t10005) ∧ Aside0 (Below w.heap.size w wc))
      case first =>
        have H := HC8.out
        clear HC8
        by_cases c14 : t10006 = 0
        · rw [if_pos c14] at H
          have c14b0 : (t10006 == 0) = true := beq_iff_eq.mpr c14
          have c14b1 : (t10006 != 0) = false := bne_eq_false_iff_eq.mpr c14
          clear c14
          (first | rw [c14b0] | (simp only [i64_w, i32_w]; rw [c14b0]) | skip)
          have H' := Aside0.mk H
          clear H
          go_wp2
          go_meet
          case rel => exact ⟨_, ((a2 == 0)), (by first | rfl | (simp; done) | (simp [*]; done)), H', ⟨by first | omega | exact Nat.le_refl _⟩, ⟨by (with_reducible repeat (first | apply Kd.R_alloc | apply Kd.R_drewN | apply Kd.R_drew)); exact HO10004.out⟩, ⟨by (with_reducible repeat (first | apply Kd.R_alloc | apply Kd.R_drewN | apply Kd.R_drew)); exact HO10008.out⟩, ⟨by repeat (first | (with_reducible first | exact HB.out | apply below_alloc | apply pw_below_drewN | apply below_drew1) | exact HB.out)⟩⟩
        · rw [if_neg c14] at H
          have c14b0 : (t10006 == 0) = false := beq_eq_false_iff_ne.mpr c14
          have c14b1 : (t10006 != 0) = true := bne_iff_ne.mpr c14
          (first | rw [c14b0] | (simp only [i64_w, i32_w]; rw [c14b0]) | skip)
          have H' := Aside0.mk H
          clear H
          go_wp2
          go_meet
          case rel => exact ⟨_, (true), (by first | rfl | (simp; done) | (simp [*]; done)), H', ⟨by first | omega | exact Nat.le_refl _⟩, ⟨by (with_reducible repeat (first | apply Kd.R_alloc | apply Kd.R_drewN | apply Kd.R_drew)); exact HO10004.out⟩, ⟨by (with_reducible repeat (first | apply Kd.R_alloc | apply Kd.R_drewN | apply Kd.R_drew)); exact HO10008.out⟩, ⟨by repeat (first | (with_reducible first | exact HB.out | apply below_alloc | apply pw_below_drewN | apply below_drew1) | exact HB.out)⟩⟩
      case rest =>
        clear HC8
        try clear c1
        try clear p2
        try clear c5
        try clear c6
        try clear c6b0
        try clear c6b1
        try clear c9
        try clear c10
        try clear c14
        try clear c14b0
        try clear c14b1
        obtain ⟨kq, x29_7, rfl, HA, HJ7, HO_7, HO_8, HB⟩ := hcut
        cases kq with
        | zero => exact absurd HA.out (by simp [tinderlaw18_NvramTells.j0])
        | succ kj7 =>
          have H := HA.out
          clear HA
          simp only [tinderlaw18_NvramTells.j0] at H
          by_cases c15 : x29_7 = true
          · subst c15
            have H1 : (some true) = some r := by rw [if_pos rfl] at H; exact H
            clear H
            have H := H1
            clear H1
            obtain rfl := Option.some.inj H
            go_wp2
            go_ret
            exact ⟨by first | rfl | (simp [errW_none, errW_some] <;> rfl) | (simp [*, errW_none, errW_some] <;> rfl), by repeat (first | (with_reducible first | exact HB.out | apply below_alloc | apply pw_below_drewN | apply below_drew1) | exact HB.out)⟩
          · replace c15 := Bool.eq_false_iff.mpr c15
            subst c15
            have H1 : ((nvram_Apply.f kj7 y10002 t10005 (t10005.length : Int)).bind fun t10009 => (if 0 ≤ (Int.tmod (wrap64 (a1)) 256) then (if (Int.tmod (wrap64 (a1)) 256) < (t10009.length : Int) then ((some (t10009.set ((Int.tmod (wrap64 (a1)) 256) : Int).toNat (Go.bits .xor .u8 (rd t10009 (Int.tmod (wrap64 (a1)) 256)) a2) : List Int)).bind fun y10013 => ((nvram_Recover.f y10013).bind fun bt10014 => (if (Int.tmod (wrap64 (a1)) 256) ≥ (wrap64 (8 + (l0.length : Int))) then (if bt10014.2.2 = true then ((tinderref04_Same.f bt10014.1 l0).bind fun t10019 => (some t10019)) else (some false)) else (if 2 < (t10009.length : Int) then (if 3 < (t10009.length : Int) then (if (Int.tmod (wrap64 (a1)) 256) < 4 then (if (Int.tmod (wrap64 (a1)) 256) > 0 then (if (wrap64 ((wrap64 (256 * (wrap64 (rd y10013 2)))) + (wrap64 (rd y10013 3)))) ≤ 248 then (if 1 < (t10009.length : Int) then (if 8 ≤ (wrap64 (8 + (wrap64 ((wrap64 (256 * (wrap64 (rd y10013 2)))) + (wrap64 (rd y10013 3)))))) then (if (wrap64 (8 + (wrap64 ((wrap64 (256 * (wrap64 (rd y10013 2)))) + (wrap64 (rd y10013 3)))))) ≤ (t10009.length : Int) then ((tinderref18_Sum.f kj7 (rd y10013 1) ((y10013.take ((wrap64 (8 + (wrap64 ((wrap64 (256 * (wrap64 (rd y10013 2)))) + (wrap64 (rd y10013 3)))))) : Int).toNat).drop 8)).bind fun t10027 => (if 4 < (t10009.length : Int) then (if 5 < (t10009.length : Int) then (if 6 < (t10009.length : Int) then (if 7 < (t10009.length : Int) then (some (bt10014.2.2 == (t10027 == ((((((((((rd y10013 4) % 4294967296) * 16777216) % 4294967296) + ((((rd y10013 5) % 4294967296) * 65536) % 4294967296)) % 4294967296) + ((((rd y10013 6) % 4294967296) * 256) % 4294967296)) % 4294967296) + ((rd y10013 7) % 4294967296)) % 4294967296)))) else (none)) else (none)) else (none)) else (none))) else (none)) else (none)) else (none)) else (if bt10014.2.2 = true then (some false) else (some ((bt10014.1.length : Int) == 0)))) else (if bt10014.2.2 = true then (some false) else (some ((bt10014.1.length : Int) == 0)))) else (if bt10014.2.2 = true then (some false) else (some ((bt10014.1.length : Int) == 0)))) else (none)) else (none))))) else (none)) else (none))) = some r := by rw [if_neg (show ¬ (false = true) by decide)] at H; exact H
            clear H
            have H := H1
            clear H1
            replace H := Option.bind_eq_some_iff.mp H
            obtain ⟨t10009, A160, H⟩ := H
            replace H : (if 0 ≤ (Int.tmod (wrap64 (a1)) 256) then (if (Int.tmod (wrap64 (a1)) 256) < (t10009.length : Int) then ((some (t10009.set ((Int.tmod (wrap64 (a1)) 256) : Int).toNat (Go.bits .xor .u8 (rd t10009 (Int.tmod (wrap64 (a1)) 256)) a2) : List Int)).bind fun y10013 => ((nvram_Recover.f y10013).bind fun bt10014 => (if (Int.tmod (wrap64 (a1)) 256) ≥ (wrap64 (8 + (l0.length : Int))) then (if bt10014.2.2 = true then ((tinderref04_Same.f bt10014.1 l0).bind fun t10019 => (some t10019)) else (some false)) else (if 2 < (t10009.length : Int) then (if 3 < (t10009.length : Int) then (if (Int.tmod (wrap64 (a1)) 256) < 4 then (if (Int.tmod (wrap64 (a1)) 256) > 0 then (if (wrap64 ((wrap64 (256 * (wrap64 (rd y10013 2)))) + (wrap64 (rd y10013 3)))) ≤ 248 then (if 1 < (t10009.length : Int) then (if 8 ≤ (wrap64 (8 + (wrap64 ((wrap64 (256 * (wrap64 (rd y10013 2)))) + (wrap64 (rd y10013 3)))))) then (if (wrap64 (8 + (wrap64 ((wrap64 (256 * (wrap64 (rd y10013 2)))) + (wrap64 (rd y10013 3)))))) ≤ (t10009.length : Int) then ((tinderref18_Sum.f kj7 (rd y10013 1) ((y10013.take ((wrap64 (8 + (wrap64 ((wrap64 (256 * (wrap64 (rd y10013 2)))) + (wrap64 (rd y10013 3)))))) : Int).toNat).drop 8)).bind fun t10027 => (if 4 < (t10009.length : Int) then (if 5 < (t10009.length : Int) then (if 6 < (t10009.length : Int) then (if 7 < (t10009.length : Int) then (some (bt10014.2.2 == (t10027 == ((((((((((rd y10013 4) % 4294967296) * 16777216) % 4294967296) + ((((rd y10013 5) % 4294967296) * 65536) % 4294967296)) % 4294967296) + ((((rd y10013 6) % 4294967296) * 256) % 4294967296)) % 4294967296) + ((rd y10013 7) % 4294967296)) % 4294967296)))) else (none)) else (none)) else (none)) else (none))) else (none)) else (none)) else (none)) else (if bt10014.2.2 = true then (some false) else (some ((bt10014.1.length : Int) == 0)))) else (if bt10014.2.2 = true then (some false) else (some ((bt10014.1.length : Int) == 0)))) else (if bt10014.2.2 = true then (some false) else (some ((bt10014.1.length : Int) == 0)))) else (none)) else (none))))) else (none)) else (none)) = some r := H
            have A16 := Aside0.mk A160
            clear A160
            obtain ⟨ji17, hji17⟩ : ∃ j_ : Int, (Int.tmod (wrap64 (a1)) 256) = j_ := ⟨_, rfl⟩
            replace H : (if 0 ≤ (ji17) then (if (ji17) < (t10009.length : Int) then ((some (t10009.set ((ji17) : Int).toNat (Go.bits .xor .u8 (rd t10009 (ji17)) a2) : List Int)).bind fun y10013 => ((nvram_Recover.f y10013).bind fun bt10014 => (if (ji17) ≥ (wrap64 (8 + (l0.length : Int))) then (if bt10014.2.2 = true then ((tinderref04_Same.f bt10014.1 l0).bind fun t10019 => (some t10019)) else (some false)) else (if 2 < (t10009.length : Int) then (if 3 < (t10009.length : Int) then (if (ji17) < 4 then (if (ji17) > 0 then (if (wrap64 ((wrap64 (256 * (wrap64 (rd y10013 2)))) + (wrap64 (rd y10013 3)))) ≤ 248 then (if 1 < (t10009.length : Int) then (if 8 ≤ (wrap64 (8 + (wrap64 ((wrap64 (256 * (wrap64 (rd y10013 2)))) + (wrap64 (rd y10013 3)))))) then (if (wrap64 (8 + (wrap64 ((wrap64 (256 * (wrap64 (rd y10013 2)))) + (wrap64 (rd y10013 3)))))) ≤ (t10009.length : Int) then ((tinderref18_Sum.f kj7 (rd y10013 1) ((y10013.take ((wrap64 (8 + (wrap64 ((wrap64 (256 * (wrap64 (rd y10013 2)))) + (wrap64 (rd y10013 3)))))) : Int).toNat).drop 8)).bind fun t10027 => (if 4 < (t10009.length : Int) then (if 5 < (t10009.length : Int) then (if 6 < (t10009.length : Int) then (if 7 < (t10009.length : Int) then (some (bt10014.2.2 == (t10027 == ((((((((((rd y10013 4) % 4294967296) * 16777216) % 4294967296) + ((((rd y10013 5) % 4294967296) * 65536) % 4294967296)) % 4294967296) + ((((rd y10013 6) % 4294967296) * 256) % 4294967296)) % 4294967296) + ((rd y10013 7) % 4294967296)) % 4294967296)))) else (none)) else (none)) else (none)) else (none))) else (none)) else (none)) else (none)) else (if bt10014.2.2 = true then (some false) else (some ((bt10014.1.length : Int) == 0)))) else (if bt10014.2.2 = true then (some false) else (some ((bt10014.1.length : Int) == 0)))) else (if bt10014.2.2 = true then (some false) else (some ((bt10014.1.length : Int) == 0)))) else (none)) else (none))))) else (none)) else (none)) = some r := by first | (rw [hji17] at H; exact H) | (simp only [hji17] at H ⊢; exact H)
            (try rw [hji17] at A16)
            by_cases c18 : 0 ≤ (ji17)
            · rw [if_pos c18] at H
              have c18b0 : decide (0 ≤ (ji17)) = true := decide_eq_true c18
              clear c18
              by_cases c19 : (ji17) < (t10009.length : Int)
              · rw [if_pos c19] at H
                have c19b0 : decide ((ji17) < (t10009.length : Int)) = true := decide_eq_true c19
                clear c19
                obtain ⟨y10013, hy10013⟩ : ∃ y_ : List Int, y_ = (t10009.set ((ji17) : Int).toNat (Go.bits .xor .u8 (rd t10009 (ji17)) a2)) := ⟨_, rfl⟩
                replace H : ((nvram_Recover.f y10013).bind fun bt10014 => (if (ji17) ≥ (wrap64 (8 + (l0.length : Int))) then (if bt10014.2.2 = true then ((tinderref04_Same.f bt10014.1 l0).bind fun t10019 => (some t10019)) else (some false)) else (if 2 < (t10009.length : Int) then (if 3 < (t10009.length : Int) then (if (ji17) < 4 then (if (ji17) > 0 then (if (wrap64 ((wrap64 (256 * (wrap64 (rd y10013 2)))) + (wrap64 (rd y10013 3)))) ≤ 248 then (if 1 < (t10009.length : Int) then (if 8 ≤ (wrap64 (8 + (wrap64 ((wrap64 (256 * (wrap64 (rd y10013 2)))) + (wrap64 (rd y10013 3)))))) then (if (wrap64 (8 + (wrap64 ((wrap64 (256 * (wrap64 (rd y10013 2)))) + (wrap64 (rd y10013 3)))))) ≤ (t10009.length : Int) then ((tinderref18_Sum.f kj7 (rd y10013 1) ((y10013.take ((wrap64 (8 + (wrap64 ((wrap64 (256 * (wrap64 (rd y10013 2)))) + (wrap64 (rd y10013 3)))))) : Int).toNat).drop 8)).bind fun t10027 => (if 4 < (t10009.length : Int) then (if 5 < (t10009.length : Int) then (if 6 < (t10009.length : Int) then (if 7 < (t10009.length : Int) then (some (bt10014.2.2 == (t10027 == ((((((((((rd y10013 4) % 4294967296) * 16777216) % 4294967296) + ((((rd y10013 5) % 4294967296) * 65536) % 4294967296)) % 4294967296) + ((((rd y10013 6) % 4294967296) * 256) % 4294967296)) % 4294967296) + ((rd y10013 7) % 4294967296)) % 4294967296)))) else (none)) else (none)) else (none)) else (none))) else (none)) else (none)) else (none)) else (if bt10014.2.2 = true then (some false) else (some ((bt10014.1.length : Int) == 0)))) else (if bt10014.2.2 = true then (some false) else (some ((bt10014.1.length : Int) == 0)))) else (if bt10014.2.2 = true then (some false) else (some ((bt10014.1.length : Int) == 0)))) else (none)) else (none)))) = some r := by first | (rw [hy10013]; with_reducible exact H) | (have H2_ := (Option.bind_some _ _).symm.trans H; rw [hy10013]; with_reducible exact H2_) | (have H2_ := (Option.bind_some _ _).symm.trans H; with_reducible exact H2_) | with_reducible exact H | (rw [hy10013]; exact H) | exact H
                have Ny10013 := Aside0.mk hy10013
                clear hy10013
                replace H := Option.bind_eq_some_iff.mp H
                obtain ⟨⟨t10014, t10015, t10016⟩, A210, H⟩ := H
                replace H : (if (ji17) ≥ (wrap64 (8 + (l0.length : Int))) then (if t10016 = true then ((tinderref04_Same.f t10014 l0).bind fun t10019 => (some t10019)) else (some false)) else (if 2 < (t10009.length : Int) then (if 3 < (t10009.length : Int) then (if (ji17) < 4 then (if (ji17) > 0 then (if (wrap64 ((wrap64 (256 * (wrap64 (rd y10013 2)))) + (wrap64 (rd y10013 3)))) ≤ 248 then (if 1 < (t10009.length : Int) then (if 8 ≤ (wrap64 (8 + (wrap64 ((wrap64 (256 * (wrap64 (rd y10013 2)))) + (wrap64 (rd y10013 3)))))) then (if (wrap64 (8 + (wrap64 ((wrap64 (256 * (wrap64 (rd y10013 2)))) + (wrap64 (rd y10013 3)))))) ≤ (t10009.length : Int) then ((tinderref18_Sum.f kj7 (rd y10013 1) ((y10013.take ((wrap64 (8 + (wrap64 ((wrap64 (256 * (wrap64 (rd y10013 2)))) + (wrap64 (rd y10013 3)))))) : Int).toNat).drop 8)).bind fun t10027 => (if 4 < (t10009.length : Int) then (if 5 < (t10009.length : Int) then (if 6 < (t10009.length : Int) then (if 7 < (t10009.length : Int) then (some (t10016 == (t10027 == ((((((((((rd y10013 4) % 4294967296) * 16777216) % 4294967296) + ((((rd y10013 5) % 4294967296) * 65536) % 4294967296)) % 4294967296) + ((((rd y10013 6) % 4294967296) * 256) % 4294967296)) % 4294967296) + ((rd y10013 7) % 4294967296)) % 4294967296)))) else (none)) else (none)) else (none)) else (none))) else (none)) else (none)) else (none)) else (if t10016 = true then (some false) else (some ((t10014.length : Int) == 0)))) else (if t10016 = true then (some false) else (some ((t10014.length : Int) == 0)))) else (if t10016 = true then (some false) else (some ((t10014.length : Int) == 0)))) else (none)) else (none))) = some r := H
                have A21 := Aside0.mk A210
                clear A210
                by_cases c22 : (ji17) ≥ (wrap64 (8 + (l0.length : Int)))
                · rw [if_pos c22] at H
                  have c22b0 : decide ((wrap64 (8 + (l0.length : Int))) ≤ (ji17)) = true := decide_eq_true c22
                  clear c22
                  by_cases c23 : t10016 = true
                  · subst c23
                    have H1 : ((tinderref04_Same.f t10014 l0).bind fun t10019 => (some t10019)) = some r := by rw [if_pos rfl] at H; exact H
                    clear H
                    have H := H1
                    clear H1
                    replace H := Option.bind_eq_some_iff.mp H
                    obtain ⟨t10019, A240, H⟩ := H
                    replace H : (some t10019) = some r := H
                    have A24 := Aside0.mk A240
                    clear A240
                    obtain rfl := Option.some.inj H
                    obtain ⟨Ao25, co25, eo25⟩ := Kd.R_slice HO_8.out
                    subst eo25
                    go_wp2_with (first | ((with_reducible refine gate_callee (f := 20) rfl ?_); refine goesL_ (some 34) rfl rfl Try.func20 (by kernel_rfl) rfl #[.slice Ao12 y10002.length co12, .slice Ao25 t10005.length co25, .int .i64 (t10005.length : Int)] rfl (by (try simp only [List.map_toArray, List.map_cons, List.map_nil]); first | done | rfl | (simp only [List.length_drop, List.length_take]; rfl)) ?_; (with_reducible refine (nvram_Apply.calls kj7 _ _ y10002 _ _ t10005 (t10005.length : Int) t10009 _ ?side1 ?side2 ?side3 ?side4 A16.out).mono ?_); (case side1 => repeat (first | exact (Kd.R_reads' HO_7.out).2.2 | (with_reducible refine Kd.C_alloc ?_ _) | (with_reducible refine Kd.C_drewN ?_ _) | (with_reducible refine Kd.C_drew ?_))); (case side2 => exact (Kd.R_reads' HO_7.out).2.1); (case side3 => repeat (first | exact (Kd.R_reads' HO_8.out).2.2 | (with_reducible refine Kd.C_alloc ?_ _) | (with_reducible refine Kd.C_drewN ?_ _) | (with_reducible refine Kd.C_drew ?_))); (case side4 => exact (Kd.R_reads' HO_8.out).2.1); rintro e w26 ⟨v10010, rfl, ho0, hb⟩; refine ⟨_, rfl, ?_⟩; have n0_ := Aside0.mk (Kd.R_elder' (by (with_reducible repeat (first | apply Kd.R_alloc | apply Kd.R_drewN | apply Kd.R_drew)); exact HO_7.out) (Kd.R_base ho0) hb); have n1_ := Aside0.mk (Kd.R_below (by (with_reducible repeat (first | apply Kd.R_alloc | apply Kd.R_drewN | apply Kd.R_drew)); exact HO_8.out) hb); have n2_ := Aside0.mk (Kd.R_lower (Kd.R_new' ho0 (Kd.R_lt (by (with_reducible repeat (first | apply Kd.R_alloc | apply Kd.R_drewN | apply Kd.R_drew)); exact HO_7.out))) (below_size (by repeat (first | (with_reducible first | exact HB.out | apply below_alloc | apply pw_below_drewN | apply below_drew1) | exact HB.out)))); have n3_ := Aside0.mk (below_step (by repeat (first | (with_reducible first | exact HB.out | apply below_alloc | apply pw_below_drewN | apply below_drew1) | exact HB.out)) hb); clear HO_7; clear HO_8; clear HB; have HO_7 := n0_; have HO_8 := n1_; have HO10011 := n2_; have HB := n3_; clear n0_ n1_ n2_ n3_; (try clear hb); (try clear hb2); (try clear hk); (try clear hi); (try clear ho0); obtain ⟨Ao27, co27, eo27⟩ := Kd.R_slice HO10011.out; subst eo27; have p10012 : 0 ≤ ((ji17) : Int) := of_decide_eq_true (by first | (with_reducible assumption) | assumption); have q10012 : (ji17) < (t10009.length : Int) := of_decide_eq_true (by first | (with_reducible assumption) | assumption); obtain ⟨ad10012, e10012, hx10012_0⟩ := Kd.at_int (Kd.R_reads' HO10011.out).2.2 (ji17) p10012 q10012; cases e10012; replace p10012 := eq_true p10012; replace q10012 := eq_true q10012; have p20 : 0 ≤ ((ji17) : Int) := of_decide_eq_true (by first | (with_reducible assumption) | assumption); have q20 : ((ji17) : Int) < ((t10009.length : Int) : Int) := of_decide_eq_true (by first | (with_reducible assumption) | assumption); obtain ⟨go20, co20, eo20, gb20, gl20, cl20, HG20⟩ := Kd.R_form HO10011.out (by omega); (first | cases eo20 | (injection eo20 with ea_ en_ ec_; (first | subst ea_ | (injection ea_ with ea_; subst ea_)); subst ec_; clear en_)); have GB20 := Aside0.mk gb20; have GG20 := Aside0.mk HG20; clear gb20 gl20 HG20; (first | simp only [add_plain] at hx10012_0 | skip); obtain ⟨hx20_0, hf20_0⟩ := Kd.R_celln 0 HO10011.out ((ji17) : Int) p20 q20; replace p20 := eq_true p20; replace q20 := eq_true q20; have n_ := Aside0.mk (Kd.R_mono (ok' := (fun k_ => some k_ ≠ (.slice Ao12 y10002.length co12 : Value).ownBlock)) HO10011.out (fun k_ hk => hk.2)); clear HO10011; have HO10011 := n_; clear n_; obtain ⟨hy28_, hz28_⟩ := Kd.R_celln 0 HO10011.out ((ji17) : Int) (of_decide_eq_true (by first | (with_reducible assumption) | assumption)) (of_decide_eq_true (by first | (with_reducible assumption) | assumption)); have HP28 := Kd.R_putg HO10011.out ((ji17) : Int) (Go.bits .xor .u8 (rd t10009 (ji17)) a2)) | ((with_reducible refine gate_store (t := 5) (p := 46) rfl ?_); refine store_event (t := 5) (p := 46) (v := ?vo_w29) (w1 := (w26.setCell ⟨go20, ((ji17) : Int).toNat, none⟩ (.int .u8 (Go.bits .xor .u8 (rd t10009 (ji17)) a2)))) ?hg ?ho ?hn ?hr ?_; (case ho => rfl); (case hg => rfl); (case hn => rfl); (case hr => first | (go_simp; done) | (go_simp; rfl)); intro w29 hw; have hg : w26.grownBy w29 (some go20) := (by rw [hw]; exact HP28.2); have hp_ : Kd.R (Kd.int .u8) 5 w29 w.heap.size (fun k_ => some k_ ≠ (.slice Ao12 y10002.length co12 : Value).ownBlock) (.slice (some ⟨go20, 0, none⟩) t10009.length co27) y10013 := (by rw [hw, Ny10013.out]; exact HP28.1); clear HP28; have n0_ := Aside0.mk (Kd.R_after (v := (.slice (some ⟨go20, 0, none⟩) t10009.length co27)) (v1 := (.slice (some ⟨go20, 0, none⟩) t10009.length co27)) (ok := (fun _ => True)) (by (with_reducible repeat (first | apply Kd.R_alloc | apply Kd.R_drewN | apply Kd.R_drew)); exact HO_7.out) hg (.inl rfl)); have n1_ := Aside0.mk (Kd.R_over' (v := (.slice (some ⟨go20, 0, none⟩) t10009.length co27)) (by (with_reducible repeat (first | apply Kd.R_alloc | apply Kd.R_drewN | apply Kd.R_drew)); exact HO_8.out) (Kd.R_typed HO10011.out) (by decide) hg); have n2_ := Aside0.mk (hp_); have n3_ := Aside0.mk ((by rw [hw]; exact below_set (HB.out) GB20.out : Below w.heap.size w w29)); clear HO_7; clear HO_8; clear HO10011; clear HB; have HO_7 := n0_; have HO_8 := n1_; have HO10011 := n2_; have HB := n3_; clear n0_ n1_ n2_ n3_; clear hg hw hp_) | ((with_reducible refine gate_callee (f := 14) rfl ?_); refine goesL_ (some 49) rfl rfl Try.func14 (by kernel_rfl) rfl #[.slice (some ⟨go20, 0, none⟩) y10013.length co27] rfl (by (try simp only [List.map_toArray, List.map_cons, List.map_nil]); first | done | (rw [show y10013.length = t10009.length from (Kd.R_reads' HO10011.out).1.symm] <;> rfl) | rfl | (simp only [List.length_drop, List.length_take]; rfl)) ?_; (with_reducible refine (nvram_Recover.calls _ _ y10013 t10014 t10015 true _ ?side1 ?side2 A21.out).mono ?_); (case side1 => repeat (first | exact (Kd.R_reads' HO10011.out).2.2 | (with_reducible refine Kd.C_alloc ?_ _) | (with_reducible refine Kd.C_drewN ?_ _) | (with_reducible refine Kd.C_drew ?_))); (case side2 => rw [show y10013.length = t10009.length from (Kd.R_reads' HO10011.out).1.symm]; exact (Kd.R_reads' HO10011.out).2.1); rintro e w30 ⟨v10017, rfl, ho0, hb⟩; refine ⟨_, rfl, ?_⟩; have n0_ := Aside0.mk (Kd.R_elder' (by (with_reducible repeat (first | apply Kd.R_alloc | apply Kd.R_drewN | apply Kd.R_drew)); exact HO_7.out) (Kd.R_base ho0) hb); have n1_ := Aside0.mk (Kd.R_below (by (with_reducible repeat (first | apply Kd.R_alloc | apply Kd.R_drewN | apply Kd.R_drew)); exact HO_8.out) hb); have n2_ := Aside0.mk (Kd.R_elder' (by (with_reducible repeat (first | apply Kd.R_alloc | apply Kd.R_drewN | apply Kd.R_drew)); exact HO10011.out) (Kd.R_base ho0) hb); have n3_ := Aside0.mk (Kd.R_lower (Kd.R_new' (Kd.R_new' ho0 (Kd.R_lt (by (with_reducible repeat (first | apply Kd.R_alloc | apply Kd.R_drewN | apply Kd.R_drew)); exact HO_7.out))) (Kd.R_lt (by (with_reducible repeat (first | apply Kd.R_alloc | apply Kd.R_drewN | apply Kd.R_drew)); exact HO10011.out))) (below_size (by repeat (first | (with_reducible first | exact HB.out | apply below_alloc | apply pw_below_drewN | apply below_drew1) | exact HB.out)))); have n4_ := Aside0.mk (below_step (by repeat (first | (with_reducible first | exact HB.out | apply below_alloc | apply pw_below_drewN | apply below_drew1) | exact HB.out)) hb); clear HO_7; clear HO_8; clear HO10011; clear HB; have HO_7 := n0_; have HO_8 := n1_; have HO10011 := n2_; have HO10018 := n3_; have HB := n4_; clear n0_ n1_ n2_ n3_ n4_; (try clear hb); (try clear hb2); (try clear hk); (try clear hi); (try clear ho0); obtain ⟨Ao31, co31, eo31⟩ := Kd.R_slice HO10018.out; subst eo31) | (go_at_call 16; (with_reducible refine (tinderref04_Same.calls _ _ t10014 _ _ l0 t10019 _ ?side1 ?side2 ?side3 ?side4 A24.out).mono ?_); (case side1 => repeat (first | exact (Kd.R_reads' HO10018.out).2.2 | (with_reducible refine Kd.C_alloc ?_ _) | (with_reducible refine Kd.C_drewN ?_ _) | (with_reducible refine Kd.C_drew ?_))); (case side2 => exact (Kd.R_reads' HO10018.out).2.1); (case side3 => repeat (first | exact (Kd.C_below HR0.out HB.out) | (with_reducible refine Kd.C_alloc ?_ _) | (with_reducible refine Kd.C_drewN ?_ _) | (with_reducible refine Kd.C_drew ?_))); (case side4 => exact HC0.out); rintro e w' ⟨rfl, ⟨nd, rfl⟩⟩))
                    go_ret
                    exact ⟨by first | (exact congrArg (fun x => Ending.returned (Value.bool (t10016 == (t10027 == x)))) (by simp only [show ∀ n : Int, IntKind.u32.wrap n = n % 4294967296 from fun n => by simp [IntKind.wrap, IntKind.bits, IntKind.signed]]; omega)) | rfl | (simp [errW_none, errW_some] <;> rfl) | (simp only [← hji17]; first | rfl | (simp [errW_none, errW_some] <;> rfl)) | (simp [*, errW_none, errW_some] <;> rfl), by repeat (first | (with_reducible first | exact HB.out | apply below_alloc | apply pw_below_drewN | apply below_drew1) | exact HB.out)⟩
                  · replace c23 := Bool.eq_false_iff.mpr c23
                    subst c23
                    have H1 : (some false) = some r := by rw [if_neg (show ¬ (false = true) by decide)] at H; exact H
                    clear H
                    have H := H1
                    clear H1
                    obtain rfl := Option.some.inj H
                    obtain ⟨Ao32, co32, eo32⟩ := Kd.R_slice HO_8.out
                    subst eo32
                    go_wp2_with (first | ((with_reducible refine gate_callee (f := 20) rfl ?_); refine goesL_ (some 34) rfl rfl Try.func20 (by kernel_rfl) rfl #[.slice Ao12 y10002.length co12, .slice Ao32 t10005.length co32, .int .i64 (t10005.length : Int)] rfl (by (try simp only [List.map_toArray, List.map_cons, List.map_nil]); first | done | rfl | (simp only [List.length_drop, List.length_take]; rfl)) ?_; (with_reducible refine (nvram_Apply.calls kj7 _ _ y10002 _ _ t10005 (t10005.length : Int) t10009 _ ?side1 ?side2 ?side3 ?side4 A16.out).mono ?_); (case side1 => repeat (first | exact (Kd.R_reads' HO_7.out).2.2 | (with_reducible refine Kd.C_alloc ?_ _) | (with_reducible refine Kd.C_drewN ?_ _) | (with_reducible refine Kd.C_drew ?_))); (case side2 => exact (Kd.R_reads' HO_7.out).2.1); (case side3 => repeat (first | exact (Kd.R_reads' HO_8.out).2.2 | (with_reducible refine Kd.C_alloc ?_ _) | (with_reducible refine Kd.C_drewN ?_ _) | (with_reducible refine Kd.C_drew ?_))); (case side4 => exact (Kd.R_reads' HO_8.out).2.1); rintro e w33 ⟨v10010, rfl, ho0, hb⟩; refine ⟨_, rfl, ?_⟩; have n0_ := Aside0.mk (Kd.R_elder' (by (with_reducible repeat (first | apply Kd.R_alloc | apply Kd.R_drewN | apply Kd.R_drew)); exact HO_7.out) (Kd.R_base ho0) hb); have n1_ := Aside0.mk (Kd.R_below (by (with_reducible repeat (first | apply Kd.R_alloc | apply Kd.R_drewN | apply Kd.R_drew)); exact HO_8.out) hb); have n2_ := Aside0.mk (Kd.R_lower (Kd.R_new' ho0 (Kd.R_lt (by (with_reducible repeat (first | apply Kd.R_alloc | apply Kd.R_drewN | apply Kd.R_drew)); exact HO_7.out))) (below_size (by repeat (first | (with_reducible first | exact HB.out | apply below_alloc | apply pw_below_drewN | apply below_drew1) | exact HB.out)))); have n3_ := Aside0.mk (below_step (by repeat (first | (with_reducible first | exact HB.out | apply below_alloc | apply pw_below_drewN | apply below_drew1) | exact HB.out)) hb); clear HO_7; clear HO_8; clear HB; have HO_7 := n0_; have HO_8 := n1_; have HO10011 := n2_; have HB := n3_; clear n0_ n1_ n2_ n3_; (try clear hb); (try clear hb2); (try clear hk); (try clear hi); (try clear ho0); obtain ⟨Ao34, co34, eo34⟩ := Kd.R_slice HO10011.out; subst eo34; have p10012 : 0 ≤ ((ji17) : Int) := of_decide_eq_true (by first | (with_reducible assumption) | assumption); have q10012 : (ji17) < (t10009.length : Int) := of_decide_eq_true (by first | (with_reducible assumption) | assumption); obtain ⟨ad10012, e10012, hx10012_0⟩ := Kd.at_int (Kd.R_reads' HO10011.out).2.2 (ji17) p10012 q10012; cases e10012; replace p10012 := eq_true p10012; replace q10012 := eq_true q10012; have p20 : 0 ≤ ((ji17) : Int) := of_decide_eq_true (by first | (with_reducible assumption) | assumption); have q20 : ((ji17) : Int) < ((t10009.length : Int) : Int) := of_decide_eq_true (by first | (with_reducible assumption) | assumption); obtain ⟨go20, co20, eo20, gb20, gl20, cl20, HG20⟩ := Kd.R_form HO10011.out (by omega); (first | cases eo20 | (injection eo20 with ea_ en_ ec_; (first | subst ea_ | (injection ea_ with ea_; subst ea_)); subst ec_; clear en_)); have GB20 := Aside0.mk gb20; have GG20 := Aside0.mk HG20; clear gb20 gl20 HG20; (first | simp only [add_plain] at hx10012_0 | skip); obtain ⟨hx20_0, hf20_0⟩ := Kd.R_celln 0 HO10011.out ((ji17) : Int) p20 q20; replace p20 := eq_true p20; replace q20 := eq_true q20; have n_ := Aside0.mk (Kd.R_mono (ok' := (fun k_ => some k_ ≠ (.slice Ao12 y10002.length co12 : Value).ownBlock)) HO10011.out (fun k_ hk => hk.2)); clear HO10011; have HO10011 := n_; clear n_; obtain ⟨hy35_, hz35_⟩ := Kd.R_celln 0 HO10011.out ((ji17) : Int) (of_decide_eq_true (by first | (with_reducible assumption) | assumption)) (of_decide_eq_true (by first | (with_reducible assumption) | assumption)); have HP35 := Kd.R_putg HO10011.out ((ji17) : Int) (Go.bits .xor .u8 (rd t10009 (ji17)) a2)) | ((with_reducible refine gate_store (t := 5) (p := 46) rfl ?_); refine store_event (t := 5) (p := 46) (v := ?vo_w36) (w1 := (w33.setCell ⟨go20, ((ji17) : Int).toNat, none⟩ (.int .u8 (Go.bits .xor .u8 (rd t10009 (ji17)) a2)))) ?hg ?ho ?hn ?hr ?_; (case ho => rfl); (case hg => rfl); (case hn => rfl); (case hr => first | (go_simp; done) | (go_simp; rfl)); intro w36 hw; have hg : w33.grownBy w36 (some go20) := (by rw [hw]; exact HP35.2); have hp_ : Kd.R (Kd.int .u8) 5 w36 w.heap.size (fun k_ => some k_ ≠ (.slice Ao12 y10002.length co12 : Value).ownBlock) (.slice (some ⟨go20, 0, none⟩) t10009.length co34) y10013 := (by rw [hw, Ny10013.out]; exact HP35.1); clear HP35; have n0_ := Aside0.mk (Kd.R_after (v := (.slice (some ⟨go20, 0, none⟩) t10009.length co34)) (v1 := (.slice (some ⟨go20, 0, none⟩) t10009.length co34)) (ok := (fun _ => True)) (by (with_reducible repeat (first | apply Kd.R_alloc | apply Kd.R_drewN | apply Kd.R_drew)); exact HO_7.out) hg (.inl rfl)); have n1_ := Aside0.mk (Kd.R_over' (v := (.slice (some ⟨go20, 0, none⟩) t10009.length co34)) (by (with_reducible repeat (first | apply Kd.R_alloc | apply Kd.R_drewN | apply Kd.R_drew)); exact HO_8.out) (Kd.R_typed HO10011.out) (by decide) hg); have n2_ := Aside0.mk (hp_); have n3_ := Aside0.mk ((by rw [hw]; exact below_set (HB.out) GB20.out : Below w.heap.size w w36)); clear HO_7; clear HO_8; clear HO10011; clear HB; have HO_7 := n0_; have HO_8 := n1_; have HO10011 := n2_; have HB := n3_; clear n0_ n1_ n2_ n3_; clear hg hw hp_) | ((with_reducible refine gate_callee (f := 14) rfl ?_); refine goesL_ (some 49) rfl rfl Try.func14 (by kernel_rfl) rfl #[.slice (some ⟨go20, 0, none⟩) y10013.length co34] rfl (by (try simp only [List.map_toArray, List.map_cons, List.map_nil]); first | done | (rw [show y10013.length = t10009.length from (Kd.R_reads' HO10011.out).1.symm] <;> rfl) | rfl | (simp only [List.length_drop, List.length_take]; rfl)) ?_; (with_reducible refine (nvram_Recover.calls _ _ y10013 t10014 t10015 false _ ?side1 ?side2 A21.out).mono ?_); (case side1 => repeat (first | exact (Kd.R_reads' HO10011.out).2.2 | (with_reducible refine Kd.C_alloc ?_ _) | (with_reducible refine Kd.C_drewN ?_ _) | (with_reducible refine Kd.C_drew ?_))); (case side2 => rw [show y10013.length = t10009.length from (Kd.R_reads' HO10011.out).1.symm]; exact (Kd.R_reads' HO10011.out).2.1); rintro e w37 ⟨v10017, rfl, ho0, hb⟩; refine ⟨_, rfl, ?_⟩; have n0_ := Aside0.mk (Kd.R_elder' (by (with_reducible repeat (first | apply Kd.R_alloc | apply Kd.R_drewN | apply Kd.R_drew)); exact HO_7.out) (Kd.R_base ho0) hb); have n1_ := Aside0.mk (Kd.R_below (by (with_reducible repeat (first | apply Kd.R_alloc | apply Kd.R_drewN | apply Kd.R_drew)); exact HO_8.out) hb); have n2_ := Aside0.mk (Kd.R_elder' (by (with_reducible repeat (first | apply Kd.R_alloc | apply Kd.R_drewN | apply Kd.R_drew)); exact HO10011.out) (Kd.R_base ho0) hb); have n3_ := Aside0.mk (Kd.R_lower (Kd.R_new' (Kd.R_new' ho0 (Kd.R_lt (by (with_reducible repeat (first | apply Kd.R_alloc | apply Kd.R_drewN | apply Kd.R_drew)); exact HO_7.out))) (Kd.R_lt (by (with_reducible repeat (first | apply Kd.R_alloc | apply Kd.R_drewN | apply Kd.R_drew)); exact HO10011.out))) (below_size (by repeat (first | (with_reducible first | exact HB.out | apply below_alloc | apply pw_below_drewN | apply below_drew1) | exact HB.out)))); have n4_ := Aside0.mk (below_step (by repeat (first | (with_reducible first | exact HB.out | apply below_alloc | apply pw_below_drewN | apply below_drew1) | exact HB.out)) hb); clear HO_7; clear HO_8; clear HO10011; clear HB; have HO_7 := n0_; have HO_8 := n1_; have HO10011 := n2_; have HO10018 := n3_; have HB := n4_; clear n0_ n1_ n2_ n3_ n4_; (try clear hb); (try clear hb2); (try clear hk); (try clear hi); (try clear ho0)))
                    go_ret
                    exact ⟨by first | (exact congrArg (fun x => Ending.returned (Value.bool (t10016 == (t10027 == x)))) (by simp only [show ∀ n : Int, IntKind.u32.wrap n = n % 4294967296 from fun n => by simp [IntKind.wrap, IntKind.bits, IntKind.signed]]; omega)) | rfl | (simp [errW_none, errW_some] <;> rfl) | (simp only [← hji17]; first | rfl | (simp [errW_none, errW_some] <;> rfl)) | (simp [*, errW_none, errW_some] <;> rfl), by repeat (first | (with_reducible first | exact HB.out | apply below_alloc | apply pw_below_drewN | apply below_drew1) | exact HB.out)⟩
                · rw [if_neg c22] at H
                  have c22b0 : decide ((wrap64 (8 + (l0.length : Int))) ≤ (ji17)) = false := decide_eq_false c22
                  clear c22
                  by_cases c38 : 2 < (t10009.length : Int)
                  · rw [if_pos c38] at H
                    have c38b0 : decide (2 < (t10009.length : Int)) = true := decide_eq_true c38
                    have c38b1 : decide (2 < t10009.length) = true := decide_eq_true (by omega)
                    clear c38
                    by_cases c39 : 3 < (t10009.length : Int)
                    · rw [if_pos c39] at H
                      have c39b0 : decide (3 < (t10009.length : Int)) = true := decide_eq_true c39
                      have c39b1 : decide (3 < t10009.length) = true := decide_eq_true (by omega)
                      clear c39
                      by_cases c40 : (ji17) < 4
                      · rw [if_pos c40] at H
                        have c40b0 : decide ((ji17) < 4) = true := decide_eq_true c40
                        clear c40
                        by_cases c41 : (ji17) > 0
                        · rw [if_pos c41] at H
                          have c41b0 : decide (0 < (ji17)) = true := decide_eq_true c41
                          clear c41
                          by_cases c42 : (wrap64 ((wrap64 (256 * (wrap64 (rd y10013 2)))) + (wrap64 (rd y10013 3)))) ≤ 248
                          · rw [if_pos c42] at H
                            have c42b0 : decide ((wrap64 ((wrap64 (256 * (wrap64 (rd y10013 2)))) + (wrap64 (rd y10013 3)))) ≤ 248) = true := decide_eq_true c42
                            clear c42
                            by_cases c43 : 1 < (t10009.length : Int)
                            · rw [if_pos c43] at H
                              have c43b0 : decide (1 < (t10009.length : Int)) = true := decide_eq_true c43
                              have c43b1 : decide (1 < t10009.length) = true := decide_eq_true (by omega)
                              clear c43
                              by_cases c44 : 8 ≤ (wrap64 (8 + (wrap64 ((wrap64 (256 * (wrap64 (rd y10013 2)))) + (wrap64 (rd y10013 3))))))
                              · rw [if_pos c44] at H
                                have c44b0 := eq_true c44
                                have c44b1 : decide (8 ≤ (wrap64 (8 + (wrap64 ((wrap64 (256 * (wrap64 (rd y10013 2)))) + (wrap64 (rd y10013 3))))))) = true := decide_eq_true c44
                                by_cases c45 : (wrap64 (8 + (wrap64 ((wrap64 (256 * (wrap64 (rd y10013 2)))) + (wrap64 (rd y10013 3)))))) ≤ (t10009.length : Int)
                                · rw [if_pos c45] at H
                                  have c45b0 := eq_true c45
                                  have c45b1 : decide ((wrap64 (8 + (wrap64 ((wrap64 (256 * (wrap64 (rd y10013 2)))) + (wrap64 (rd y10013 3)))))) ≤ (t10009.length : Int)) = true := decide_eq_true c45
                                  obtain ⟨y10023, hy10023⟩ : ∃ y_ : List Int, y_ = ((y10013.take ((wrap64 (8 + (wrap64 ((wrap64 (256 * (wrap64 (rd y10013 2)))) + (wrap64 (rd y10013 3)))))) : Int).toNat).drop 8) := ⟨_, rfl⟩
                                  replace H : ((tinderref18_Sum.f kj7 (rd y10013 1) y10023).bind fun t10027 => (if 4 < (t10009.length : Int) then (if 5 < (t10009.length : Int) then (if 6 < (t10009.length : Int) then (if 7 < (t10009.length : Int) then (some (t10016 == (t10027 == ((((((((((rd y10013 4) % 4294967296) * 16777216) % 4294967296) + ((((rd y10013 5) % 4294967296) * 65536) % 4294967296)) % 4294967296) + ((((rd y10013 6) % 4294967296) * 256) % 4294967296)) % 4294967296) + ((rd y10013 7) % 4294967296)) % 4294967296)))) else (none)) else (none)) else (none)) else (none))) = some r := by first | (rw [hy10023]; with_reducible exact H) | (have H2_ := (Option.bind_some _ _).symm.trans H; rw [hy10023]; with_reducible exact H2_) | (have H2_ := (Option.bind_some _ _).symm.trans H; with_reducible exact H2_) | with_reducible exact H | (rw [hy10023]; exact H) | exact H
                                  have Ny10023 := Aside0.mk hy10023
                                  clear hy10023
                                  replace H := Option.bind_eq_some_iff.mp H
                                  obtain ⟨t10027, A460, H⟩ := H
                                  replace H : (if 4 < (t10009.length : Int) then (if 5 < (t10009.length : Int) then (if 6 < (t10009.length : Int) then (if 7 < (t10009.length : Int) then (some (t10016 == (t10027 == ((((((((((rd y10013 4) % 4294967296) * 16777216) % 4294967296) + ((((rd y10013 5) % 4294967296) * 65536) % 4294967296)) % 4294967296) + ((((rd y10013 6) % 4294967296) * 256) % 4294967296)) % 4294967296) + ((rd y10013 7) % 4294967296)) % 4294967296)))) else (none)) else (none)) else (none)) else (none)) = some r := H
                                  have A46 := Aside0.mk A460
                                  clear A460
                                  by_cases c47 : 4 < (t10009.length : Int)
                                  · rw [if_pos c47] at H
                                    have c47b0 : decide (4 < (t10009.length : Int)) = true := decide_eq_true c47
                                    have c47b1 : decide (4 < t10009.length) = true := decide_eq_true (by omega)
                                    clear c47
                                    by_cases c48 : 5 < (t10009.length : Int)
                                    · rw [if_pos c48] at H
                                      have c48b0 : decide (5 < (t10009.length : Int)) = true := decide_eq_true c48
                                      have c48b1 : decide (5 < t10009.length) = true := decide_eq_true (by omega)
                                      clear c48
                                      by_cases c49 : 6 < (t10009.length : Int)
                                      · rw [if_pos c49] at H
                                        have c49b0 : decide (6 < (t10009.length : Int)) = true := decide_eq_true c49
                                        have c49b1 : decide (6 < t10009.length) = true := decide_eq_true (by omega)
                                        clear c49
                                        by_cases c50 : 7 < (t10009.length : Int)
                                        · rw [if_pos c50] at H
                                          have c50b0 : decide (7 < (t10009.length : Int)) = true := decide_eq_true c50
                                          have c50b1 : decide (7 < t10009.length) = true := decide_eq_true (by omega)
                                          clear c50
                                          obtain rfl := Option.some.inj H
                                          obtain ⟨Ao51, co51, eo51⟩ := Kd.R_slice HO_8.out
                                          subst eo51
                                          try go_wp2_with (first | ((with_reducible refine gate_callee (f := 20) rfl ?_); refine goesL_ (some 34) rfl rfl Try.func20 (by kernel_rfl) rfl #[.slice Ao12 y10002.length co12, .slice Ao51 t10005.length co51, .int .i64 (t10005.length : Int)] rfl (by (try simp only [List.map_toArray, List.map_cons, List.map_nil]); first | done | rfl | (simp only [List.length_drop, List.length_take]; rfl)) ?_; (with_reducible refine (nvram_Apply.calls kj7 _ _ y10002 _ _ t10005 (t10005.length : Int) t10009 _ ?side1 ?side2 ?side3 ?side4 A16.out).mono ?_); (case side1 => repeat (first | exact (Kd.R_reads' HO_7.out).2.2 | (with_reducible refine Kd.C_alloc ?_ _) | (with_reducible refine Kd.C_drewN ?_ _) | (with_reducible refine Kd.C_drew ?_))); (case side2 => exact (Kd.R_reads' HO_7.out).2.1); (case side3 => repeat (first | exact (Kd.R_reads' HO_8.out).2.2 | (with_reducible refine Kd.C_alloc ?_ _) | (with_reducible refine Kd.C_drewN ?_ _) | (with_reducible refine Kd.C_drew ?_))); (case side4 => exact (Kd.R_reads' HO_8.out).2.1); rintro e w52 ⟨v10010, rfl, ho0, hb⟩; refine ⟨_, rfl, ?_⟩; have n0_ := Aside0.mk (Kd.R_elder' (by (with_reducible repeat (first | apply Kd.R_alloc | apply Kd.R_drewN | apply Kd.R_drew)); exact HO_7.out) (Kd.R_base ho0) hb); have n1_ := Aside0.mk (Kd.R_below (by (with_reducible repeat (first | apply Kd.R_alloc | apply Kd.R_drewN | apply Kd.R_drew)); exact HO_8.out) hb); have n2_ := Aside0.mk (Kd.R_lower (Kd.R_new' ho0 (Kd.R_lt (by (with_reducible repeat (first | apply Kd.R_alloc | apply Kd.R_drewN | apply Kd.R_drew)); exact HO_7.out))) (below_size (by repeat (first | (with_reducible first | exact HB.out | apply below_alloc | apply pw_below_drewN | apply below_drew1) | exact HB.out)))); have n3_ := Aside0.mk (below_step (by repeat (first | (with_reducible first | exact HB.out | apply below_alloc | apply pw_below_drewN | apply below_drew1) | exact HB.out)) hb); clear HO_7; clear HO_8; clear HB; have HO_7 := n0_; have HO_8 := n1_; have HO10011 := n2_; have HB := n3_; clear n0_ n1_ n2_ n3_; (try clear hb); (try clear hb2); (try clear hk); (try clear hi); (try clear ho0); obtain ⟨Ao53, co53, eo53⟩ := Kd.R_slice HO10011.out; subst eo53; have p10012 : 0 ≤ ((ji17) : Int) := of_decide_eq_true (by first | (with_reducible assumption) | assumption); have q10012 : (ji17) < (t10009.length : Int) := of_decide_eq_true (by first | (with_reducible assumption) | assumption); obtain ⟨ad10012, e10012, hx10012_0⟩ := Kd.at_int (Kd.R_reads' HO10011.out).2.2 (ji17) p10012 q10012; cases e10012; replace p10012 := eq_true p10012; replace q10012 := eq_true q10012; have p20 : 0 ≤ ((ji17) : Int) := of_decide_eq_true (by first | (with_reducible assumption) | assumption); have q20 : ((ji17) : Int) < ((t10009.length : Int) : Int) := of_decide_eq_true (by first | (with_reducible assumption) | assumption); obtain ⟨go20, co20, eo20, gb20, gl20, cl20, HG20⟩ := Kd.R_form HO10011.out (by omega); (first | cases eo20 | (injection eo20 with ea_ en_ ec_; (first | subst ea_ | (injection ea_ with ea_; subst ea_)); subst ec_; clear en_)); have GB20 := Aside0.mk gb20; have GG20 := Aside0.mk HG20; clear gb20 gl20 HG20; (first | simp only [add_plain] at hx10012_0 | skip); obtain ⟨hx20_0, hf20_0⟩ := Kd.R_celln 0 HO10011.out ((ji17) : Int) p20 q20; replace p20 := eq_true p20; replace q20 := eq_true q20; have n_ := Aside0.mk (Kd.R_mono (ok' := (fun k_ => some k_ ≠ (.slice Ao12 y10002.length co12 : Value).ownBlock)) HO10011.out (fun k_ hk => hk.2)); clear HO10011; have HO10011 := n_; clear n_; obtain ⟨hy54_, hz54_⟩ := Kd.R_celln 0 HO10011.out ((ji17) : Int) (of_decide_eq_true (by first | (with_reducible assumption) | assumption)) (of_decide_eq_true (by first | (with_reducible assumption) | assumption)); have HP54 := Kd.R_putg HO10011.out ((ji17) : Int) (Go.bits .xor .u8 (rd t10009 (ji17)) a2)) | ((with_reducible refine gate_store (t := 5) (p := 46) rfl ?_); refine store_event (t := 5) (p := 46) (v := ?vo_w55) (w1 := (w52.setCell ⟨go20, ((ji17) : Int).toNat, none⟩ (.int .u8 (Go.bits .xor .u8 (rd t10009 (ji17)) a2)))) ?hg ?ho ?hn ?hr ?_; (case ho => rfl); (case hg => rfl); (case hn => rfl); (case hr => first | (go_simp; done) | (go_simp; rfl)); intro w55 hw; have hg : w52.grownBy w55 (some go20) := (by rw [hw]; exact HP54.2); have hp_ : Kd.R (Kd.int .u8) 5 w55 w.heap.size (fun k_ => some k_ ≠ (.slice Ao12 y10002.length co12 : Value).ownBlock) (.slice (some ⟨go20, 0, none⟩) t10009.length co53) y10013 := (by rw [hw, Ny10013.out]; exact HP54.1); clear HP54; have n0_ := Aside0.mk (Kd.R_after (v := (.slice (some ⟨go20, 0, none⟩) t10009.length co53)) (v1 := (.slice (some ⟨go20, 0, none⟩) t10009.length co53)) (ok := (fun _ => True)) (by (with_reducible repeat (first | apply Kd.R_alloc | apply Kd.R_drewN | apply Kd.R_drew)); exact HO_7.out) hg (.inl rfl)); have n1_ := Aside0.mk (Kd.R_over' (v := (.slice (some ⟨go20, 0, none⟩) t10009.length co53)) (by (with_reducible repeat (first | apply Kd.R_alloc | apply Kd.R_drewN | apply Kd.R_drew)); exact HO_8.out) (Kd.R_typed HO10011.out) (by decide) hg); have n2_ := Aside0.mk (hp_); have n3_ := Aside0.mk ((by rw [hw]; exact below_set (HB.out) GB20.out : Below w.heap.size w w55)); clear HO_7; clear HO_8; clear HO10011; clear HB; have HO_7 := n0_; have HO_8 := n1_; have HO10011 := n2_; have HB := n3_; clear n0_ n1_ n2_ n3_; clear hg hw hp_) | ((with_reducible refine gate_callee (f := 14) rfl ?_); refine goesL_ (some 49) rfl rfl Try.func14 (by kernel_rfl) rfl #[.slice (some ⟨go20, 0, none⟩) y10013.length co53] rfl (by (try simp only [List.map_toArray, List.map_cons, List.map_nil]); first | done | (rw [show y10013.length = t10009.length from (Kd.R_reads' HO10011.out).1.symm] <;> rfl) | rfl | (simp only [List.length_drop, List.length_take]; rfl)) ?_; (with_reducible refine (nvram_Recover.calls _ _ y10013 t10014 t10015 t10016 _ ?side1 ?side2 A21.out).mono ?_); (case side1 => repeat (first | exact (Kd.R_reads' HO10011.out).2.2 | (with_reducible refine Kd.C_alloc ?_ _) | (with_reducible refine Kd.C_drewN ?_ _) | (with_reducible refine Kd.C_drew ?_))); (case side2 => rw [show y10013.length = t10009.length from (Kd.R_reads' HO10011.out).1.symm]; exact (Kd.R_reads' HO10011.out).2.1); rintro e w56 ⟨v10017, rfl, ho0, hb⟩; refine ⟨_, rfl, ?_⟩; have n0_ := Aside0.mk (Kd.R_elder' (by (with_reducible repeat (first | apply Kd.R_alloc | apply Kd.R_drewN | apply Kd.R_drew)); exact HO_7.out) (Kd.R_base ho0) hb); have n1_ := Aside0.mk (Kd.R_below (by (with_reducible repeat (first | apply Kd.R_alloc | apply Kd.R_drewN | apply Kd.R_drew)); exact HO_8.out) hb); have n2_ := Aside0.mk (Kd.R_elder' (by (with_reducible repeat (first | apply Kd.R_alloc | apply Kd.R_drewN | apply Kd.R_drew)); exact HO10011.out) (Kd.R_base ho0) hb); have n3_ := Aside0.mk (Kd.R_lower (Kd.R_new' (Kd.R_new' ho0 (Kd.R_lt (by (with_reducible repeat (first | apply Kd.R_alloc | apply Kd.R_drewN | apply Kd.R_drew)); exact HO_7.out))) (Kd.R_lt (by (with_reducible repeat (first | apply Kd.R_alloc | apply Kd.R_drewN | apply Kd.R_drew)); exact HO10011.out))) (below_size (by repeat (first | (with_reducible first | exact HB.out | apply below_alloc | apply pw_below_drewN | apply below_drew1) | exact HB.out)))); have n4_ := Aside0.mk (below_step (by repeat (first | (with_reducible first | exact HB.out | apply below_alloc | apply pw_below_drewN | apply below_drew1) | exact HB.out)) hb); clear HO_7; clear HO_8; clear HO10011; clear HB; have HO_7 := n0_; have HO_8 := n1_; have HO10011 := n2_; have HO10018 := n3_; have HB := n4_; clear n0_ n1_ n2_ n3_ n4_; (try clear hb); (try clear hb2); (try clear hk); (try clear hi); (try clear ho0)))
                                          have n0_ := Aside0.mk (Kd.R_drew HO_7.out)
                                          have n1_ := Aside0.mk (Kd.R_drew HO_8.out)
                                          have n2_ := Aside0.mk (Kd.R_drew HO10011.out)
                                          have n3_ := Aside0.mk (Kd.R_drew HO10018.out)
                                          have n4_ := Aside0.mk (below_drew1 HB.out)
                                          clear HO_7
                                          clear HO_8
                                          clear HO10011
                                          clear HO10018
                                          clear HB
                                          have HO_7 := n0_
                                          have HO_8 := n1_
                                          have HO10011 := n2_
                                          have HO10018 := n3_
                                          have HB := n4_
                                          clear n0_ n1_ n2_ n3_ n4_
                                          have p10020 : 0 ≤ (2 : Int) := (by omega)
                                          have q10020 : 2 < (y10013.length : Int) := (by have h_ : (2 : Int) < ((t10009.length : Int) : Int) := of_decide_eq_true (by first | (with_reducible assumption) | assumption); first | (have e_ := (Kd.R_reads' HO10011.out).1; omega) | simpa only [Ny10013.out, List.length_set] using h_)
                                          have ql10020 : ((2 : Int) < ((t10009.length : Int) : Int)) = True := eq_true (of_decide_eq_true (by first | (with_reducible assumption) | assumption))
                                          (try have qn10020 : (2 < t10009.length) = True := eq_true (by have h_ : (2 : Int) < ((t10009.length : Int) : Int) := of_decide_eq_true (by first | (with_reducible assumption) | assumption); omega))
                                          obtain ⟨ad10020, e10020, hx10020_0⟩ := Kd.at_int (Kd.R_reads' HO10011.out).2.2 2 p10020 q10020
                                          obtain rfl : (⟨go20, 0, none⟩ : Addr) = ad10020 := (by injection e10020)
                                          (first | simp only [add_plain] at hx10020_0 | simp only [add_at] at hx10020_0 | simp only [Addr.add, Nat.zero_add] at hx10020_0 | skip)
                                          have qi10020 : (2 < y10013.length) = True := eq_true (by omega)
                                          (try rw [show ((2 : Int)).toNat = 2 from rfl] at hx10020_0)
                                          replace p10020 := eq_true p10020
                                          replace q10020 := eq_true q10020
                                          have p10021 : 0 ≤ (3 : Int) := (by omega)
                                          have q10021 : 3 < (y10013.length : Int) := (by have h_ : (3 : Int) < ((t10009.length : Int) : Int) := of_decide_eq_true (by first | (with_reducible assumption) | assumption); first | (have e_ := (Kd.R_reads' HO10011.out).1; omega) | simpa only [Ny10013.out, List.length_set] using h_)
                                          have ql10021 : ((3 : Int) < ((t10009.length : Int) : Int)) = True := eq_true (of_decide_eq_true (by first | (with_reducible assumption) | assumption))
                                          (try have qn10021 : (3 < t10009.length) = True := eq_true (by have h_ : (3 : Int) < ((t10009.length : Int) : Int) := of_decide_eq_true (by first | (with_reducible assumption) | assumption); omega))
                                          obtain ⟨ad10021, e10021, hx10021_0⟩ := Kd.at_int (Kd.R_reads' HO10011.out).2.2 3 p10021 q10021
                                          obtain rfl : (⟨go20, 0, none⟩ : Addr) = ad10021 := (by injection e10021)
                                          (first | simp only [add_plain] at hx10021_0 | simp only [add_at] at hx10021_0 | simp only [Addr.add, Nat.zero_add] at hx10021_0 | skip)
                                          have qi10021 : (3 < y10013.length) = True := eq_true (by omega)
                                          (try rw [show ((3 : Int)).toNat = 3 from rfl] at hx10021_0)
                                          replace p10021 := eq_true p10021
                                          replace q10021 := eq_true q10021
                                          refine start_ (n := 11) (S := fun w' => w'.cell? ⟨go20, 2, none⟩ = some (.int .u8 (rd y10013 2)) ∧ w'.cell? ⟨go20, 3, none⟩ = some (.int .u8 (rd y10013 3))) (ds := []) #[false, false, false, false, false, false, false, false, false, false, false] (by kernel_rfl) rfl rfl ⟨hx10020_0, hx10021_0⟩ (fun hHeld => ?_); refine with_tabW tinderlaw18_NvramTells.tab13 tinderlaw18_NvramTells.bits13 (fun HT_ HW_ => ?_)
                                          generalize w56.drew = w57 at HO_7 HO_8 HO10011 HO10018 HB hx10020_0 hx10021_0 hHeld ⊢
                                          refine pure_ (i := 0) (N := some 64) (v := ?_) (a' := ?_) #[true, false, false, false, false, false, false, false, false, false, false] rfl rfl (any_of HT_.out (by kernel_rfl)) (fun _ _ _ h => h) (Or.inl ⟨by rfl, ?_⟩) ?_ ?_
                                          rotate_left
                                          · intro w'
                                            go_simp
                                            with_reducible rfl
                                          rotate_left
                                          · simp only [Act.put, List.setIfInBounds_toArray, List.set_cons_zero, List.set_cons_succ, i64_w, i32_w]
                                            rfl
                                          refine pure_ (i := 1) (N := some 65) (v := ?_) (a' := ?_) #[true, true, false, false, false, false, false, false, false, false, false] rfl rfl (any_of HT_.out (by kernel_rfl)) (fun _ _ _ h => h) (Or.inl ⟨by rfl, ?_⟩) ?_ ?_
                                          rotate_left
                                          · intro w'
                                            go_simp
                                            with_reducible rfl
                                          rotate_left
                                          · simp only [Act.put, List.setIfInBounds_toArray, List.set_cons_zero, List.set_cons_succ, i64_w, i32_w]
                                            rfl
                                          refine pure_ (i := 5) (N := some 69) (v := ?_) (a' := ?_) #[true, true, false, false, false, true, false, false, false, false, false] rfl rfl (any_of HT_.out (by kernel_rfl)) (fun _ _ _ h => h) (Or.inl ⟨by rfl, ?_⟩) ?_ ?_
                                          rotate_left
                                          · intro w'
                                            go_simp
                                            with_reducible rfl
                                          rotate_left
                                          · simp only [Act.put, List.setIfInBounds_toArray, List.set_cons_zero, List.set_cons_succ, i64_w, i32_w]
                                            rfl
                                          refine pure_ (i := 6) (N := some 70) (v := ?_) (a' := ?_) #[true, true, false, false, false, true, true, false, false, false, false] rfl rfl (any_of HT_.out (by kernel_rfl)) (fun _ _ _ h => h) (Or.inl ⟨by rfl, ?_⟩) ?_ ?_
                                          rotate_left
                                          · intro w'
                                            go_simp
                                            with_reducible rfl
                                          rotate_left
                                          · simp only [Act.put, List.setIfInBounds_toArray, List.set_cons_zero, List.set_cons_succ, i64_w, i32_w]
                                            rfl
                                          refine take_ (i := 2) (N := some 66) (v := ?_) (a' := ?_) #[true, true, true, false, false, true, true, false, false, false, false] rfl rfl (take_ofW HT_.out HW_.out (by kernel_rfl)) (fun _ _ _ h => h) (Or.inl ⟨by rfl, ?_⟩) hHeld ?_ ?_
                                          rotate_left
                                          · rintro w' ⟨s0, s1⟩
                                            go_simp
                                            with_reducible rfl
                                          rotate_left
                                          · simp only [Act.put, List.setIfInBounds_toArray, List.set_cons_zero, List.set_cons_succ, i64_w, i32_w]
                                            rfl
                                          refine pure_ (i := 3) (N := some 67) (v := ?_) (a' := ?_) #[true, true, true, true, false, true, true, false, false, false, false] rfl rfl (any_of HT_.out (by kernel_rfl)) (fun _ _ _ h => h) (Or.inl ⟨by rfl, ?_⟩) ?_ ?_
                                          rotate_left
                                          · intro w'
                                            go_simp
                                            with_reducible rfl
                                          rotate_left
                                          · simp only [Act.put, List.setIfInBounds_toArray, List.set_cons_zero, List.set_cons_succ, i64_w, i32_w]
                                            rfl
                                          refine pure_ (i := 4) (N := some 68) (v := ?_) (a' := ?_) #[true, true, true, true, true, true, true, false, false, false, false] rfl rfl (any_of HT_.out (by kernel_rfl)) (fun _ _ _ h => h) (Or.inl ⟨by rfl, ?_⟩) ?_ ?_
                                          rotate_left
                                          · intro w'
                                            go_simp
                                            with_reducible rfl
                                          rotate_left
                                          · simp only [Act.put, List.setIfInBounds_toArray, List.set_cons_zero, List.set_cons_succ, i64_w, i32_w]
                                            rfl
                                          refine take_ (i := 7) (N := some 71) (v := ?_) (a' := ?_) #[true, true, true, true, true, true, true, true, false, false, false] rfl rfl (take_ofW HT_.out HW_.out (by kernel_rfl)) (fun _ _ _ h => h) (Or.inl ⟨by rfl, ?_⟩) hHeld ?_ ?_
                                          rotate_left
                                          · rintro w' ⟨s0, s1⟩
                                            go_simp
                                            with_reducible rfl
                                          rotate_left
                                          · simp only [Act.put, List.setIfInBounds_toArray, List.set_cons_zero, List.set_cons_succ, i64_w, i32_w]
                                            rfl
                                          refine pure_ (i := 8) (N := some 72) (v := ?_) (a' := ?_) #[true, true, true, true, true, true, true, true, true, false, false] rfl rfl (any_of HT_.out (by kernel_rfl)) (fun _ _ _ h => h) (Or.inl ⟨by rfl, ?_⟩) ?_ ?_
                                          rotate_left
                                          · intro w'
                                            go_simp
                                            with_reducible rfl
                                          rotate_left
                                          · simp only [Act.put, List.setIfInBounds_toArray, List.set_cons_zero, List.set_cons_succ, i64_w, i32_w]
                                            rfl
                                          refine pure_ (i := 9) (N := some 73) (v := ?_) (a' := ?_) #[true, true, true, true, true, true, true, true, true, true, false] rfl rfl (any_of HT_.out (by kernel_rfl)) (fun _ _ _ h => h) (Or.inl ⟨by rfl, ?_⟩) ?_ ?_
                                          rotate_left
                                          · intro w'
                                            go_simp
                                            with_reducible rfl
                                          rotate_left
                                          · simp only [Act.put, List.setIfInBounds_toArray, List.set_cons_zero, List.set_cons_succ, i64_w, i32_w]
                                            rfl
                                          refine pure_ (i := 10) (N := some 14) (v := ?_) (a' := ?_) #[true, true, true, true, true, true, true, true, true, true, true] rfl rfl (any_of HT_.out (by kernel_rfl)) (fun _ _ _ h => h) (Or.inl ⟨by rfl, ?_⟩) ?_ ?_
                                          rotate_left
                                          · intro w'
                                            go_simp
                                            with_reducible rfl
                                          rotate_left
                                          · simp only [Act.put, List.setIfInBounds_toArray, List.set_cons_zero, List.set_cons_succ, i64_w, i32_w]
                                            rfl
                                          refine done_ (done_of HT_.out (by kernel_rfl)) ?_
                                          try go_wp2
                                          have n0_ := Aside0.mk (Kd.R_drew HO_7.out)
                                          have n1_ := Aside0.mk (Kd.R_drew HO_8.out)
                                          have n2_ := Aside0.mk (Kd.R_drew HO10011.out)
                                          have n3_ := Aside0.mk (Kd.R_drew HO10018.out)
                                          have n4_ := Aside0.mk (below_drew1 HB.out)
                                          clear HO_7
                                          clear HO_8
                                          clear HO10011
                                          clear HO10018
                                          clear HB
                                          have HO_7 := n0_
                                          have HO_8 := n1_
                                          have HO10011 := n2_
                                          have HO10018 := n3_
                                          have HB := n4_
                                          clear n0_ n1_ n2_ n3_ n4_
                                          have p10022 : 0 ≤ (1 : Int) := (by omega)
                                          have q10022 : 1 < (y10013.length : Int) := (by have h_ : (1 : Int) < ((t10009.length : Int) : Int) := of_decide_eq_true (by first | (with_reducible assumption) | assumption); first | (have e_ := (Kd.R_reads' HO10011.out).1; omega) | simpa only [Ny10013.out, List.length_set] using h_)
                                          have ql10022 : ((1 : Int) < ((t10009.length : Int) : Int)) = True := eq_true (of_decide_eq_true (by first | (with_reducible assumption) | assumption))
                                          (try have qn10022 : (1 < t10009.length) = True := eq_true (by have h_ : (1 : Int) < ((t10009.length : Int) : Int) := of_decide_eq_true (by first | (with_reducible assumption) | assumption); omega))
                                          obtain ⟨ad10022, e10022, hx10022_0⟩ := Kd.at_int (Kd.R_reads' HO10011.out).2.2 1 p10022 q10022
                                          obtain rfl : (⟨go20, 0, none⟩ : Addr) = ad10022 := (by injection e10022)
                                          (first | simp only [add_plain] at hx10022_0 | simp only [add_at] at hx10022_0 | simp only [Addr.add, Nat.zero_add] at hx10022_0 | skip)
                                          have qi10022 : (1 < y10013.length) = True := eq_true (by omega)
                                          (try rw [show ((1 : Int)).toNat = 1 from rfl] at hx10022_0)
                                          replace p10022 := eq_true p10022
                                          replace q10022 := eq_true q10022
                                          have hlx59 := (Kd.R_reads' HO10011.out).1
                                          have q59 : ((wrap64 (8 + (wrap64 ((wrap64 (256 * (wrap64 (rd y10013 2)))) + (wrap64 (rd y10013 3)))))) : Int) ≤ ((t10009.length : Int) : Int) := of_decide_eq_true (by first | (with_reducible assumption) | assumption)
                                          obtain ⟨i059, hi059, _, hsz59, _⟩ := info_parts info5
                                          have hroom59 : t10009.length ≤ co53 := (Kd.R_reads' HO10011.out).2.1
                                          have hroomc59 : y10013.length ≤ co53 := (by rw [← hlx59]; exact hroom59)
                                          have hC59 : Kd.C (Kd.int .u8) _ (some ⟨go20, 0, none⟩) y10013.length y10013 := (Kd.R_reads' HO10011.out).2.2
                                          have ql59 : (8 : Int) ≤ ((wrap64 (8 + (wrap64 ((wrap64 (256 * (wrap64 (rd y10013 2)))) + (wrap64 (rd y10013 3)))))) : Int) := of_decide_eq_true (by first | (with_reducible assumption) | assumption)
                                          have hcut59 := cut_mid (P := Try.prog) 22 5 .i64 .i64 Try.underlying22 hi059 1 hsz59 (some ⟨go20, 0, none⟩) t10009.length co53 8 (wrap64 (8 + (wrap64 ((wrap64 (256 * (wrap64 (rd y10013 2)))) + (wrap64 (rd y10013 3)))))) (by omega) ql59 q59 hroom59
                                          have hr59 := Kd.C_mid (lo := (8 : Int).toNat) (hi := ((wrap64 (8 + (wrap64 ((wrap64 (256 * (wrap64 (rd y10013 2)))) + (wrap64 (rd y10013 3)))))) : Int).toNat) (c := co53) hC59 (by omega) (by omega) hroomc59
                                          obtain ⟨A59, hA59⟩ : ∃ A1, A1 = (if co53 = (8 : Int).toNat then (some ⟨go20, 0, none⟩) else ((some ⟨go20, 0, none⟩) : Option Addr).map (·.add ((8 : Int).toNat * 1))) := ⟨_, rfl⟩
                                          obtain ⟨c59, hc59⟩ : ∃ c1, c1 = co53 - (8 : Int).toNat := ⟨_, rfl⟩
                                          have hy59 : y10023.length = ((wrap64 (8 + (wrap64 ((wrap64 (256 * (wrap64 (rd y10013 2)))) + (wrap64 (rd y10013 3)))))) : Int).toNat - (8 : Int).toNat := (by rw [Ny10023.out, List.length_drop, List.length_take] <;> omega)
                                          rw [show ((y10013).take ((wrap64 (8 + (wrap64 ((wrap64 (256 * (wrap64 (rd y10013 2)))) + (wrap64 (rd y10013 3)))))) : Int).toNat).drop (8 : Int).toNat = y10023 from Ny10023.out.symm] at hr59
                                          replace hr59 : Kd.C (Kd.int .u8) _ A59 y10023.length y10023 := (by rw [hA59]; exact hr59)
                                          rw [← hy59, ← hA59, ← hc59] at hcut59
                                          have HR10026 := Aside0.mk hr59
                                          have HC10026 := Aside0.mk (show y10023.length ≤ c59 from by rw [hy59, hc59]; exact Nat.sub_le_sub_right (Nat.le_trans (by omega) hroom59) _)
                                          clear hr59 hC59 hroom59 hi059 hsz59 hc59 hroomc59
                                          have KY59 := Aside0.mk hy59
                                          have KA59 := Aside0.mk hA59
                                          clear hy59 hA59
                                          have KE59 := Aside0.mk hlx59
                                          have KL59 := Aside0.mk (show ((wrap64 (8 + (wrap64 ((wrap64 (256 * (wrap64 (rd y10013 2)))) + (wrap64 (rd y10013 3)))))) : Int).toNat ≤ y10013.length from by omega)
                                          have KM59 := Aside0.mk (show 8 ≤ ((wrap64 (8 + (wrap64 ((wrap64 (256 * (wrap64 (rd y10013 2)))) + (wrap64 (rd y10013 3)))))) : Int).toNat from by omega)
                                          clear hlx59
                                          replace q59 := eq_true q59
                                          have p10028 : 0 ≤ (4 : Int) := (by omega)
                                          have q10028 : 4 < (y10013.length : Int) := (by have h_ : (4 : Int) < ((t10009.length : Int) : Int) := of_decide_eq_true (by first | (with_reducible assumption) | assumption); first | (have e_ := (Kd.R_reads' HO10011.out).1; omega) | simpa only [Ny10013.out, List.length_set] using h_)
                                          have ql10028 : ((4 : Int) < ((t10009.length : Int) : Int)) = True := eq_true (of_decide_eq_true (by first | (with_reducible assumption) | assumption))
                                          (try have qn10028 : (4 < t10009.length) = True := eq_true (by have h_ : (4 : Int) < ((t10009.length : Int) : Int) := of_decide_eq_true (by first | (with_reducible assumption) | assumption); omega))
                                          obtain ⟨ad10028, e10028, hx10028_0⟩ := Kd.at_int (Kd.R_reads' HO10011.out).2.2 4 p10028 q10028
                                          obtain rfl : (⟨go20, 0, none⟩ : Addr) = ad10028 := (by injection e10028)
                                          (first | simp only [add_plain] at hx10028_0 | simp only [add_at] at hx10028_0 | simp only [Addr.add, Nat.zero_add] at hx10028_0 | skip)
                                          have qi10028 : (4 < y10013.length) = True := eq_true (by omega)
                                          (try rw [show ((4 : Int)).toNat = 4 from rfl] at hx10028_0)
                                          replace p10028 := eq_true p10028
                                          replace q10028 := eq_true q10028
                                          have p10029 : 0 ≤ (5 : Int) := (by omega)
                                          have q10029 : 5 < (y10013.length : Int) := (by have h_ : (5 : Int) < ((t10009.length : Int) : Int) := of_decide_eq_true (by first | (with_reducible assumption) | assumption); first | (have e_ := (Kd.R_reads' HO10011.out).1; omega) | simpa only [Ny10013.out, List.length_set] using h_)
                                          have ql10029 : ((5 : Int) < ((t10009.length : Int) : Int)) = True := eq_true (of_decide_eq_true (by first | (with_reducible assumption) | assumption))
                                          (try have qn10029 : (5 < t10009.length) = True := eq_true (by have h_ : (5 : Int) < ((t10009.length : Int) : Int) := of_decide_eq_true (by first | (with_reducible assumption) | assumption); omega))
                                          obtain ⟨ad10029, e10029, hx10029_0⟩ := Kd.at_int (Kd.R_reads' HO10011.out).2.2 5 p10029 q10029
                                          obtain rfl : (⟨go20, 0, none⟩ : Addr) = ad10029 := (by injection e10029)
                                          (first | simp only [add_plain] at hx10029_0 | simp only [add_at] at hx10029_0 | simp only [Addr.add, Nat.zero_add] at hx10029_0 | skip)
                                          have qi10029 : (5 < y10013.length) = True := eq_true (by omega)
                                          (try rw [show ((5 : Int)).toNat = 5 from rfl] at hx10029_0)
                                          replace p10029 := eq_true p10029
                                          replace q10029 := eq_true q10029
                                          have p10030 : 0 ≤ (6 : Int) := (by omega)
                                          have q10030 : 6 < (y10013.length : Int) := (by have h_ : (6 : Int) < ((t10009.length : Int) : Int) := of_decide_eq_true (by first | (with_reducible assumption) | assumption); first | (have e_ := (Kd.R_reads' HO10011.out).1; omega) | simpa only [Ny10013.out, List.length_set] using h_)
                                          have ql10030 : ((6 : Int) < ((t10009.length : Int) : Int)) = True := eq_true (of_decide_eq_true (by first | (with_reducible assumption) | assumption))
                                          (try have qn10030 : (6 < t10009.length) = True := eq_true (by have h_ : (6 : Int) < ((t10009.length : Int) : Int) := of_decide_eq_true (by first | (with_reducible assumption) | assumption); omega))
                                          obtain ⟨ad10030, e10030, hx10030_0⟩ := Kd.at_int (Kd.R_reads' HO10011.out).2.2 6 p10030 q10030
                                          obtain rfl : (⟨go20, 0, none⟩ : Addr) = ad10030 := (by injection e10030)
                                          (first | simp only [add_plain] at hx10030_0 | simp only [add_at] at hx10030_0 | simp only [Addr.add, Nat.zero_add] at hx10030_0 | skip)
                                          have qi10030 : (6 < y10013.length) = True := eq_true (by omega)
                                          (try rw [show ((6 : Int)).toNat = 6 from rfl] at hx10030_0)
                                          replace p10030 := eq_true p10030
                                          replace q10030 := eq_true q10030
                                          have p10031 : 0 ≤ (7 : Int) := (by omega)
                                          have q10031 : 7 < (y10013.length : Int) := (by have h_ : (7 : Int) < ((t10009.length : Int) : Int) := of_decide_eq_true (by first | (with_reducible assumption) | assumption); first | (have e_ := (Kd.R_reads' HO10011.out).1; omega) | simpa only [Ny10013.out, List.length_set] using h_)
                                          have ql10031 : ((7 : Int) < ((t10009.length : Int) : Int)) = True := eq_true (of_decide_eq_true (by first | (with_reducible assumption) | assumption))
                                          (try have qn10031 : (7 < t10009.length) = True := eq_true (by have h_ : (7 : Int) < ((t10009.length : Int) : Int) := of_decide_eq_true (by first | (with_reducible assumption) | assumption); omega))
                                          obtain ⟨ad10031, e10031, hx10031_0⟩ := Kd.at_int (Kd.R_reads' HO10011.out).2.2 7 p10031 q10031
                                          obtain rfl : (⟨go20, 0, none⟩ : Addr) = ad10031 := (by injection e10031)
                                          (first | simp only [add_plain] at hx10031_0 | simp only [add_at] at hx10031_0 | simp only [Addr.add, Nat.zero_add] at hx10031_0 | skip)
                                          have qi10031 : (7 < y10013.length) = True := eq_true (by omega)
                                          (try rw [show ((7 : Int)).toNat = 7 from rfl] at hx10031_0)
                                          replace p10031 := eq_true p10031
                                          replace q10031 := eq_true q10031
                                          refine start_ (n := 34) (S := fun w' => w'.cell? ⟨go20, 1, none⟩ = some (.int .u8 (rd y10013 1)) ∧ w'.cell? ⟨go20, 4, none⟩ = some (.int .u8 (rd y10013 4)) ∧ w'.cell? ⟨go20, 5, none⟩ = some (.int .u8 (rd y10013 5)) ∧ w'.cell? ⟨go20, 6, none⟩ = some (.int .u8 (rd y10013 6)) ∧ w'.cell? ⟨go20, 7, none⟩ = some (.int .u8 (rd y10013 7))) (ds := []) #[false, false, false, false, false, false, false, false, false, false, false, false, false, false, false, false, false, false, false, false, false, false, false, false, false, false, false, false, false, false, false, false, false, false] (by kernel_rfl) rfl rfl ⟨hx10022_0, hx10028_0, hx10029_0, hx10030_0, hx10031_0⟩ (fun hHeld => ?_); refine with_tabW tinderlaw18_NvramTells.tab15 tinderlaw18_NvramTells.bits15 (fun HT_ HW_ => ?_)
                                          generalize w57.drew = w58 at HO_7 HO_8 HO10011 HO10018 HB HR10026 hx10022_0 hx10028_0 hx10029_0 hx10030_0 hx10031_0 hHeld ⊢
                                          refine pure_ (i := 0) (N := some 84) (v := ?_) (a' := ?_) #[true, false, false, false, false, false, false, false, false, false, false, false, false, false, false, false, false, false, false, false, false, false, false, false, false, false, false, false, false, false, false, false, false, false] rfl rfl (any_of HT_.out (by kernel_rfl)) (fun _ _ _ h => h) (Or.inl ⟨by rfl, ?_⟩) ?_ ?_
                                          rotate_left
                                          · intro w'
                                            go_simp
                                            with_reducible rfl
                                          rotate_left
                                          · simp only [Act.put, List.setIfInBounds_toArray, List.set_cons_zero, List.set_cons_succ, i64_w, i32_w]
                                            rfl
                                          refine pure_ (i := 1) (N := some 85) (v := ?_) (a' := ?_) #[true, true, false, false, false, false, false, false, false, false, false, false, false, false, false, false, false, false, false, false, false, false, false, false, false, false, false, false, false, false, false, false, false, false] rfl rfl (any_of HT_.out (by kernel_rfl)) (fun _ _ _ h => h) (Or.inl ⟨by rfl, ?_⟩) ?_ ?_
                                          rotate_left
                                          · intro w'
                                            go_simp
                                            with_reducible rfl
                                          rotate_left
                                          · simp only [Act.put, List.setIfInBounds_toArray, List.set_cons_zero, List.set_cons_succ, i64_w, i32_w]
                                            rfl
                                          refine pure_ (i := 2) (N := some 86) (v := ?_) (a' := ?_) #[true, true, true, false, false, false, false, false, false, false, false, false, false, false, false, false, false, false, false, false, false, false, false, false, false, false, false, false, false, false, false, false, false, false] rfl rfl (any_of HT_.out (by kernel_rfl)) (fun _ _ _ h => h) (Or.inl ⟨by rfl, ?_⟩) ?_ ?_
                                          rotate_left
                                          · intro w'
                                            go_simp
                                            with_reducible rfl
                                          rotate_left
                                          · simp only [Act.put, List.setIfInBounds_toArray, List.set_cons_zero, List.set_cons_succ, i64_w, i32_w]
                                            rfl
                                          refine pure_ (i := 4) (N := some 88) (v := ?_) (a' := ?_) #[true, true, true, false, true, false, false, false, false, false, false, false, false, false, false, false, false, false, false, false, false, false, false, false, false, false, false, false, false, false, false, false, false, false] rfl rfl (any_of HT_.out (by kernel_rfl)) (fun _ _ _ h => h) (Or.inl ⟨by rfl, ?_⟩) ?_ ?_
                                          rotate_left
                                          · intro w'
                                            go_simp
                                            with_reducible rfl
                                          rotate_left
                                          · simp only [Act.put, List.setIfInBounds_toArray, List.set_cons_zero, List.set_cons_succ, i64_w, i32_w]
                                            rfl
                                          refine pure_ (i := 5) (N := some 89) (v := ?_) (a' := ?_) #[true, true, true, false, true, true, false, false, false, false, false, false, false, false, false, false, false, false, false, false, false, false, false, false, false, false, false, false, false, false, false, false, false, false] rfl rfl (any_of HT_.out (by kernel_rfl)) (fun _ _ _ h => h) (Or.inl ⟨by rfl, ?_⟩) ?_ ?_
                                          rotate_left
                                          · intro w'
                                            go_simp
                                            with_reducible rfl
                                          rotate_left
                                          · simp only [Act.put, List.setIfInBounds_toArray, List.set_cons_zero, List.set_cons_succ, i64_w, i32_w]
                                            rfl
                                          refine pure_ (i := 6) (N := some 90) (v := ?_) (a' := ?_) #[true, true, true, false, true, true, true, false, false, false, false, false, false, false, false, false, false, false, false, false, false, false, false, false, false, false, false, false, false, false, false, false, false, false] rfl rfl (any_of HT_.out (by kernel_rfl)) (fun _ _ _ h => h) (Or.inl ⟨by rfl, ?_⟩) ?_ ?_
                                          rotate_left
                                          · intro w'
                                            go_simp
                                            with_reducible rfl
                                          rotate_left
                                          · simp only [Act.put, List.setIfInBounds_toArray, List.set_cons_zero, List.set_cons_succ, i64_w, i32_w]
                                            rfl
                                          refine pure_ (i := 7) (N := some 91) (v := ?_) (a' := ?_) #[true, true, true, false, true, true, true, true, false, false, false, false, false, false, false, false, false, false, false, false, false, false, false, false, false, false, false, false, false, false, false, false, false, false] rfl rfl (any_of HT_.out (by kernel_rfl)) (fun _ _ _ h => h) (Or.inl ⟨by rfl, ?_⟩) ?_ ?_
                                          rotate_left
                                          · intro w'
                                            go_simp
                                            with_reducible rfl
                                          rotate_left
                                          · simp only [Act.put, List.setIfInBounds_toArray, List.set_cons_zero, List.set_cons_succ, i64_w, i32_w]
                                            rfl
                                          refine pure_ (i := 9) (N := some 93) (v := ?_) (a' := ?_) #[true, true, true, false, true, true, true, true, false, true, false, false, false, false, false, false, false, false, false, false, false, false, false, false, false, false, false, false, false, false, false, false, false, false] rfl rfl (any_of HT_.out (by kernel_rfl)) (fun _ _ _ h => h) (Or.inl ⟨by rfl, ?_⟩) ?_ ?_
                                          rotate_left
                                          · intro w'
                                            go_simp
                                            with_reducible rfl
                                          rotate_left
                                          · simp only [Act.put, List.setIfInBounds_toArray, List.set_cons_zero, List.set_cons_succ, i64_w, i32_w]
                                            rfl
                                          refine pure_ (i := 10) (N := some 94) (v := ?_) (a' := ?_) #[true, true, true, false, true, true, true, true, false, true, true, false, false, false, false, false, false, false, false, false, false, false, false, false, false, false, false, false, false, false, false, false, false, false] rfl rfl (any_of HT_.out (by kernel_rfl)) (fun _ _ _ h => h) (Or.inl ⟨by rfl, ?_⟩) ?_ ?_
                                          rotate_left
                                          · intro w'
                                            go_simp
                                            with_reducible rfl
                                          rotate_left
                                          · simp only [Act.put, List.setIfInBounds_toArray, List.set_cons_zero, List.set_cons_succ, i64_w, i32_w]
                                            rfl
                                          refine pure_ (i := 14) (N := some 98) (v := ?_) (a' := ?_) #[true, true, true, false, true, true, true, true, false, true, true, false, false, false, true, false, false, false, false, false, false, false, false, false, false, false, false, false, false, false, false, false, false, false] rfl rfl (any_of HT_.out (by kernel_rfl)) (fun _ _ _ h => h) (Or.inl ⟨by rfl, ?_⟩) ?_ ?_
                                          rotate_left
                                          · intro w'
                                            go_simp
                                            with_reducible rfl
                                          rotate_left
                                          · simp only [Act.put, List.setIfInBounds_toArray, List.set_cons_zero, List.set_cons_succ, i64_w, i32_w]
                                            rfl
                                          refine pure_ (i := 15) (N := some 99) (v := ?_) (a' := ?_) #[true, true, true, false, true, true, true, true, false, true, true, false, false, false, true, true, false, false, false, false, false, false, false, false, false, false, false, false, false, false, false, false, false, false] rfl rfl (any_of HT_.out (by kernel_rfl)) (fun _ _ _ h => h) (Or.inl ⟨by rfl, ?_⟩) ?_ ?_
                                          rotate_left
                                          · intro w'
                                            go_simp
                                            with_reducible rfl
                                          rotate_left
                                          · simp only [Act.put, List.setIfInBounds_toArray, List.set_cons_zero, List.set_cons_succ, i64_w, i32_w]
                                            rfl
                                          refine pure_ (i := 20) (N := some 104) (v := ?_) (a' := ?_) #[true, true, true, false, true, true, true, true, false, true, true, false, false, false, true, true, false, false, false, false, true, false, false, false, false, false, false, false, false, false, false, false, false, false] rfl rfl (any_of HT_.out (by kernel_rfl)) (fun _ _ _ h => h) (Or.inl ⟨by rfl, ?_⟩) ?_ ?_
                                          rotate_left
                                          · intro w'
                                            go_simp
                                            with_reducible rfl
                                          rotate_left
                                          · simp only [Act.put, List.setIfInBounds_toArray, List.set_cons_zero, List.set_cons_succ, i64_w, i32_w]
                                            rfl
                                          refine pure_ (i := 21) (N := some 105) (v := ?_) (a' := ?_) #[true, true, true, false, true, true, true, true, false, true, true, false, false, false, true, true, false, false, false, false, true, true, false, false, false, false, false, false, false, false, false, false, false, false] rfl rfl (any_of HT_.out (by kernel_rfl)) (fun _ _ _ h => h) (Or.inl ⟨by rfl, ?_⟩) ?_ ?_
                                          rotate_left
                                          · intro w'
                                            go_simp
                                            with_reducible rfl
                                          rotate_left
                                          · simp only [Act.put, List.setIfInBounds_toArray, List.set_cons_zero, List.set_cons_succ, i64_w, i32_w]
                                            rfl
                                          refine pure_ (i := 26) (N := some 110) (v := ?_) (a' := ?_) #[true, true, true, false, true, true, true, true, false, true, true, false, false, false, true, true, false, false, false, false, true, true, false, false, false, false, true, false, false, false, false, false, false, false] rfl rfl (any_of HT_.out (by kernel_rfl)) (fun _ _ _ h => h) (Or.inl ⟨by rfl, ?_⟩) ?_ ?_
                                          rotate_left
                                          · intro w'
                                            go_simp
                                            with_reducible rfl
                                          rotate_left
                                          · simp only [Act.put, List.setIfInBounds_toArray, List.set_cons_zero, List.set_cons_succ, i64_w, i32_w]
                                            rfl
                                          refine pure_ (i := 27) (N := some 111) (v := ?_) (a' := ?_) #[true, true, true, false, true, true, true, true, false, true, true, false, false, false, true, true, false, false, false, false, true, true, false, false, false, false, true, true, false, false, false, false, false, false] rfl rfl (any_of HT_.out (by kernel_rfl)) (fun _ _ _ h => h) (Or.inl ⟨by rfl, ?_⟩) ?_ ?_
                                          rotate_left
                                          · intro w'
                                            go_simp
                                            with_reducible rfl
                                          rotate_left
                                          · simp only [Act.put, List.setIfInBounds_toArray, List.set_cons_zero, List.set_cons_succ, i64_w, i32_w]
                                            rfl
                                          refine take_ (i := 3) (N := some 87) (v := ?_) (a' := ?_) #[true, true, true, true, true, true, true, true, false, true, true, false, false, false, true, true, false, false, false, false, true, true, false, false, false, false, true, true, false, false, false, false, false, false] rfl rfl (take_ofW HT_.out HW_.out (by kernel_rfl)) (fun _ _ _ h => h) (Or.inl ⟨by rfl, ?_⟩) hHeld ?_ ?_
                                          rotate_left
                                          · rintro w' ⟨s0, s1, s2, s3, s4⟩
                                            go_simp
                                            with_reducible rfl
                                          rotate_left
                                          · simp only [Act.put, List.setIfInBounds_toArray, List.set_cons_zero, List.set_cons_succ, i64_w, i32_w]
                                            rfl
                                          refine take_ (i := 11) (N := some 95) (v := ?_) (a' := ?_) #[true, true, true, true, true, true, true, true, false, true, true, true, false, false, true, true, false, false, false, false, true, true, false, false, false, false, true, true, false, false, false, false, false, false] rfl rfl (take_ofW HT_.out HW_.out (by kernel_rfl)) (fun _ _ _ h => h) (Or.inl ⟨by rfl, ?_⟩) hHeld ?_ ?_
                                          rotate_left
                                          · rintro w' ⟨s0, s1, s2, s3, s4⟩
                                            go_simp
                                            with_reducible rfl
                                          rotate_left
                                          · simp only [Act.put, List.setIfInBounds_toArray, List.set_cons_zero, List.set_cons_succ, i64_w, i32_w]
                                            rfl
                                          refine pure_ (i := 12) (N := some 96) (v := ?_) (a' := ?_) #[true, true, true, true, true, true, true, true, false, true, true, true, true, false, true, true, false, false, false, false, true, true, false, false, false, false, true, true, false, false, false, false, false, false] rfl rfl (any_of HT_.out (by kernel_rfl)) (fun _ _ _ h => h) (Or.inl ⟨by rfl, ?_⟩) ?_ ?_
                                          rotate_left
                                          · intro w'
                                            go_simp
                                            with_reducible rfl
                                          rotate_left
                                          · simp only [Act.put, List.setIfInBounds_toArray, List.set_cons_zero, List.set_cons_succ, i64_w, i32_w]
                                            rfl
                                          refine pure_ (i := 13) (N := some 97) (v := ?_) (a' := ?_) #[true, true, true, true, true, true, true, true, false, true, true, true, true, true, true, true, false, false, false, false, true, true, false, false, false, false, true, true, false, false, false, false, false, false] rfl rfl (any_of HT_.out (by kernel_rfl)) (fun _ _ _ h => h) (Or.inl ⟨by rfl, ?_⟩) ?_ ?_
                                          rotate_left
                                          · intro w'
                                            go_simp
                                            with_reducible rfl
                                          rotate_left
                                          · simp only [Act.put, List.setIfInBounds_toArray, List.set_cons_zero, List.set_cons_succ, i64_w, i32_w]
                                            rfl
                                          refine take_ (i := 16) (N := some 100) (v := ?_) (a' := ?_) #[true, true, true, true, true, true, true, true, false, true, true, true, true, true, true, true, true, false, false, false, true, true, false, false, false, false, true, true, false, false, false, false, false, false] rfl rfl (take_ofW HT_.out HW_.out (by kernel_rfl)) (fun _ _ _ h => h) (Or.inl ⟨by rfl, ?_⟩) hHeld ?_ ?_
                                          rotate_left
                                          · rintro w' ⟨s0, s1, s2, s3, s4⟩
                                            go_simp
                                            with_reducible rfl
                                          rotate_left
                                          · simp only [Act.put, List.setIfInBounds_toArray, List.set_cons_zero, List.set_cons_succ, i64_w, i32_w]
                                            rfl
                                          refine pure_ (i := 17) (N := some 101) (v := ?_) (a' := ?_) #[true, true, true, true, true, true, true, true, false, true, true, true, true, true, true, true, true, true, false, false, true, true, false, false, false, false, true, true, false, false, false, false, false, false] rfl rfl (any_of HT_.out (by kernel_rfl)) (fun _ _ _ h => h) (Or.inl ⟨by rfl, ?_⟩) ?_ ?_
                                          rotate_left
                                          · intro w'
                                            go_simp
                                            with_reducible rfl
                                          rotate_left
                                          · simp only [Act.put, List.setIfInBounds_toArray, List.set_cons_zero, List.set_cons_succ, i64_w, i32_w]
                                            rfl
                                          refine pure_ (i := 18) (N := some 102) (v := ?_) (a' := ?_) #[true, true, true, true, true, true, true, true, false, true, true, true, true, true, true, true, true, true, true, false, true, true, false, false, false, false, true, true, false, false, false, false, false, false] rfl rfl (any_of HT_.out (by kernel_rfl)) (fun _ _ _ h => h) (Or.inl ⟨by rfl, ?_⟩) ?_ ?_
                                          rotate_left
                                          · intro w'
                                            go_simp
                                            with_reducible rfl
                                          rotate_left
                                          · simp only [Act.put, List.setIfInBounds_toArray, List.set_cons_zero, List.set_cons_succ, i64_w, i32_w]
                                            rfl
                                          refine pure_ (i := 19) (N := some 103) (v := ?_) (a' := ?_) #[true, true, true, true, true, true, true, true, false, true, true, true, true, true, true, true, true, true, true, true, true, true, false, false, false, false, true, true, false, false, false, false, false, false] rfl rfl (any_of HT_.out (by kernel_rfl)) (fun _ _ _ h => h) (Or.inl ⟨by rfl, ?_⟩) ?_ ?_
                                          rotate_left
                                          · intro w'
                                            go_simp
                                            with_reducible rfl
                                          rotate_left
                                          · simp only [Act.put, List.setIfInBounds_toArray, List.set_cons_zero, List.set_cons_succ, i64_w, i32_w]
                                            rfl
                                          refine take_ (i := 22) (N := some 106) (v := ?_) (a' := ?_) #[true, true, true, true, true, true, true, true, false, true, true, true, true, true, true, true, true, true, true, true, true, true, true, false, false, false, true, true, false, false, false, false, false, false] rfl rfl (take_ofW HT_.out HW_.out (by kernel_rfl)) (fun _ _ _ h => h) (Or.inl ⟨by rfl, ?_⟩) hHeld ?_ ?_
                                          rotate_left
                                          · rintro w' ⟨s0, s1, s2, s3, s4⟩
                                            go_simp
                                            with_reducible rfl
                                          rotate_left
                                          · simp only [Act.put, List.setIfInBounds_toArray, List.set_cons_zero, List.set_cons_succ, i64_w, i32_w]
                                            rfl
                                          refine pure_ (i := 23) (N := some 107) (v := ?_) (a' := ?_) #[true, true, true, true, true, true, true, true, false, true, true, true, true, true, true, true, true, true, true, true, true, true, true, true, false, false, true, true, false, false, false, false, false, false] rfl rfl (any_of HT_.out (by kernel_rfl)) (fun _ _ _ h => h) (Or.inl ⟨by rfl, ?_⟩) ?_ ?_
                                          rotate_left
                                          · intro w'
                                            go_simp
                                            with_reducible rfl
                                          rotate_left
                                          · simp only [Act.put, List.setIfInBounds_toArray, List.set_cons_zero, List.set_cons_succ, i64_w, i32_w]
                                            rfl
                                          refine pure_ (i := 24) (N := some 108) (v := ?_) (a' := ?_) #[true, true, true, true, true, true, true, true, false, true, true, true, true, true, true, true, true, true, true, true, true, true, true, true, true, false, true, true, false, false, false, false, false, false] rfl rfl (any_of HT_.out (by kernel_rfl)) (fun _ _ _ h => h) (Or.inl ⟨by rfl, ?_⟩) ?_ ?_
                                          rotate_left
                                          · intro w'
                                            go_simp
                                            with_reducible rfl
                                          rotate_left
                                          · simp only [Act.put, List.setIfInBounds_toArray, List.set_cons_zero, List.set_cons_succ, i64_w, i32_w]
                                            rfl
                                          refine pure_ (i := 25) (N := some 109) (v := ?_) (a' := ?_) #[true, true, true, true, true, true, true, true, false, true, true, true, true, true, true, true, true, true, true, true, true, true, true, true, true, true, true, true, false, false, false, false, false, false] rfl rfl (any_of HT_.out (by kernel_rfl)) (fun _ _ _ h => h) (Or.inl ⟨by rfl, ?_⟩) ?_ ?_
                                          rotate_left
                                          · intro w'
                                            go_simp
                                            with_reducible rfl
                                          rotate_left
                                          · simp only [Act.put, List.setIfInBounds_toArray, List.set_cons_zero, List.set_cons_succ, i64_w, i32_w]
                                            rfl
                                          refine take_ (i := 28) (N := some 112) (v := ?_) (a' := ?_) #[true, true, true, true, true, true, true, true, false, true, true, true, true, true, true, true, true, true, true, true, true, true, true, true, true, true, true, true, true, false, false, false, false, false] rfl rfl (take_ofW HT_.out HW_.out (by kernel_rfl)) (fun _ _ _ h => h) (Or.inl ⟨by rfl, ?_⟩) hHeld ?_ ?_
                                          rotate_left
                                          · rintro w' ⟨s0, s1, s2, s3, s4⟩
                                            go_simp
                                            with_reducible rfl
                                          rotate_left
                                          · simp only [Act.put, List.setIfInBounds_toArray, List.set_cons_zero, List.set_cons_succ, i64_w, i32_w]
                                            rfl
                                          refine pure_ (i := 29) (N := some 113) (v := ?_) (a' := ?_) #[true, true, true, true, true, true, true, true, false, true, true, true, true, true, true, true, true, true, true, true, true, true, true, true, true, true, true, true, true, true, false, false, false, false] rfl rfl (any_of HT_.out (by kernel_rfl)) (fun _ _ _ h => h) (Or.inl ⟨by rfl, ?_⟩) ?_ ?_
                                          rotate_left
                                          · intro w'
                                            go_simp
                                            with_reducible rfl
                                          rotate_left
                                          · simp only [Act.put, List.setIfInBounds_toArray, List.set_cons_zero, List.set_cons_succ, i64_w, i32_w]
                                            rfl
                                          refine pure_ (i := 30) (N := some 114) (v := ?_) (a' := ?_) #[true, true, true, true, true, true, true, true, false, true, true, true, true, true, true, true, true, true, true, true, true, true, true, true, true, true, true, true, true, true, true, false, false, false] rfl rfl (any_of HT_.out (by kernel_rfl)) (fun _ _ _ h => h) (Or.inl ⟨by rfl, ?_⟩) ?_ ?_
                                          rotate_left
                                          · intro w'
                                            go_simp
                                            with_reducible rfl
                                          rotate_left
                                          · simp only [Act.put, List.setIfInBounds_toArray, List.set_cons_zero, List.set_cons_succ, i64_w, i32_w]
                                            rfl
                                          refine one_ (i := 8) (N := some 92) #[true, true, true, true, true, true, true, true, true, true, true, true, true, true, true, true, true, true, true, true, true, true, true, true, true, true, true, true, true, true, true, false, false, false] rfl rfl (one_of HT_.out (by kernel_rfl)) (by decide) (fun K hK => ?_)
                                          refine goes_ Try.func12 (by kernel_rfl) rfl #[.int .u8 (rd y10013 1), .slice A59 y10023.length c59] (by rfl) rfl rfl (by (try simp only [List.map_toArray, List.map_cons, List.map_nil]); first | done | rfl | (simp only [List.length_drop, List.length_take]; rfl)) ?_
                                          with_reducible refine (tinderref18_Sum.calls kj7 (rd y10013 1) _ _ y10023 t10027 _ ?side1 ?side2 A46.out).mono ?_
                                          (case side1 => repeat (first | exact (by repeat (first | (with_reducible exact HR10026.out) | (with_reducible refine Kd.C_alloc ?_ _) | (with_reducible refine Kd.C_drewN ?_ _) | (with_reducible refine Kd.C_drew ?_) | exact HR10026.out)) | (with_reducible refine Kd.C_alloc ?_ _) | (with_reducible refine Kd.C_drewN ?_ _) | (with_reducible refine Kd.C_drew ?_)))
                                          (case side2 => exact HC10026.out)
                                          rintro e w60 ⟨rfl, hb⟩
                                          have HS0_ := (hb.cell (World.block_lt_of_cell? _ _ (hHeld.1))).trans (hHeld.1)
                                          have HS1_ := (hb.cell (World.block_lt_of_cell? _ _ (hHeld.2.1))).trans (hHeld.2.1)
                                          have HS2_ := (hb.cell (World.block_lt_of_cell? _ _ (hHeld.2.2.1))).trans (hHeld.2.2.1)
                                          have HS3_ := (hb.cell (World.block_lt_of_cell? _ _ (hHeld.2.2.2.1))).trans (hHeld.2.2.2.1)
                                          have HS4_ := (hb.cell (World.block_lt_of_cell? _ _ (hHeld.2.2.2.2))).trans (hHeld.2.2.2.2)
                                          refine ⟨_, rfl, ?_⟩
                                          have n0_ := Aside0.mk (Kd.R_below (by (with_reducible repeat (first | apply Kd.R_alloc | apply Kd.R_drewN | apply Kd.R_drew)); exact HO_7.out) hb)
                                          have n1_ := Aside0.mk (Kd.R_below (by (with_reducible repeat (first | apply Kd.R_alloc | apply Kd.R_drewN | apply Kd.R_drew)); exact HO_8.out) hb)
                                          have n2_ := Aside0.mk (Kd.R_below (by (with_reducible repeat (first | apply Kd.R_alloc | apply Kd.R_drewN | apply Kd.R_drew)); exact HO10011.out) hb)
                                          have n3_ := Aside0.mk (Kd.R_below (by (with_reducible repeat (first | apply Kd.R_alloc | apply Kd.R_drewN | apply Kd.R_drew)); exact HO10018.out) hb)
                                          have n4_ := Aside0.mk (Kd.C_below (by repeat (first | (with_reducible exact HR10026.out) | (with_reducible refine Kd.C_alloc ?_ _) | (with_reducible refine Kd.C_drewN ?_ _) | (with_reducible refine Kd.C_drew ?_) | exact HR10026.out)) hb)
                                          have n5_ := Aside0.mk (below_step (by repeat (first | (with_reducible first | exact HB.out | apply below_alloc | apply pw_below_drewN | apply below_drew1) | exact HB.out)) hb)
                                          clear HO_7
                                          clear HO_8
                                          clear HO10011
                                          clear HO10018
                                          clear HR10026
                                          clear HB
                                          have HO_7 := n0_
                                          have HO_8 := n1_
                                          have HO10011 := n2_
                                          have HO10018 := n3_
                                          have HR10026 := n4_
                                          have HB := n5_
                                          clear n0_ n1_ n2_ n3_ n4_ n5_
                                          (try clear hb)
                                          (try clear hb2)
                                          (try clear hk)
                                          (try clear hi)
                                          refine hK.out _ _ ⟨HS0_, HS1_, HS2_, HS3_, HS4_⟩ (fun hHeld => ?_)
                                          clear hK K
                                          refine norm_ (a' := ?_) ?_ ?_
                                          rotate_left
                                          · show Act.put _ (some 92) _ = _
                                            simp only [Act.put, List.setIfInBounds_toArray, List.set_cons_zero, List.set_cons_succ, i64_w, i32_w]
                                            rfl
                                          refine pure_ (i := 31) (N := some 115) (v := ?_) (a' := ?_) #[true, true, true, true, true, true, true, true, true, true, true, true, true, true, true, true, true, true, true, true, true, true, true, true, true, true, true, true, true, true, true, true, false, false] rfl rfl (any_of HT_.out (by kernel_rfl)) (fun _ _ _ h => h) (Or.inl ⟨by rfl, ?_⟩) ?_ ?_
                                          rotate_left
                                          · intro w'
                                            go_simp
                                            with_reducible rfl
                                          rotate_left
                                          · simp only [Act.put, List.setIfInBounds_toArray, List.set_cons_zero, List.set_cons_succ, i64_w, i32_w]
                                            rfl
                                          refine pure_ (i := 32) (N := some 116) (v := ?_) (a' := ?_) #[true, true, true, true, true, true, true, true, true, true, true, true, true, true, true, true, true, true, true, true, true, true, true, true, true, true, true, true, true, true, true, true, true, false] rfl rfl (any_of HT_.out (by kernel_rfl)) (fun _ _ _ h => h) (Or.inl ⟨by rfl, ?_⟩) ?_ ?_
                                          rotate_left
                                          · intro w'
                                            go_simp
                                            with_reducible rfl
                                          rotate_left
                                          · simp only [Act.put, List.setIfInBounds_toArray, List.set_cons_zero, List.set_cons_succ, i64_w, i32_w]
                                            rfl
                                          refine pure_ (i := 33) (N := some 6) (v := ?_) (a' := ?_) #[true, true, true, true, true, true, true, true, true, true, true, true, true, true, true, true, true, true, true, true, true, true, true, true, true, true, true, true, true, true, true, true, true, true] rfl rfl (any_of HT_.out (by kernel_rfl)) (fun _ _ _ h => h) (Or.inl ⟨by rfl, ?_⟩) ?_ ?_
                                          rotate_left
                                          · intro w'
                                            go_simp
                                            with_reducible rfl
                                          rotate_left
                                          · simp only [Act.put, List.setIfInBounds_toArray, List.set_cons_zero, List.set_cons_succ, i64_w, i32_w]
                                            rfl
                                          refine done_ (done_of HT_.out (by kernel_rfl)) ?_
                                          try go_wp2
                                          go_ret
                                          exact ⟨by first | (exact congrArg (fun x => Ending.returned (Value.bool (t10016 == (t10027 == x)))) (by simp only [show ∀ n : Int, IntKind.u32.wrap n = n % 4294967296 from fun n => by simp [IntKind.wrap, IntKind.bits, IntKind.signed]]; omega)) | rfl | (simp [errW_none, errW_some] <;> rfl) | (simp only [← hji17]; first | rfl | (simp [errW_none, errW_some] <;> rfl)) | (simp [*, errW_none, errW_some] <;> rfl), by repeat (first | (with_reducible first | exact HB.out | apply below_alloc | apply pw_below_drewN | apply below_drew1) | exact HB.out)⟩
                                        · rw [if_neg c50] at H
                                          exact absurd H (by simp)
                                      · rw [if_neg c49] at H
                                        exact absurd H (by simp)
                                    · rw [if_neg c48] at H
                                      exact absurd H (by simp)
                                  · rw [if_neg c47] at H
                                    exact absurd H (by simp)
                                · rw [if_neg c45] at H
                                  exact absurd H (by simp)
                              · rw [if_neg c44] at H
                                exact absurd H (by simp)
                            · rw [if_neg c43] at H
                              exact absurd H (by simp)
                          · rw [if_neg c42] at H
                            have c42b0 : decide ((wrap64 ((wrap64 (256 * (wrap64 (rd y10013 2)))) + (wrap64 (rd y10013 3)))) ≤ 248) = false := decide_eq_false c42
                            clear c42
                            by_cases c61 : t10016 = true
                            · subst c61
                              have H1 : (some false) = some r := by rw [if_pos rfl] at H; exact H
                              clear H
                              have H := H1
                              clear H1
                              obtain rfl := Option.some.inj H
                              obtain ⟨Ao62, co62, eo62⟩ := Kd.R_slice HO_8.out
                              subst eo62
                              try go_wp2_with (first | ((with_reducible refine gate_callee (f := 20) rfl ?_); refine goesL_ (some 34) rfl rfl Try.func20 (by kernel_rfl) rfl #[.slice Ao12 y10002.length co12, .slice Ao62 t10005.length co62, .int .i64 (t10005.length : Int)] rfl (by (try simp only [List.map_toArray, List.map_cons, List.map_nil]); first | done | rfl | (simp only [List.length_drop, List.length_take]; rfl)) ?_; (with_reducible refine (nvram_Apply.calls kj7 _ _ y10002 _ _ t10005 (t10005.length : Int) t10009 _ ?side1 ?side2 ?side3 ?side4 A16.out).mono ?_); (case side1 => repeat (first | exact (Kd.R_reads' HO_7.out).2.2 | (with_reducible refine Kd.C_alloc ?_ _) | (with_reducible refine Kd.C_drewN ?_ _) | (with_reducible refine Kd.C_drew ?_))); (case side2 => exact (Kd.R_reads' HO_7.out).2.1); (case side3 => repeat (first | exact (Kd.R_reads' HO_8.out).2.2 | (with_reducible refine Kd.C_alloc ?_ _) | (with_reducible refine Kd.C_drewN ?_ _) | (with_reducible refine Kd.C_drew ?_))); (case side4 => exact (Kd.R_reads' HO_8.out).2.1); rintro e w63 ⟨v10010, rfl, ho0, hb⟩; refine ⟨_, rfl, ?_⟩; have n0_ := Aside0.mk (Kd.R_elder' (by (with_reducible repeat (first | apply Kd.R_alloc | apply Kd.R_drewN | apply Kd.R_drew)); exact HO_7.out) (Kd.R_base ho0) hb); have n1_ := Aside0.mk (Kd.R_below (by (with_reducible repeat (first | apply Kd.R_alloc | apply Kd.R_drewN | apply Kd.R_drew)); exact HO_8.out) hb); have n2_ := Aside0.mk (Kd.R_lower (Kd.R_new' ho0 (Kd.R_lt (by (with_reducible repeat (first | apply Kd.R_alloc | apply Kd.R_drewN | apply Kd.R_drew)); exact HO_7.out))) (below_size (by repeat (first | (with_reducible first | exact HB.out | apply below_alloc | apply pw_below_drewN | apply below_drew1) | exact HB.out)))); have n3_ := Aside0.mk (below_step (by repeat (first | (with_reducible first | exact HB.out | apply below_alloc | apply pw_below_drewN | apply below_drew1) | exact HB.out)) hb); clear HO_7; clear HO_8; clear HB; have HO_7 := n0_; have HO_8 := n1_; have HO10011 := n2_; have HB := n3_; clear n0_ n1_ n2_ n3_; (try clear hb); (try clear hb2); (try clear hk); (try clear hi); (try clear ho0); obtain ⟨Ao64, co64, eo64⟩ := Kd.R_slice HO10011.out; subst eo64; have p10012 : 0 ≤ ((ji17) : Int) := of_decide_eq_true (by first | (with_reducible assumption) | assumption); have q10012 : (ji17) < (t10009.length : Int) := of_decide_eq_true (by first | (with_reducible assumption) | assumption); obtain ⟨ad10012, e10012, hx10012_0⟩ := Kd.at_int (Kd.R_reads' HO10011.out).2.2 (ji17) p10012 q10012; cases e10012; replace p10012 := eq_true p10012; replace q10012 := eq_true q10012; have p20 : 0 ≤ ((ji17) : Int) := of_decide_eq_true (by first | (with_reducible assumption) | assumption); have q20 : ((ji17) : Int) < ((t10009.length : Int) : Int) := of_decide_eq_true (by first | (with_reducible assumption) | assumption); obtain ⟨go20, co20, eo20, gb20, gl20, cl20, HG20⟩ := Kd.R_form HO10011.out (by omega); (first | cases eo20 | (injection eo20 with ea_ en_ ec_; (first | subst ea_ | (injection ea_ with ea_; subst ea_)); subst ec_; clear en_)); have GB20 := Aside0.mk gb20; have GG20 := Aside0.mk HG20; clear gb20 gl20 HG20; (first | simp only [add_plain] at hx10012_0 | skip); obtain ⟨hx20_0, hf20_0⟩ := Kd.R_celln 0 HO10011.out ((ji17) : Int) p20 q20; replace p20 := eq_true p20; replace q20 := eq_true q20; have n_ := Aside0.mk (Kd.R_mono (ok' := (fun k_ => some k_ ≠ (.slice Ao12 y10002.length co12 : Value).ownBlock)) HO10011.out (fun k_ hk => hk.2)); clear HO10011; have HO10011 := n_; clear n_; obtain ⟨hy65_, hz65_⟩ := Kd.R_celln 0 HO10011.out ((ji17) : Int) (of_decide_eq_true (by first | (with_reducible assumption) | assumption)) (of_decide_eq_true (by first | (with_reducible assumption) | assumption)); have HP65 := Kd.R_putg HO10011.out ((ji17) : Int) (Go.bits .xor .u8 (rd t10009 (ji17)) a2)) | ((with_reducible refine gate_store (t := 5) (p := 46) rfl ?_); refine store_event (t := 5) (p := 46) (v := ?vo_w66) (w1 := (w63.setCell ⟨go20, ((ji17) : Int).toNat, none⟩ (.int .u8 (Go.bits .xor .u8 (rd t10009 (ji17)) a2)))) ?hg ?ho ?hn ?hr ?_; (case ho => rfl); (case hg => rfl); (case hn => rfl); (case hr => first | (go_simp; done) | (go_simp; rfl)); intro w66 hw; have hg : w63.grownBy w66 (some go20) := (by rw [hw]; exact HP65.2); have hp_ : Kd.R (Kd.int .u8) 5 w66 w.heap.size (fun k_ => some k_ ≠ (.slice Ao12 y10002.length co12 : Value).ownBlock) (.slice (some ⟨go20, 0, none⟩) t10009.length co64) y10013 := (by rw [hw, Ny10013.out]; exact HP65.1); clear HP65; have n0_ := Aside0.mk (Kd.R_after (v := (.slice (some ⟨go20, 0, none⟩) t10009.length co64)) (v1 := (.slice (some ⟨go20, 0, none⟩) t10009.length co64)) (ok := (fun _ => True)) (by (with_reducible repeat (first | apply Kd.R_alloc | apply Kd.R_drewN | apply Kd.R_drew)); exact HO_7.out) hg (.inl rfl)); have n1_ := Aside0.mk (Kd.R_over' (v := (.slice (some ⟨go20, 0, none⟩) t10009.length co64)) (by (with_reducible repeat (first | apply Kd.R_alloc | apply Kd.R_drewN | apply Kd.R_drew)); exact HO_8.out) (Kd.R_typed HO10011.out) (by decide) hg); have n2_ := Aside0.mk (hp_); have n3_ := Aside0.mk ((by rw [hw]; exact below_set (HB.out) GB20.out : Below w.heap.size w w66)); clear HO_7; clear HO_8; clear HO10011; clear HB; have HO_7 := n0_; have HO_8 := n1_; have HO10011 := n2_; have HB := n3_; clear n0_ n1_ n2_ n3_; clear hg hw hp_) | ((with_reducible refine gate_callee (f := 14) rfl ?_); refine goesL_ (some 49) rfl rfl Try.func14 (by kernel_rfl) rfl #[.slice (some ⟨go20, 0, none⟩) y10013.length co64] rfl (by (try simp only [List.map_toArray, List.map_cons, List.map_nil]); first | done | (rw [show y10013.length = t10009.length from (Kd.R_reads' HO10011.out).1.symm] <;> rfl) | rfl | (simp only [List.length_drop, List.length_take]; rfl)) ?_; (with_reducible refine (nvram_Recover.calls _ _ y10013 t10014 t10015 true _ ?side1 ?side2 A21.out).mono ?_); (case side1 => repeat (first | exact (Kd.R_reads' HO10011.out).2.2 | (with_reducible refine Kd.C_alloc ?_ _) | (with_reducible refine Kd.C_drewN ?_ _) | (with_reducible refine Kd.C_drew ?_))); (case side2 => rw [show y10013.length = t10009.length from (Kd.R_reads' HO10011.out).1.symm]; exact (Kd.R_reads' HO10011.out).2.1); rintro e w67 ⟨v10017, rfl, ho0, hb⟩; refine ⟨_, rfl, ?_⟩; have n0_ := Aside0.mk (Kd.R_elder' (by (with_reducible repeat (first | apply Kd.R_alloc | apply Kd.R_drewN | apply Kd.R_drew)); exact HO_7.out) (Kd.R_base ho0) hb); have n1_ := Aside0.mk (Kd.R_below (by (with_reducible repeat (first | apply Kd.R_alloc | apply Kd.R_drewN | apply Kd.R_drew)); exact HO_8.out) hb); have n2_ := Aside0.mk (Kd.R_elder' (by (with_reducible repeat (first | apply Kd.R_alloc | apply Kd.R_drewN | apply Kd.R_drew)); exact HO10011.out) (Kd.R_base ho0) hb); have n3_ := Aside0.mk (Kd.R_lower (Kd.R_new' (Kd.R_new' ho0 (Kd.R_lt (by (with_reducible repeat (first | apply Kd.R_alloc | apply Kd.R_drewN | apply Kd.R_drew)); exact HO_7.out))) (Kd.R_lt (by (with_reducible repeat (first | apply Kd.R_alloc | apply Kd.R_drewN | apply Kd.R_drew)); exact HO10011.out))) (below_size (by repeat (first | (with_reducible first | exact HB.out | apply below_alloc | apply pw_below_drewN | apply below_drew1) | exact HB.out)))); have n4_ := Aside0.mk (below_step (by repeat (first | (with_reducible first | exact HB.out | apply below_alloc | apply pw_below_drewN | apply below_drew1) | exact HB.out)) hb); clear HO_7; clear HO_8; clear HO10011; clear HB; have HO_7 := n0_; have HO_8 := n1_; have HO10011 := n2_; have HO10018 := n3_; have HB := n4_; clear n0_ n1_ n2_ n3_ n4_; (try clear hb); (try clear hb2); (try clear hk); (try clear hi); (try clear ho0)))
                              have n0_ := Aside0.mk (Kd.R_drew HO_7.out)
                              have n1_ := Aside0.mk (Kd.R_drew HO_8.out)
                              have n2_ := Aside0.mk (Kd.R_drew HO10011.out)
                              have n3_ := Aside0.mk (Kd.R_drew HO10018.out)
                              have n4_ := Aside0.mk (below_drew1 HB.out)
                              clear HO_7
                              clear HO_8
                              clear HO10011
                              clear HO10018
                              clear HB
                              have HO_7 := n0_
                              have HO_8 := n1_
                              have HO10011 := n2_
                              have HO10018 := n3_
                              have HB := n4_
                              clear n0_ n1_ n2_ n3_ n4_
                              have p10020 : 0 ≤ (2 : Int) := (by omega)
                              have q10020 : 2 < (y10013.length : Int) := (by have h_ : (2 : Int) < ((t10009.length : Int) : Int) := of_decide_eq_true (by first | (with_reducible assumption) | assumption); first | (have e_ := (Kd.R_reads' HO10011.out).1; omega) | simpa only [Ny10013.out, List.length_set] using h_)
                              have ql10020 : ((2 : Int) < ((t10009.length : Int) : Int)) = True := eq_true (of_decide_eq_true (by first | (with_reducible assumption) | assumption))
                              (try have qn10020 : (2 < t10009.length) = True := eq_true (by have h_ : (2 : Int) < ((t10009.length : Int) : Int) := of_decide_eq_true (by first | (with_reducible assumption) | assumption); omega))
                              obtain ⟨ad10020, e10020, hx10020_0⟩ := Kd.at_int (Kd.R_reads' HO10011.out).2.2 2 p10020 q10020
                              obtain rfl : (⟨go20, 0, none⟩ : Addr) = ad10020 := (by injection e10020)
                              (first | simp only [add_plain] at hx10020_0 | simp only [add_at] at hx10020_0 | simp only [Addr.add, Nat.zero_add] at hx10020_0 | skip)
                              have qi10020 : (2 < y10013.length) = True := eq_true (by omega)
                              (try rw [show ((2 : Int)).toNat = 2 from rfl] at hx10020_0)
                              replace p10020 := eq_true p10020
                              replace q10020 := eq_true q10020
                              have p10021 : 0 ≤ (3 : Int) := (by omega)
                              have q10021 : 3 < (y10013.length : Int) := (by have h_ : (3 : Int) < ((t10009.length : Int) : Int) := of_decide_eq_true (by first | (with_reducible assumption) | assumption); first | (have e_ := (Kd.R_reads' HO10011.out).1; omega) | simpa only [Ny10013.out, List.length_set] using h_)
                              have ql10021 : ((3 : Int) < ((t10009.length : Int) : Int)) = True := eq_true (of_decide_eq_true (by first | (with_reducible assumption) | assumption))
                              (try have qn10021 : (3 < t10009.length) = True := eq_true (by have h_ : (3 : Int) < ((t10009.length : Int) : Int) := of_decide_eq_true (by first | (with_reducible assumption) | assumption); omega))
                              obtain ⟨ad10021, e10021, hx10021_0⟩ := Kd.at_int (Kd.R_reads' HO10011.out).2.2 3 p10021 q10021
                              obtain rfl : (⟨go20, 0, none⟩ : Addr) = ad10021 := (by injection e10021)
                              (first | simp only [add_plain] at hx10021_0 | simp only [add_at] at hx10021_0 | simp only [Addr.add, Nat.zero_add] at hx10021_0 | skip)
                              have qi10021 : (3 < y10013.length) = True := eq_true (by omega)
                              (try rw [show ((3 : Int)).toNat = 3 from rfl] at hx10021_0)
                              replace p10021 := eq_true p10021
                              replace q10021 := eq_true q10021
                              refine start_ (n := 11) (S := fun w' => w'.cell? ⟨go20, 2, none⟩ = some (.int .u8 (rd y10013 2)) ∧ w'.cell? ⟨go20, 3, none⟩ = some (.int .u8 (rd y10013 3))) (ds := []) #[false, false, false, false, false, false, false, false, false, false, false] (by kernel_rfl) rfl rfl ⟨hx10020_0, hx10021_0⟩ (fun hHeld => ?_); refine with_tabW tinderlaw18_NvramTells.tab13 tinderlaw18_NvramTells.bits13 (fun HT_ HW_ => ?_)
                              generalize w67.drew = w68 at HO_7 HO_8 HO10011 HO10018 HB hx10020_0 hx10021_0 hHeld ⊢
                              refine pure_ (i := 0) (N := some 64) (v := ?_) (a' := ?_) #[true, false, false, false, false, false, false, false, false, false, false] rfl rfl (any_of HT_.out (by kernel_rfl)) (fun _ _ _ h => h) (Or.inl ⟨by rfl, ?_⟩) ?_ ?_
                              rotate_left
                              · intro w'
                                go_simp
                                with_reducible rfl
                              rotate_left
                              · simp only [Act.put, List.setIfInBounds_toArray, List.set_cons_zero, List.set_cons_succ, i64_w, i32_w]
                                rfl
                              refine pure_ (i := 1) (N := some 65) (v := ?_) (a' := ?_) #[true, true, false, false, false, false, false, false, false, false, false] rfl rfl (any_of HT_.out (by kernel_rfl)) (fun _ _ _ h => h) (Or.inl ⟨by rfl, ?_⟩) ?_ ?_
                              rotate_left
                              · intro w'
                                go_simp
                                with_reducible rfl
                              rotate_left
                              · simp only [Act.put, List.setIfInBounds_toArray, List.set_cons_zero, List.set_cons_succ, i64_w, i32_w]
                                rfl
                              refine pure_ (i := 5) (N := some 69) (v := ?_) (a' := ?_) #[true, true, false, false, false, true, false, false, false, false, false] rfl rfl (any_of HT_.out (by kernel_rfl)) (fun _ _ _ h => h) (Or.inl ⟨by rfl, ?_⟩) ?_ ?_
                              rotate_left
                              · intro w'
                                go_simp
                                with_reducible rfl
                              rotate_left
                              · simp only [Act.put, List.setIfInBounds_toArray, List.set_cons_zero, List.set_cons_succ, i64_w, i32_w]
                                rfl
                              refine pure_ (i := 6) (N := some 70) (v := ?_) (a' := ?_) #[true, true, false, false, false, true, true, false, false, false, false] rfl rfl (any_of HT_.out (by kernel_rfl)) (fun _ _ _ h => h) (Or.inl ⟨by rfl, ?_⟩) ?_ ?_
                              rotate_left
                              · intro w'
                                go_simp
                                with_reducible rfl
                              rotate_left
                              · simp only [Act.put, List.setIfInBounds_toArray, List.set_cons_zero, List.set_cons_succ, i64_w, i32_w]
                                rfl
                              refine take_ (i := 2) (N := some 66) (v := ?_) (a' := ?_) #[true, true, true, false, false, true, true, false, false, false, false] rfl rfl (take_ofW HT_.out HW_.out (by kernel_rfl)) (fun _ _ _ h => h) (Or.inl ⟨by rfl, ?_⟩) hHeld ?_ ?_
                              rotate_left
                              · rintro w' ⟨s0, s1⟩
                                go_simp
                                with_reducible rfl
                              rotate_left
                              · simp only [Act.put, List.setIfInBounds_toArray, List.set_cons_zero, List.set_cons_succ, i64_w, i32_w]
                                rfl
                              refine pure_ (i := 3) (N := some 67) (v := ?_) (a' := ?_) #[true, true, true, true, false, true, true, false, false, false, false] rfl rfl (any_of HT_.out (by kernel_rfl)) (fun _ _ _ h => h) (Or.inl ⟨by rfl, ?_⟩) ?_ ?_
                              rotate_left
                              · intro w'
                                go_simp
                                with_reducible rfl
                              rotate_left
                              · simp only [Act.put, List.setIfInBounds_toArray, List.set_cons_zero, List.set_cons_succ, i64_w, i32_w]
                                rfl
                              refine pure_ (i := 4) (N := some 68) (v := ?_) (a' := ?_) #[true, true, true, true, true, true, true, false, false, false, false] rfl rfl (any_of HT_.out (by kernel_rfl)) (fun _ _ _ h => h) (Or.inl ⟨by rfl, ?_⟩) ?_ ?_
                              rotate_left
                              · intro w'
                                go_simp
                                with_reducible rfl
                              rotate_left
                              · simp only [Act.put, List.setIfInBounds_toArray, List.set_cons_zero, List.set_cons_succ, i64_w, i32_w]
                                rfl
                              refine take_ (i := 7) (N := some 71) (v := ?_) (a' := ?_) #[true, true, true, true, true, true, true, true, false, false, false] rfl rfl (take_ofW HT_.out HW_.out (by kernel_rfl)) (fun _ _ _ h => h) (Or.inl ⟨by rfl, ?_⟩) hHeld ?_ ?_
                              rotate_left
                              · rintro w' ⟨s0, s1⟩
                                go_simp
                                with_reducible rfl
                              rotate_left
                              · simp only [Act.put, List.setIfInBounds_toArray, List.set_cons_zero, List.set_cons_succ, i64_w, i32_w]
                                rfl
                              refine pure_ (i := 8) (N := some 72) (v := ?_) (a' := ?_) #[true, true, true, true, true, true, true, true, true, false, false] rfl rfl (any_of HT_.out (by kernel_rfl)) (fun _ _ _ h => h) (Or.inl ⟨by rfl, ?_⟩) ?_ ?_
                              rotate_left
                              · intro w'
                                go_simp
                                with_reducible rfl
                              rotate_left
                              · simp only [Act.put, List.setIfInBounds_toArray, List.set_cons_zero, List.set_cons_succ, i64_w, i32_w]
                                rfl
                              refine pure_ (i := 9) (N := some 73) (v := ?_) (a' := ?_) #[true, true, true, true, true, true, true, true, true, true, false] rfl rfl (any_of HT_.out (by kernel_rfl)) (fun _ _ _ h => h) (Or.inl ⟨by rfl, ?_⟩) ?_ ?_
                              rotate_left
                              · intro w'
                                go_simp
                                with_reducible rfl
                              rotate_left
                              · simp only [Act.put, List.setIfInBounds_toArray, List.set_cons_zero, List.set_cons_succ, i64_w, i32_w]
                                rfl
                              refine pure_ (i := 10) (N := some 14) (v := ?_) (a' := ?_) #[true, true, true, true, true, true, true, true, true, true, true] rfl rfl (any_of HT_.out (by kernel_rfl)) (fun _ _ _ h => h) (Or.inl ⟨by rfl, ?_⟩) ?_ ?_
                              rotate_left
                              · intro w'
                                go_simp
                                with_reducible rfl
                              rotate_left
                              · simp only [Act.put, List.setIfInBounds_toArray, List.set_cons_zero, List.set_cons_succ, i64_w, i32_w]
                                rfl
                              refine done_ (done_of HT_.out (by kernel_rfl)) ?_
                              try go_wp2
                              go_ret
                              exact ⟨by first | (exact congrArg (fun x => Ending.returned (Value.bool (t10016 == (t10027 == x)))) (by simp only [show ∀ n : Int, IntKind.u32.wrap n = n % 4294967296 from fun n => by simp [IntKind.wrap, IntKind.bits, IntKind.signed]]; omega)) | rfl | (simp [errW_none, errW_some] <;> rfl) | (simp only [← hji17]; first | rfl | (simp [errW_none, errW_some] <;> rfl)) | (simp [*, errW_none, errW_some] <;> rfl), by repeat (first | (with_reducible first | exact HB.out | apply below_alloc | apply pw_below_drewN | apply below_drew1) | exact HB.out)⟩
                            · replace c61 := Bool.eq_false_iff.mpr c61
                              subst c61
                              have H1 : (some ((t10014.length : Int) == 0)) = some r := by rw [if_neg (show ¬ (false = true) by decide)] at H; exact H
                              clear H
                              have H := H1
                              clear H1
                              obtain rfl := Option.some.inj H
                              obtain ⟨Ao69, co69, eo69⟩ := Kd.R_slice HO_8.out
                              subst eo69
                              try go_wp2_with (first | ((with_reducible refine gate_callee (f := 20) rfl ?_); refine goesL_ (some 34) rfl rfl Try.func20 (by kernel_rfl) rfl #[.slice Ao12 y10002.length co12, .slice Ao69 t10005.length co69, .int .i64 (t10005.length : Int)] rfl (by (try simp only [List.map_toArray, List.map_cons, List.map_nil]); first | done | rfl | (simp only [List.length_drop, List.length_take]; rfl)) ?_; (with_reducible refine (nvram_Apply.calls kj7 _ _ y10002 _ _ t10005 (t10005.length : Int) t10009 _ ?side1 ?side2 ?side3 ?side4 A16.out).mono ?_); (case side1 => repeat (first | exact (Kd.R_reads' HO_7.out).2.2 | (with_reducible refine Kd.C_alloc ?_ _) | (with_reducible refine Kd.C_drewN ?_ _) | (with_reducible refine Kd.C_drew ?_))); (case side2 => exact (Kd.R_reads' HO_7.out).2.1); (case side3 => repeat (first | exact (Kd.R_reads' HO_8.out).2.2 | (with_reducible refine Kd.C_alloc ?_ _) | (with_reducible refine Kd.C_drewN ?_ _) | (with_reducible refine Kd.C_drew ?_))); (case side4 => exact (Kd.R_reads' HO_8.out).2.1); rintro e w70 ⟨v10010, rfl, ho0, hb⟩; refine ⟨_, rfl, ?_⟩; have n0_ := Aside0.mk (Kd.R_elder' (by (with_reducible repeat (first | apply Kd.R_alloc | apply Kd.R_drewN | apply Kd.R_drew)); exact HO_7.out) (Kd.R_base ho0) hb); have n1_ := Aside0.mk (Kd.R_below (by (with_reducible repeat (first | apply Kd.R_alloc | apply Kd.R_drewN | apply Kd.R_drew)); exact HO_8.out) hb); have n2_ := Aside0.mk (Kd.R_lower (Kd.R_new' ho0 (Kd.R_lt (by (with_reducible repeat (first | apply Kd.R_alloc | apply Kd.R_drewN | apply Kd.R_drew)); exact HO_7.out))) (below_size (by repeat (first | (with_reducible first | exact HB.out | apply below_alloc | apply pw_below_drewN | apply below_drew1) | exact HB.out)))); have n3_ := Aside0.mk (below_step (by repeat (first | (with_reducible first | exact HB.out | apply below_alloc | apply pw_below_drewN | apply below_drew1) | exact HB.out)) hb); clear HO_7; clear HO_8; clear HB; have HO_7 := n0_; have HO_8 := n1_; have HO10011 := n2_; have HB := n3_; clear n0_ n1_ n2_ n3_; (try clear hb); (try clear hb2); (try clear hk); (try clear hi); (try clear ho0); obtain ⟨Ao71, co71, eo71⟩ := Kd.R_slice HO10011.out; subst eo71; have p10012 : 0 ≤ ((ji17) : Int) := of_decide_eq_true (by first | (with_reducible assumption) | assumption); have q10012 : (ji17) < (t10009.length : Int) := of_decide_eq_true (by first | (with_reducible assumption) | assumption); obtain ⟨ad10012, e10012, hx10012_0⟩ := Kd.at_int (Kd.R_reads' HO10011.out).2.2 (ji17) p10012 q10012; cases e10012; replace p10012 := eq_true p10012; replace q10012 := eq_true q10012; have p20 : 0 ≤ ((ji17) : Int) := of_decide_eq_true (by first | (with_reducible assumption) | assumption); have q20 : ((ji17) : Int) < ((t10009.length : Int) : Int) := of_decide_eq_true (by first | (with_reducible assumption) | assumption); obtain ⟨go20, co20, eo20, gb20, gl20, cl20, HG20⟩ := Kd.R_form HO10011.out (by omega); (first | cases eo20 | (injection eo20 with ea_ en_ ec_; (first | subst ea_ | (injection ea_ with ea_; subst ea_)); subst ec_; clear en_)); have GB20 := Aside0.mk gb20; have GG20 := Aside0.mk HG20; clear gb20 gl20 HG20; (first | simp only [add_plain] at hx10012_0 | skip); obtain ⟨hx20_0, hf20_0⟩ := Kd.R_celln 0 HO10011.out ((ji17) : Int) p20 q20; replace p20 := eq_true p20; replace q20 := eq_true q20; have n_ := Aside0.mk (Kd.R_mono (ok' := (fun k_ => some k_ ≠ (.slice Ao12 y10002.length co12 : Value).ownBlock)) HO10011.out (fun k_ hk => hk.2)); clear HO10011; have HO10011 := n_; clear n_; obtain ⟨hy72_, hz72_⟩ := Kd.R_celln 0 HO10011.out ((ji17) : Int) (of_decide_eq_true (by first | (with_reducible assumption) | assumption)) (of_decide_eq_true (by first | (with_reducible assumption) | assumption)); have HP72 := Kd.R_putg HO10011.out ((ji17) : Int) (Go.bits .xor .u8 (rd t10009 (ji17)) a2)) | ((with_reducible refine gate_store (t := 5) (p := 46) rfl ?_); refine store_event (t := 5) (p := 46) (v := ?vo_w73) (w1 := (w70.setCell ⟨go20, ((ji17) : Int).toNat, none⟩ (.int .u8 (Go.bits .xor .u8 (rd t10009 (ji17)) a2)))) ?hg ?ho ?hn ?hr ?_; (case ho => rfl); (case hg => rfl); (case hn => rfl); (case hr => first | (go_simp; done) | (go_simp; rfl)); intro w73 hw; have hg : w70.grownBy w73 (some go20) := (by rw [hw]; exact HP72.2); have hp_ : Kd.R (Kd.int .u8) 5 w73 w.heap.size (fun k_ => some k_ ≠ (.slice Ao12 y10002.length co12 : Value).ownBlock) (.slice (some ⟨go20, 0, none⟩) t10009.length co71) y10013 := (by rw [hw, Ny10013.out]; exact HP72.1); clear HP72; have n0_ := Aside0.mk (Kd.R_after (v := (.slice (some ⟨go20, 0, none⟩) t10009.length co71)) (v1 := (.slice (some ⟨go20, 0, none⟩) t10009.length co71)) (ok := (fun _ => True)) (by (with_reducible repeat (first | apply Kd.R_alloc | apply Kd.R_drewN | apply Kd.R_drew)); exact HO_7.out) hg (.inl rfl)); have n1_ := Aside0.mk (Kd.R_over' (v := (.slice (some ⟨go20, 0, none⟩) t10009.length co71)) (by (with_reducible repeat (first | apply Kd.R_alloc | apply Kd.R_drewN | apply Kd.R_drew)); exact HO_8.out) (Kd.R_typed HO10011.out) (by decide) hg); have n2_ := Aside0.mk (hp_); have n3_ := Aside0.mk ((by rw [hw]; exact below_set (HB.out) GB20.out : Below w.heap.size w w73)); clear HO_7; clear HO_8; clear HO10011; clear HB; have HO_7 := n0_; have HO_8 := n1_; have HO10011 := n2_; have HB := n3_; clear n0_ n1_ n2_ n3_; clear hg hw hp_) | ((with_reducible refine gate_callee (f := 14) rfl ?_); refine goesL_ (some 49) rfl rfl Try.func14 (by kernel_rfl) rfl #[.slice (some ⟨go20, 0, none⟩) y10013.length co71] rfl (by (try simp only [List.map_toArray, List.map_cons, List.map_nil]); first | done | (rw [show y10013.length = t10009.length from (Kd.R_reads' HO10011.out).1.symm] <;> rfl) | rfl | (simp only [List.length_drop, List.length_take]; rfl)) ?_; (with_reducible refine (nvram_Recover.calls _ _ y10013 t10014 t10015 false _ ?side1 ?side2 A21.out).mono ?_); (case side1 => repeat (first | exact (Kd.R_reads' HO10011.out).2.2 | (with_reducible refine Kd.C_alloc ?_ _) | (with_reducible refine Kd.C_drewN ?_ _) | (with_reducible refine Kd.C_drew ?_))); (case side2 => rw [show y10013.length = t10009.length from (Kd.R_reads' HO10011.out).1.symm]; exact (Kd.R_reads' HO10011.out).2.1); rintro e w74 ⟨v10017, rfl, ho0, hb⟩; refine ⟨_, rfl, ?_⟩; have n0_ := Aside0.mk (Kd.R_elder' (by (with_reducible repeat (first | apply Kd.R_alloc | apply Kd.R_drewN | apply Kd.R_drew)); exact HO_7.out) (Kd.R_base ho0) hb); have n1_ := Aside0.mk (Kd.R_below (by (with_reducible repeat (first | apply Kd.R_alloc | apply Kd.R_drewN | apply Kd.R_drew)); exact HO_8.out) hb); have n2_ := Aside0.mk (Kd.R_elder' (by (with_reducible repeat (first | apply Kd.R_alloc | apply Kd.R_drewN | apply Kd.R_drew)); exact HO10011.out) (Kd.R_base ho0) hb); have n3_ := Aside0.mk (Kd.R_lower (Kd.R_new' (Kd.R_new' ho0 (Kd.R_lt (by (with_reducible repeat (first | apply Kd.R_alloc | apply Kd.R_drewN | apply Kd.R_drew)); exact HO_7.out))) (Kd.R_lt (by (with_reducible repeat (first | apply Kd.R_alloc | apply Kd.R_drewN | apply Kd.R_drew)); exact HO10011.out))) (below_size (by repeat (first | (with_reducible first | exact HB.out | apply below_alloc | apply pw_below_drewN | apply below_drew1) | exact HB.out)))); have n4_ := Aside0.mk (below_step (by repeat (first | (with_reducible first | exact HB.out | apply below_alloc | apply pw_below_drewN | apply below_drew1) | exact HB.out)) hb); clear HO_7; clear HO_8; clear HO10011; clear HB; have HO_7 := n0_; have HO_8 := n1_; have HO10011 := n2_; have HO10018 := n3_; have HB := n4_; clear n0_ n1_ n2_ n3_ n4_; (try clear hb); (try clear hb2); (try clear hk); (try clear hi); (try clear ho0)))
                              have n0_ := Aside0.mk (Kd.R_drew HO_7.out)
                              have n1_ := Aside0.mk (Kd.R_drew HO_8.out)
                              have n2_ := Aside0.mk (Kd.R_drew HO10011.out)
                              have n3_ := Aside0.mk (Kd.R_drew HO10018.out)
                              have n4_ := Aside0.mk (below_drew1 HB.out)
                              clear HO_7
                              clear HO_8
                              clear HO10011
                              clear HO10018
                              clear HB
                              have HO_7 := n0_
                              have HO_8 := n1_
                              have HO10011 := n2_
                              have HO10018 := n3_
                              have HB := n4_
                              clear n0_ n1_ n2_ n3_ n4_
                              have p10020 : 0 ≤ (2 : Int) := (by omega)
                              have q10020 : 2 < (y10013.length : Int) := (by have h_ : (2 : Int) < ((t10009.length : Int) : Int) := of_decide_eq_true (by first | (with_reducible assumption) | assumption); first | (have e_ := (Kd.R_reads' HO10011.out).1; omega) | simpa only [Ny10013.out, List.length_set] using h_)
                              have ql10020 : ((2 : Int) < ((t10009.length : Int) : Int)) = True := eq_true (of_decide_eq_true (by first | (with_reducible assumption) | assumption))
                              (try have qn10020 : (2 < t10009.length) = True := eq_true (by have h_ : (2 : Int) < ((t10009.length : Int) : Int) := of_decide_eq_true (by first | (with_reducible assumption) | assumption); omega))
                              obtain ⟨ad10020, e10020, hx10020_0⟩ := Kd.at_int (Kd.R_reads' HO10011.out).2.2 2 p10020 q10020
                              obtain rfl : (⟨go20, 0, none⟩ : Addr) = ad10020 := (by injection e10020)
                              (first | simp only [add_plain] at hx10020_0 | simp only [add_at] at hx10020_0 | simp only [Addr.add, Nat.zero_add] at hx10020_0 | skip)
                              have qi10020 : (2 < y10013.length) = True := eq_true (by omega)
                              (try rw [show ((2 : Int)).toNat = 2 from rfl] at hx10020_0)
                              replace p10020 := eq_true p10020
                              replace q10020 := eq_true q10020
                              have p10021 : 0 ≤ (3 : Int) := (by omega)
                              have q10021 : 3 < (y10013.length : Int) := (by have h_ : (3 : Int) < ((t10009.length : Int) : Int) := of_decide_eq_true (by first | (with_reducible assumption) | assumption); first | (have e_ := (Kd.R_reads' HO10011.out).1; omega) | simpa only [Ny10013.out, List.length_set] using h_)
                              have ql10021 : ((3 : Int) < ((t10009.length : Int) : Int)) = True := eq_true (of_decide_eq_true (by first | (with_reducible assumption) | assumption))
                              (try have qn10021 : (3 < t10009.length) = True := eq_true (by have h_ : (3 : Int) < ((t10009.length : Int) : Int) := of_decide_eq_true (by first | (with_reducible assumption) | assumption); omega))
                              obtain ⟨ad10021, e10021, hx10021_0⟩ := Kd.at_int (Kd.R_reads' HO10011.out).2.2 3 p10021 q10021
                              obtain rfl : (⟨go20, 0, none⟩ : Addr) = ad10021 := (by injection e10021)
                              (first | simp only [add_plain] at hx10021_0 | simp only [add_at] at hx10021_0 | simp only [Addr.add, Nat.zero_add] at hx10021_0 | skip)
                              have qi10021 : (3 < y10013.length) = True := eq_true (by omega)
                              (try rw [show ((3 : Int)).toNat = 3 from rfl] at hx10021_0)
                              replace p10021 := eq_true p10021
                              replace q10021 := eq_true q10021
                              refine start_ (n := 11) (S := fun w' => w'.cell? ⟨go20, 2, none⟩ = some (.int .u8 (rd y10013 2)) ∧ w'.cell? ⟨go20, 3, none⟩ = some (.int .u8 (rd y10013 3))) (ds := []) #[false, false, false, false, false, false, false, false, false, false, false] (by kernel_rfl) rfl rfl ⟨hx10020_0, hx10021_0⟩ (fun hHeld => ?_); refine with_tabW tinderlaw18_NvramTells.tab13 tinderlaw18_NvramTells.bits13 (fun HT_ HW_ => ?_)
                              generalize w74.drew = w75 at HO_7 HO_8 HO10011 HO10018 HB hx10020_0 hx10021_0 hHeld ⊢
                              refine pure_ (i := 0) (N := some 64) (v := ?_) (a' := ?_) #[true, false, false, false, false, false, false, false, false, false, false] rfl rfl (any_of HT_.out (by kernel_rfl)) (fun _ _ _ h => h) (Or.inl ⟨by rfl, ?_⟩) ?_ ?_
                              rotate_left
                              · intro w'
                                go_simp
                                with_reducible rfl
                              rotate_left
                              · simp only [Act.put, List.setIfInBounds_toArray, List.set_cons_zero, List.set_cons_succ, i64_w, i32_w]
                                rfl
                              refine pure_ (i := 1) (N := some 65) (v := ?_) (a' := ?_) #[true, true, false, false, false, false, false, false, false, false, false] rfl rfl (any_of HT_.out (by kernel_rfl)) (fun _ _ _ h => h) (Or.inl ⟨by rfl, ?_⟩) ?_ ?_
                              rotate_left
                              · intro w'
                                go_simp
                                with_reducible rfl
                              rotate_left
                              · simp only [Act.put, List.setIfInBounds_toArray, List.set_cons_zero, List.set_cons_succ, i64_w, i32_w]
                                rfl
                              refine pure_ (i := 5) (N := some 69) (v := ?_) (a' := ?_) #[true, true, false, false, false, true, false, false, false, false, false] rfl rfl (any_of HT_.out (by kernel_rfl)) (fun _ _ _ h => h) (Or.inl ⟨by rfl, ?_⟩) ?_ ?_
                              rotate_left
                              · intro w'
                                go_simp
                                with_reducible rfl
                              rotate_left
                              · simp only [Act.put, List.setIfInBounds_toArray, List.set_cons_zero, List.set_cons_succ, i64_w, i32_w]
                                rfl
                              refine pure_ (i := 6) (N := some 70) (v := ?_) (a' := ?_) #[true, true, false, false, false, true, true, false, false, false, false] rfl rfl (any_of HT_.out (by kernel_rfl)) (fun _ _ _ h => h) (Or.inl ⟨by rfl, ?_⟩) ?_ ?_
                              rotate_left
                              · intro w'
                                go_simp
                                with_reducible rfl
                              rotate_left
                              · simp only [Act.put, List.setIfInBounds_toArray, List.set_cons_zero, List.set_cons_succ, i64_w, i32_w]
                                rfl
                              refine take_ (i := 2) (N := some 66) (v := ?_) (a' := ?_) #[true, true, true, false, false, true, true, false, false, false, false] rfl rfl (take_ofW HT_.out HW_.out (by kernel_rfl)) (fun _ _ _ h => h) (Or.inl ⟨by rfl, ?_⟩) hHeld ?_ ?_
                              rotate_left
                              · rintro w' ⟨s0, s1⟩
                                go_simp
                                with_reducible rfl
                              rotate_left
                              · simp only [Act.put, List.setIfInBounds_toArray, List.set_cons_zero, List.set_cons_succ, i64_w, i32_w]
                                rfl
                              refine pure_ (i := 3) (N := some 67) (v := ?_) (a' := ?_) #[true, true, true, true, false, true, true, false, false, false, false] rfl rfl (any_of HT_.out (by kernel_rfl)) (fun _ _ _ h => h) (Or.inl ⟨by rfl, ?_⟩) ?_ ?_
                              rotate_left
                              · intro w'
                                go_simp
                                with_reducible rfl
                              rotate_left
                              · simp only [Act.put, List.setIfInBounds_toArray, List.set_cons_zero, List.set_cons_succ, i64_w, i32_w]
                                rfl
                              refine pure_ (i := 4) (N := some 68) (v := ?_) (a' := ?_) #[true, true, true, true, true, true, true, false, false, false, false] rfl rfl (any_of HT_.out (by kernel_rfl)) (fun _ _ _ h => h) (Or.inl ⟨by rfl, ?_⟩) ?_ ?_
                              rotate_left
                              · intro w'
                                go_simp
                                with_reducible rfl
                              rotate_left
                              · simp only [Act.put, List.setIfInBounds_toArray, List.set_cons_zero, List.set_cons_succ, i64_w, i32_w]
                                rfl
                              refine take_ (i := 7) (N := some 71) (v := ?_) (a' := ?_) #[true, true, true, true, true, true, true, true, false, false, false] rfl rfl (take_ofW HT_.out HW_.out (by kernel_rfl)) (fun _ _ _ h => h) (Or.inl ⟨by rfl, ?_⟩) hHeld ?_ ?_
                              rotate_left
                              · rintro w' ⟨s0, s1⟩
                                go_simp
                                with_reducible rfl
                              rotate_left
                              · simp only [Act.put, List.setIfInBounds_toArray, List.set_cons_zero, List.set_cons_succ, i64_w, i32_w]
                                rfl
                              refine pure_ (i := 8) (N := some 72) (v := ?_) (a' := ?_) #[true, true, true, true, true, true, true, true, true, false, false] rfl rfl (any_of HT_.out (by kernel_rfl)) (fun _ _ _ h => h) (Or.inl ⟨by rfl, ?_⟩) ?_ ?_
                              rotate_left
                              · intro w'
                                go_simp
                                with_reducible rfl
                              rotate_left
                              · simp only [Act.put, List.setIfInBounds_toArray, List.set_cons_zero, List.set_cons_succ, i64_w, i32_w]
                                rfl
                              refine pure_ (i := 9) (N := some 73) (v := ?_) (a' := ?_) #[true, true, true, true, true, true, true, true, true, true, false] rfl rfl (any_of HT_.out (by kernel_rfl)) (fun _ _ _ h => h) (Or.inl ⟨by rfl, ?_⟩) ?_ ?_
                              rotate_left
                              · intro w'
                                go_simp
                                with_reducible rfl
                              rotate_left
                              · simp only [Act.put, List.setIfInBounds_toArray, List.set_cons_zero, List.set_cons_succ, i64_w, i32_w]
                                rfl
                              refine pure_ (i := 10) (N := some 14) (v := ?_) (a' := ?_) #[true, true, true, true, true, true, true, true, true, true, true] rfl rfl (any_of HT_.out (by kernel_rfl)) (fun _ _ _ h => h) (Or.inl ⟨by rfl, ?_⟩) ?_ ?_
                              rotate_left
                              · intro w'
                                go_simp
                                with_reducible rfl
                              rotate_left
                              · simp only [Act.put, List.setIfInBounds_toArray, List.set_cons_zero, List.set_cons_succ, i64_w, i32_w]
                                rfl
                              refine done_ (done_of HT_.out (by kernel_rfl)) ?_
                              obtain ⟨Ao76, co76, eo76⟩ := Kd.R_slice HO10018.out
                              subst eo76
                              try go_wp2
                              go_ret
                              exact ⟨by first | (exact congrArg (fun x => Ending.returned (Value.bool (t10016 == (t10027 == x)))) (by simp only [show ∀ n : Int, IntKind.u32.wrap n = n % 4294967296 from fun n => by simp [IntKind.wrap, IntKind.bits, IntKind.signed]]; omega)) | rfl | (simp [errW_none, errW_some] <;> rfl) | (simp only [← hji17]; first | rfl | (simp [errW_none, errW_some] <;> rfl)) | (simp [*, errW_none, errW_some] <;> rfl), by repeat (first | (with_reducible first | exact HB.out | apply below_alloc | apply pw_below_drewN | apply below_drew1) | exact HB.out)⟩
                        · rw [if_neg c41] at H
                          have c41b0 : decide (0 < (ji17)) = false := decide_eq_false c41
                          clear c41
                          by_cases c77 : t10016 = true
                          · subst c77
                            have H1 : (some false) = some r := by rw [if_pos rfl] at H; exact H
                            clear H
                            have H := H1
                            clear H1
                            obtain rfl := Option.some.inj H
                            obtain ⟨Ao78, co78, eo78⟩ := Kd.R_slice HO_8.out
                            subst eo78
                            try go_wp2_with (first | ((with_reducible refine gate_callee (f := 20) rfl ?_); refine goesL_ (some 34) rfl rfl Try.func20 (by kernel_rfl) rfl #[.slice Ao12 y10002.length co12, .slice Ao78 t10005.length co78, .int .i64 (t10005.length : Int)] rfl (by (try simp only [List.map_toArray, List.map_cons, List.map_nil]); first | done | rfl | (simp only [List.length_drop, List.length_take]; rfl)) ?_; (with_reducible refine (nvram_Apply.calls kj7 _ _ y10002 _ _ t10005 (t10005.length : Int) t10009 _ ?side1 ?side2 ?side3 ?side4 A16.out).mono ?_); (case side1 => repeat (first | exact (Kd.R_reads' HO_7.out).2.2 | (with_reducible refine Kd.C_alloc ?_ _) | (with_reducible refine Kd.C_drewN ?_ _) | (with_reducible refine Kd.C_drew ?_))); (case side2 => exact (Kd.R_reads' HO_7.out).2.1); (case side3 => repeat (first | exact (Kd.R_reads' HO_8.out).2.2 | (with_reducible refine Kd.C_alloc ?_ _) | (with_reducible refine Kd.C_drewN ?_ _) | (with_reducible refine Kd.C_drew ?_))); (case side4 => exact (Kd.R_reads' HO_8.out).2.1); rintro e w79 ⟨v10010, rfl, ho0, hb⟩; refine ⟨_, rfl, ?_⟩; have n0_ := Aside0.mk (Kd.R_elder' (by (with_reducible repeat (first | apply Kd.R_alloc | apply Kd.R_drewN | apply Kd.R_drew)); exact HO_7.out) (Kd.R_base ho0) hb); have n1_ := Aside0.mk (Kd.R_below (by (with_reducible repeat (first | apply Kd.R_alloc | apply Kd.R_drewN | apply Kd.R_drew)); exact HO_8.out) hb); have n2_ := Aside0.mk (Kd.R_lower (Kd.R_new' ho0 (Kd.R_lt (by (with_reducible repeat (first | apply Kd.R_alloc | apply Kd.R_drewN | apply Kd.R_drew)); exact HO_7.out))) (below_size (by repeat (first | (with_reducible first | exact HB.out | apply below_alloc | apply pw_below_drewN | apply below_drew1) | exact HB.out)))); have n3_ := Aside0.mk (below_step (by repeat (first | (with_reducible first | exact HB.out | apply below_alloc | apply pw_below_drewN | apply below_drew1) | exact HB.out)) hb); clear HO_7; clear HO_8; clear HB; have HO_7 := n0_; have HO_8 := n1_; have HO10011 := n2_; have HB := n3_; clear n0_ n1_ n2_ n3_; (try clear hb); (try clear hb2); (try clear hk); (try clear hi); (try clear ho0); obtain ⟨Ao80, co80, eo80⟩ := Kd.R_slice HO10011.out; subst eo80; have p10012 : 0 ≤ ((ji17) : Int) := of_decide_eq_true (by first | (with_reducible assumption) | assumption); have q10012 : (ji17) < (t10009.length : Int) := of_decide_eq_true (by first | (with_reducible assumption) | assumption); obtain ⟨ad10012, e10012, hx10012_0⟩ := Kd.at_int (Kd.R_reads' HO10011.out).2.2 (ji17) p10012 q10012; cases e10012; replace p10012 := eq_true p10012; replace q10012 := eq_true q10012; have p20 : 0 ≤ ((ji17) : Int) := of_decide_eq_true (by first | (with_reducible assumption) | assumption); have q20 : ((ji17) : Int) < ((t10009.length : Int) : Int) := of_decide_eq_true (by first | (with_reducible assumption) | assumption); obtain ⟨go20, co20, eo20, gb20, gl20, cl20, HG20⟩ := Kd.R_form HO10011.out (by omega); (first | cases eo20 | (injection eo20 with ea_ en_ ec_; (first | subst ea_ | (injection ea_ with ea_; subst ea_)); subst ec_; clear en_)); have GB20 := Aside0.mk gb20; have GG20 := Aside0.mk HG20; clear gb20 gl20 HG20; (first | simp only [add_plain] at hx10012_0 | skip); obtain ⟨hx20_0, hf20_0⟩ := Kd.R_celln 0 HO10011.out ((ji17) : Int) p20 q20; replace p20 := eq_true p20; replace q20 := eq_true q20; have n_ := Aside0.mk (Kd.R_mono (ok' := (fun k_ => some k_ ≠ (.slice Ao12 y10002.length co12 : Value).ownBlock)) HO10011.out (fun k_ hk => hk.2)); clear HO10011; have HO10011 := n_; clear n_; obtain ⟨hy81_, hz81_⟩ := Kd.R_celln 0 HO10011.out ((ji17) : Int) (of_decide_eq_true (by first | (with_reducible assumption) | assumption)) (of_decide_eq_true (by first | (with_reducible assumption) | assumption)); have HP81 := Kd.R_putg HO10011.out ((ji17) : Int) (Go.bits .xor .u8 (rd t10009 (ji17)) a2)) | ((with_reducible refine gate_store (t := 5) (p := 46) rfl ?_); refine store_event (t := 5) (p := 46) (v := ?vo_w82) (w1 := (w79.setCell ⟨go20, ((ji17) : Int).toNat, none⟩ (.int .u8 (Go.bits .xor .u8 (rd t10009 (ji17)) a2)))) ?hg ?ho ?hn ?hr ?_; (case ho => rfl); (case hg => rfl); (case hn => rfl); (case hr => first | (go_simp; done) | (go_simp; rfl)); intro w82 hw; have hg : w79.grownBy w82 (some go20) := (by rw [hw]; exact HP81.2); have hp_ : Kd.R (Kd.int .u8) 5 w82 w.heap.size (fun k_ => some k_ ≠ (.slice Ao12 y10002.length co12 : Value).ownBlock) (.slice (some ⟨go20, 0, none⟩) t10009.length co80) y10013 := (by rw [hw, Ny10013.out]; exact HP81.1); clear HP81; have n0_ := Aside0.mk (Kd.R_after (v := (.slice (some ⟨go20, 0, none⟩) t10009.length co80)) (v1 := (.slice (some ⟨go20, 0, none⟩) t10009.length co80)) (ok := (fun _ => True)) (by (with_reducible repeat (first | apply Kd.R_alloc | apply Kd.R_drewN | apply Kd.R_drew)); exact HO_7.out) hg (.inl rfl)); have n1_ := Aside0.mk (Kd.R_over' (v := (.slice (some ⟨go20, 0, none⟩) t10009.length co80)) (by (with_reducible repeat (first | apply Kd.R_alloc | apply Kd.R_drewN | apply Kd.R_drew)); exact HO_8.out) (Kd.R_typed HO10011.out) (by decide) hg); have n2_ := Aside0.mk (hp_); have n3_ := Aside0.mk ((by rw [hw]; exact below_set (HB.out) GB20.out : Below w.heap.size w w82)); clear HO_7; clear HO_8; clear HO10011; clear HB; have HO_7 := n0_; have HO_8 := n1_; have HO10011 := n2_; have HB := n3_; clear n0_ n1_ n2_ n3_; clear hg hw hp_) | ((with_reducible refine gate_callee (f := 14) rfl ?_); refine goesL_ (some 49) rfl rfl Try.func14 (by kernel_rfl) rfl #[.slice (some ⟨go20, 0, none⟩) y10013.length co80] rfl (by (try simp only [List.map_toArray, List.map_cons, List.map_nil]); first | done | (rw [show y10013.length = t10009.length from (Kd.R_reads' HO10011.out).1.symm] <;> rfl) | rfl | (simp only [List.length_drop, List.length_take]; rfl)) ?_; (with_reducible refine (nvram_Recover.calls _ _ y10013 t10014 t10015 true _ ?side1 ?side2 A21.out).mono ?_); (case side1 => repeat (first | exact (Kd.R_reads' HO10011.out).2.2 | (with_reducible refine Kd.C_alloc ?_ _) | (with_reducible refine Kd.C_drewN ?_ _) | (with_reducible refine Kd.C_drew ?_))); (case side2 => rw [show y10013.length = t10009.length from (Kd.R_reads' HO10011.out).1.symm]; exact (Kd.R_reads' HO10011.out).2.1); rintro e w83 ⟨v10017, rfl, ho0, hb⟩; refine ⟨_, rfl, ?_⟩; have n0_ := Aside0.mk (Kd.R_elder' (by (with_reducible repeat (first | apply Kd.R_alloc | apply Kd.R_drewN | apply Kd.R_drew)); exact HO_7.out) (Kd.R_base ho0) hb); have n1_ := Aside0.mk (Kd.R_below (by (with_reducible repeat (first | apply Kd.R_alloc | apply Kd.R_drewN | apply Kd.R_drew)); exact HO_8.out) hb); have n2_ := Aside0.mk (Kd.R_elder' (by (with_reducible repeat (first | apply Kd.R_alloc | apply Kd.R_drewN | apply Kd.R_drew)); exact HO10011.out) (Kd.R_base ho0) hb); have n3_ := Aside0.mk (Kd.R_lower (Kd.R_new' (Kd.R_new' ho0 (Kd.R_lt (by (with_reducible repeat (first | apply Kd.R_alloc | apply Kd.R_drewN | apply Kd.R_drew)); exact HO_7.out))) (Kd.R_lt (by (with_reducible repeat (first | apply Kd.R_alloc | apply Kd.R_drewN | apply Kd.R_drew)); exact HO10011.out))) (below_size (by repeat (first | (with_reducible first | exact HB.out | apply below_alloc | apply pw_below_drewN | apply below_drew1) | exact HB.out)))); have n4_ := Aside0.mk (below_step (by repeat (first | (with_reducible first | exact HB.out | apply below_alloc | apply pw_below_drewN | apply below_drew1) | exact HB.out)) hb); clear HO_7; clear HO_8; clear HO10011; clear HB; have HO_7 := n0_; have HO_8 := n1_; have HO10011 := n2_; have HO10018 := n3_; have HB := n4_; clear n0_ n1_ n2_ n3_ n4_; (try clear hb); (try clear hb2); (try clear hk); (try clear hi); (try clear ho0)))
                            have n0_ := Aside0.mk (Kd.R_drew HO_7.out)
                            have n1_ := Aside0.mk (Kd.R_drew HO_8.out)
                            have n2_ := Aside0.mk (Kd.R_drew HO10011.out)
                            have n3_ := Aside0.mk (Kd.R_drew HO10018.out)
                            have n4_ := Aside0.mk (below_drew1 HB.out)
                            clear HO_7
                            clear HO_8
                            clear HO10011
                            clear HO10018
                            clear HB
                            have HO_7 := n0_
                            have HO_8 := n1_
                            have HO10011 := n2_
                            have HO10018 := n3_
                            have HB := n4_
                            clear n0_ n1_ n2_ n3_ n4_
                            have p10020 : 0 ≤ (2 : Int) := (by omega)
                            have q10020 : 2 < (y10013.length : Int) := (by have h_ : (2 : Int) < ((t10009.length : Int) : Int) := of_decide_eq_true (by first | (with_reducible assumption) | assumption); first | (have e_ := (Kd.R_reads' HO10011.out).1; omega) | simpa only [Ny10013.out, List.length_set] using h_)
                            have ql10020 : ((2 : Int) < ((t10009.length : Int) : Int)) = True := eq_true (of_decide_eq_true (by first | (with_reducible assumption) | assumption))
                            (try have qn10020 : (2 < t10009.length) = True := eq_true (by have h_ : (2 : Int) < ((t10009.length : Int) : Int) := of_decide_eq_true (by first | (with_reducible assumption) | assumption); omega))
                            obtain ⟨ad10020, e10020, hx10020_0⟩ := Kd.at_int (Kd.R_reads' HO10011.out).2.2 2 p10020 q10020
                            obtain rfl : (⟨go20, 0, none⟩ : Addr) = ad10020 := (by injection e10020)
                            (first | simp only [add_plain] at hx10020_0 | simp only [add_at] at hx10020_0 | simp only [Addr.add, Nat.zero_add] at hx10020_0 | skip)
                            have qi10020 : (2 < y10013.length) = True := eq_true (by omega)
                            (try rw [show ((2 : Int)).toNat = 2 from rfl] at hx10020_0)
                            replace p10020 := eq_true p10020
                            replace q10020 := eq_true q10020
                            have p10021 : 0 ≤ (3 : Int) := (by omega)
                            have q10021 : 3 < (y10013.length : Int) := (by have h_ : (3 : Int) < ((t10009.length : Int) : Int) := of_decide_eq_true (by first | (with_reducible assumption) | assumption); first | (have e_ := (Kd.R_reads' HO10011.out).1; omega) | simpa only [Ny10013.out, List.length_set] using h_)
                            have ql10021 : ((3 : Int) < ((t10009.length : Int) : Int)) = True := eq_true (of_decide_eq_true (by first | (with_reducible assumption) | assumption))
                            (try have qn10021 : (3 < t10009.length) = True := eq_true (by have h_ : (3 : Int) < ((t10009.length : Int) : Int) := of_decide_eq_true (by first | (with_reducible assumption) | assumption); omega))
                            obtain ⟨ad10021, e10021, hx10021_0⟩ := Kd.at_int (Kd.R_reads' HO10011.out).2.2 3 p10021 q10021
                            obtain rfl : (⟨go20, 0, none⟩ : Addr) = ad10021 := (by injection e10021)
                            (first | simp only [add_plain] at hx10021_0 | simp only [add_at] at hx10021_0 | simp only [Addr.add, Nat.zero_add] at hx10021_0 | skip)
                            have qi10021 : (3 < y10013.length) = True := eq_true (by omega)
                            (try rw [show ((3 : Int)).toNat = 3 from rfl] at hx10021_0)
                            replace p10021 := eq_true p10021
                            replace q10021 := eq_true q10021
                            refine start_ (n := 11) (S := fun w' => w'.cell? ⟨go20, 2, none⟩ = some (.int .u8 (rd y10013 2)) ∧ w'.cell? ⟨go20, 3, none⟩ = some (.int .u8 (rd y10013 3))) (ds := []) #[false, false, false, false, false, false, false, false, false, false, false] (by kernel_rfl) rfl rfl ⟨hx10020_0, hx10021_0⟩ (fun hHeld => ?_); refine with_tabW tinderlaw18_NvramTells.tab13 tinderlaw18_NvramTells.bits13 (fun HT_ HW_ => ?_)
                            generalize w83.drew = w84 at HO_7 HO_8 HO10011 HO10018 HB hx10020_0 hx10021_0 hHeld ⊢
                            refine pure_ (i := 0) (N := some 64) (v := ?_) (a' := ?_) #[true, false, false, false, false, false, false, false, false, false, false] rfl rfl (any_of HT_.out (by kernel_rfl)) (fun _ _ _ h => h) (Or.inl ⟨by rfl, ?_⟩) ?_ ?_
                            rotate_left
                            · intro w'
                              go_simp
                              with_reducible rfl
                            rotate_left
                            · simp only [Act.put, List.setIfInBounds_toArray, List.set_cons_zero, List.set_cons_succ, i64_w, i32_w]
                              rfl
                            refine pure_ (i := 1) (N := some 65) (v := ?_) (a' := ?_) #[true, true, false, false, false, false, false, false, false, false, false] rfl rfl (any_of HT_.out (by kernel_rfl)) (fun _ _ _ h => h) (Or.inl ⟨by rfl, ?_⟩) ?_ ?_
                            rotate_left
                            · intro w'
                              go_simp
                              with_reducible rfl
                            rotate_left
                            · simp only [Act.put, List.setIfInBounds_toArray, List.set_cons_zero, List.set_cons_succ, i64_w, i32_w]
                              rfl
                            refine pure_ (i := 5) (N := some 69) (v := ?_) (a' := ?_) #[true, true, false, false, false, true, false, false, false, false, false] rfl rfl (any_of HT_.out (by kernel_rfl)) (fun _ _ _ h => h) (Or.inl ⟨by rfl, ?_⟩) ?_ ?_
                            rotate_left
                            · intro w'
                              go_simp
                              with_reducible rfl
                            rotate_left
                            · simp only [Act.put, List.setIfInBounds_toArray, List.set_cons_zero, List.set_cons_succ, i64_w, i32_w]
                              rfl
                            refine pure_ (i := 6) (N := some 70) (v := ?_) (a' := ?_) #[true, true, false, false, false, true, true, false, false, false, false] rfl rfl (any_of HT_.out (by kernel_rfl)) (fun _ _ _ h => h) (Or.inl ⟨by rfl, ?_⟩) ?_ ?_
                            rotate_left
                            · intro w'
                              go_simp
                              with_reducible rfl
                            rotate_left
                            · simp only [Act.put, List.setIfInBounds_toArray, List.set_cons_zero, List.set_cons_succ, i64_w, i32_w]
                              rfl
                            refine take_ (i := 2) (N := some 66) (v := ?_) (a' := ?_) #[true, true, true, false, false, true, true, false, false, false, false] rfl rfl (take_ofW HT_.out HW_.out (by kernel_rfl)) (fun _ _ _ h => h) (Or.inl ⟨by rfl, ?_⟩) hHeld ?_ ?_
                            rotate_left
                            · rintro w' ⟨s0, s1⟩
                              go_simp
                              with_reducible rfl
                            rotate_left
                            · simp only [Act.put, List.setIfInBounds_toArray, List.set_cons_zero, List.set_cons_succ, i64_w, i32_w]
                              rfl
                            refine pure_ (i := 3) (N := some 67) (v := ?_) (a' := ?_) #[true, true, true, true, false, true, true, false, false, false, false] rfl rfl (any_of HT_.out (by kernel_rfl)) (fun _ _ _ h => h) (Or.inl ⟨by rfl, ?_⟩) ?_ ?_
                            rotate_left
                            · intro w'
                              go_simp
                              with_reducible rfl
                            rotate_left
                            · simp only [Act.put, List.setIfInBounds_toArray, List.set_cons_zero, List.set_cons_succ, i64_w, i32_w]
                              rfl
                            refine pure_ (i := 4) (N := some 68) (v := ?_) (a' := ?_) #[true, true, true, true, true, true, true, false, false, false, false] rfl rfl (any_of HT_.out (by kernel_rfl)) (fun _ _ _ h => h) (Or.inl ⟨by rfl, ?_⟩) ?_ ?_
                            rotate_left
                            · intro w'
                              go_simp
                              with_reducible rfl
                            rotate_left
                            · simp only [Act.put, List.setIfInBounds_toArray, List.set_cons_zero, List.set_cons_succ, i64_w, i32_w]
                              rfl
                            refine take_ (i := 7) (N := some 71) (v := ?_) (a' := ?_) #[true, true, true, true, true, true, true, true, false, false, false] rfl rfl (take_ofW HT_.out HW_.out (by kernel_rfl)) (fun _ _ _ h => h) (Or.inl ⟨by rfl, ?_⟩) hHeld ?_ ?_
                            rotate_left
                            · rintro w' ⟨s0, s1⟩
                              go_simp
                              with_reducible rfl
                            rotate_left
                            · simp only [Act.put, List.setIfInBounds_toArray, List.set_cons_zero, List.set_cons_succ, i64_w, i32_w]
                              rfl
                            refine pure_ (i := 8) (N := some 72) (v := ?_) (a' := ?_) #[true, true, true, true, true, true, true, true, true, false, false] rfl rfl (any_of HT_.out (by kernel_rfl)) (fun _ _ _ h => h) (Or.inl ⟨by rfl, ?_⟩) ?_ ?_
                            rotate_left
                            · intro w'
                              go_simp
                              with_reducible rfl
                            rotate_left
                            · simp only [Act.put, List.setIfInBounds_toArray, List.set_cons_zero, List.set_cons_succ, i64_w, i32_w]
                              rfl
                            refine pure_ (i := 9) (N := some 73) (v := ?_) (a' := ?_) #[true, true, true, true, true, true, true, true, true, true, false] rfl rfl (any_of HT_.out (by kernel_rfl)) (fun _ _ _ h => h) (Or.inl ⟨by rfl, ?_⟩) ?_ ?_
                            rotate_left
                            · intro w'
                              go_simp
                              with_reducible rfl
                            rotate_left
                            · simp only [Act.put, List.setIfInBounds_toArray, List.set_cons_zero, List.set_cons_succ, i64_w, i32_w]
                              rfl
                            refine pure_ (i := 10) (N := some 14) (v := ?_) (a' := ?_) #[true, true, true, true, true, true, true, true, true, true, true] rfl rfl (any_of HT_.out (by kernel_rfl)) (fun _ _ _ h => h) (Or.inl ⟨by rfl, ?_⟩) ?_ ?_
                            rotate_left
                            · intro w'
                              go_simp
                              with_reducible rfl
                            rotate_left
                            · simp only [Act.put, List.setIfInBounds_toArray, List.set_cons_zero, List.set_cons_succ, i64_w, i32_w]
                              rfl
                            refine done_ (done_of HT_.out (by kernel_rfl)) ?_
                            try go_wp2
                            go_ret
                            exact ⟨by first | (exact congrArg (fun x => Ending.returned (Value.bool (t10016 == (t10027 == x)))) (by simp only [show ∀ n : Int, IntKind.u32.wrap n = n % 4294967296 from fun n => by simp [IntKind.wrap, IntKind.bits, IntKind.signed]]; omega)) | rfl | (simp [errW_none, errW_some] <;> rfl) | (simp only [← hji17]; first | rfl | (simp [errW_none, errW_some] <;> rfl)) | (simp [*, errW_none, errW_some] <;> rfl), by repeat (first | (with_reducible first | exact HB.out | apply below_alloc | apply pw_below_drewN | apply below_drew1) | exact HB.out)⟩
                          · replace c77 := Bool.eq_false_iff.mpr c77
                            subst c77
                            have H1 : (some ((t10014.length : Int) == 0)) = some r := by rw [if_neg (show ¬ (false = true) by decide)] at H; exact H
                            clear H
                            have H := H1
                            clear H1
                            obtain rfl := Option.some.inj H
                            obtain ⟨Ao85, co85, eo85⟩ := Kd.R_slice HO_8.out
                            subst eo85
                            try go_wp2_with (first | ((with_reducible refine gate_callee (f := 20) rfl ?_); refine goesL_ (some 34) rfl rfl Try.func20 (by kernel_rfl) rfl #[.slice Ao12 y10002.length co12, .slice Ao85 t10005.length co85, .int .i64 (t10005.length : Int)] rfl (by (try simp only [List.map_toArray, List.map_cons, List.map_nil]); first | done | rfl | (simp only [List.length_drop, List.length_take]; rfl)) ?_; (with_reducible refine (nvram_Apply.calls kj7 _ _ y10002 _ _ t10005 (t10005.length : Int) t10009 _ ?side1 ?side2 ?side3 ?side4 A16.out).mono ?_); (case side1 => repeat (first | exact (Kd.R_reads' HO_7.out).2.2 | (with_reducible refine Kd.C_alloc ?_ _) | (with_reducible refine Kd.C_drewN ?_ _) | (with_reducible refine Kd.C_drew ?_))); (case side2 => exact (Kd.R_reads' HO_7.out).2.1); (case side3 => repeat (first | exact (Kd.R_reads' HO_8.out).2.2 | (with_reducible refine Kd.C_alloc ?_ _) | (with_reducible refine Kd.C_drewN ?_ _) | (with_reducible refine Kd.C_drew ?_))); (case side4 => exact (Kd.R_reads' HO_8.out).2.1); rintro e w86 ⟨v10010, rfl, ho0, hb⟩; refine ⟨_, rfl, ?_⟩; have n0_ := Aside0.mk (Kd.R_elder' (by (with_reducible repeat (first | apply Kd.R_alloc | apply Kd.R_drewN | apply Kd.R_drew)); exact HO_7.out) (Kd.R_base ho0) hb); have n1_ := Aside0.mk (Kd.R_below (by (with_reducible repeat (first | apply Kd.R_alloc | apply Kd.R_drewN | apply Kd.R_drew)); exact HO_8.out) hb); have n2_ := Aside0.mk (Kd.R_lower (Kd.R_new' ho0 (Kd.R_lt (by (with_reducible repeat (first | apply Kd.R_alloc | apply Kd.R_drewN | apply Kd.R_drew)); exact HO_7.out))) (below_size (by repeat (first | (with_reducible first | exact HB.out | apply below_alloc | apply pw_below_drewN | apply below_drew1) | exact HB.out)))); have n3_ := Aside0.mk (below_step (by repeat (first | (with_reducible first | exact HB.out | apply below_alloc | apply pw_below_drewN | apply below_drew1) | exact HB.out)) hb); clear HO_7; clear HO_8; clear HB; have HO_7 := n0_; have HO_8 := n1_; have HO10011 := n2_; have HB := n3_; clear n0_ n1_ n2_ n3_; (try clear hb); (try clear hb2); (try clear hk); (try clear hi); (try clear ho0); obtain ⟨Ao87, co87, eo87⟩ := Kd.R_slice HO10011.out; subst eo87; have p10012 : 0 ≤ ((ji17) : Int) := of_decide_eq_true (by first | (with_reducible assumption) | assumption); have q10012 : (ji17) < (t10009.length : Int) := of_decide_eq_true (by first | (with_reducible assumption) | assumption); obtain ⟨ad10012, e10012, hx10012_0⟩ := Kd.at_int (Kd.R_reads' HO10011.out).2.2 (ji17) p10012 q10012; cases e10012; replace p10012 := eq_true p10012; replace q10012 := eq_true q10012; have p20 : 0 ≤ ((ji17) : Int) := of_decide_eq_true (by first | (with_reducible assumption) | assumption); have q20 : ((ji17) : Int) < ((t10009.length : Int) : Int) := of_decide_eq_true (by first | (with_reducible assumption) | assumption); obtain ⟨go20, co20, eo20, gb20, gl20, cl20, HG20⟩ := Kd.R_form HO10011.out (by omega); (first | cases eo20 | (injection eo20 with ea_ en_ ec_; (first | subst ea_ | (injection ea_ with ea_; subst ea_)); subst ec_; clear en_)); have GB20 := Aside0.mk gb20; have GG20 := Aside0.mk HG20; clear gb20 gl20 HG20; (first | simp only [add_plain] at hx10012_0 | skip); obtain ⟨hx20_0, hf20_0⟩ := Kd.R_celln 0 HO10011.out ((ji17) : Int) p20 q20; replace p20 := eq_true p20; replace q20 := eq_true q20; have n_ := Aside0.mk (Kd.R_mono (ok' := (fun k_ => some k_ ≠ (.slice Ao12 y10002.length co12 : Value).ownBlock)) HO10011.out (fun k_ hk => hk.2)); clear HO10011; have HO10011 := n_; clear n_; obtain ⟨hy88_, hz88_⟩ := Kd.R_celln 0 HO10011.out ((ji17) : Int) (of_decide_eq_true (by first | (with_reducible assumption) | assumption)) (of_decide_eq_true (by first | (with_reducible assumption) | assumption)); have HP88 := Kd.R_putg HO10011.out ((ji17) : Int) (Go.bits .xor .u8 (rd t10009 (ji17)) a2)) | ((with_reducible refine gate_store (t := 5) (p := 46) rfl ?_); refine store_event (t := 5) (p := 46) (v := ?vo_w89) (w1 := (w86.setCell ⟨go20, ((ji17) : Int).toNat, none⟩ (.int .u8 (Go.bits .xor .u8 (rd t10009 (ji17)) a2)))) ?hg ?ho ?hn ?hr ?_; (case ho => rfl); (case hg => rfl); (case hn => rfl); (case hr => first | (go_simp; done) | (go_simp; rfl)); intro w89 hw; have hg : w86.grownBy w89 (some go20) := (by rw [hw]; exact HP88.2); have hp_ : Kd.R (Kd.int .u8) 5 w89 w.heap.size (fun k_ => some k_ ≠ (.slice Ao12 y10002.length co12 : Value).ownBlock) (.slice (some ⟨go20, 0, none⟩) t10009.length co87) y10013 := (by rw [hw, Ny10013.out]; exact HP88.1); clear HP88; have n0_ := Aside0.mk (Kd.R_after (v := (.slice (some ⟨go20, 0, none⟩) t10009.length co87)) (v1 := (.slice (some ⟨go20, 0, none⟩) t10009.length co87)) (ok := (fun _ => True)) (by (with_reducible repeat (first | apply Kd.R_alloc | apply Kd.R_drewN | apply Kd.R_drew)); exact HO_7.out) hg (.inl rfl)); have n1_ := Aside0.mk (Kd.R_over' (v := (.slice (some ⟨go20, 0, none⟩) t10009.length co87)) (by (with_reducible repeat (first | apply Kd.R_alloc | apply Kd.R_drewN | apply Kd.R_drew)); exact HO_8.out) (Kd.R_typed HO10011.out) (by decide) hg); have n2_ := Aside0.mk (hp_); have n3_ := Aside0.mk ((by rw [hw]; exact below_set (HB.out) GB20.out : Below w.heap.size w w89)); clear HO_7; clear HO_8; clear HO10011; clear HB; have HO_7 := n0_; have HO_8 := n1_; have HO10011 := n2_; have HB := n3_; clear n0_ n1_ n2_ n3_; clear hg hw hp_) | ((with_reducible refine gate_callee (f := 14) rfl ?_); refine goesL_ (some 49) rfl rfl Try.func14 (by kernel_rfl) rfl #[.slice (some ⟨go20, 0, none⟩) y10013.length co87] rfl (by (try simp only [List.map_toArray, List.map_cons, List.map_nil]); first | done | (rw [show y10013.length = t10009.length from (Kd.R_reads' HO10011.out).1.symm] <;> rfl) | rfl | (simp only [List.length_drop, List.length_take]; rfl)) ?_; (with_reducible refine (nvram_Recover.calls _ _ y10013 t10014 t10015 false _ ?side1 ?side2 A21.out).mono ?_); (case side1 => repeat (first | exact (Kd.R_reads' HO10011.out).2.2 | (with_reducible refine Kd.C_alloc ?_ _) | (with_reducible refine Kd.C_drewN ?_ _) | (with_reducible refine Kd.C_drew ?_))); (case side2 => rw [show y10013.length = t10009.length from (Kd.R_reads' HO10011.out).1.symm]; exact (Kd.R_reads' HO10011.out).2.1); rintro e w90 ⟨v10017, rfl, ho0, hb⟩; refine ⟨_, rfl, ?_⟩; have n0_ := Aside0.mk (Kd.R_elder' (by (with_reducible repeat (first | apply Kd.R_alloc | apply Kd.R_drewN | apply Kd.R_drew)); exact HO_7.out) (Kd.R_base ho0) hb); have n1_ := Aside0.mk (Kd.R_below (by (with_reducible repeat (first | apply Kd.R_alloc | apply Kd.R_drewN | apply Kd.R_drew)); exact HO_8.out) hb); have n2_ := Aside0.mk (Kd.R_elder' (by (with_reducible repeat (first | apply Kd.R_alloc | apply Kd.R_drewN | apply Kd.R_drew)); exact HO10011.out) (Kd.R_base ho0) hb); have n3_ := Aside0.mk (Kd.R_lower (Kd.R_new' (Kd.R_new' ho0 (Kd.R_lt (by (with_reducible repeat (first | apply Kd.R_alloc | apply Kd.R_drewN | apply Kd.R_drew)); exact HO_7.out))) (Kd.R_lt (by (with_reducible repeat (first | apply Kd.R_alloc | apply Kd.R_drewN | apply Kd.R_drew)); exact HO10011.out))) (below_size (by repeat (first | (with_reducible first | exact HB.out | apply below_alloc | apply pw_below_drewN | apply below_drew1) | exact HB.out)))); have n4_ := Aside0.mk (below_step (by repeat (first | (with_reducible first | exact HB.out | apply below_alloc | apply pw_below_drewN | apply below_drew1) | exact HB.out)) hb); clear HO_7; clear HO_8; clear HO10011; clear HB; have HO_7 := n0_; have HO_8 := n1_; have HO10011 := n2_; have HO10018 := n3_; have HB := n4_; clear n0_ n1_ n2_ n3_ n4_; (try clear hb); (try clear hb2); (try clear hk); (try clear hi); (try clear ho0)))
                            have n0_ := Aside0.mk (Kd.R_drew HO_7.out)
                            have n1_ := Aside0.mk (Kd.R_drew HO_8.out)
                            have n2_ := Aside0.mk (Kd.R_drew HO10011.out)
                            have n3_ := Aside0.mk (Kd.R_drew HO10018.out)
                            have n4_ := Aside0.mk (below_drew1 HB.out)
                            clear HO_7
                            clear HO_8
                            clear HO10011
                            clear HO10018
                            clear HB
                            have HO_7 := n0_
                            have HO_8 := n1_
                            have HO10011 := n2_
                            have HO10018 := n3_
                            have HB := n4_
                            clear n0_ n1_ n2_ n3_ n4_
                            have p10020 : 0 ≤ (2 : Int) := (by omega)
                            have q10020 : 2 < (y10013.length : Int) := (by have h_ : (2 : Int) < ((t10009.length : Int) : Int) := of_decide_eq_true (by first | (with_reducible assumption) | assumption); first | (have e_ := (Kd.R_reads' HO10011.out).1; omega) | simpa only [Ny10013.out, List.length_set] using h_)
                            have ql10020 : ((2 : Int) < ((t10009.length : Int) : Int)) = True := eq_true (of_decide_eq_true (by first | (with_reducible assumption) | assumption))
                            (try have qn10020 : (2 < t10009.length) = True := eq_true (by have h_ : (2 : Int) < ((t10009.length : Int) : Int) := of_decide_eq_true (by first | (with_reducible assumption) | assumption); omega))
                            obtain ⟨ad10020, e10020, hx10020_0⟩ := Kd.at_int (Kd.R_reads' HO10011.out).2.2 2 p10020 q10020
                            obtain rfl : (⟨go20, 0, none⟩ : Addr) = ad10020 := (by injection e10020)
                            (first | simp only [add_plain] at hx10020_0 | simp only [add_at] at hx10020_0 | simp only [Addr.add, Nat.zero_add] at hx10020_0 | skip)
                            have qi10020 : (2 < y10013.length) = True := eq_true (by omega)
                            (try rw [show ((2 : Int)).toNat = 2 from rfl] at hx10020_0)
                            replace p10020 := eq_true p10020
                            replace q10020 := eq_true q10020
                            have p10021 : 0 ≤ (3 : Int) := (by omega)
                            have q10021 : 3 < (y10013.length : Int) := (by have h_ : (3 : Int) < ((t10009.length : Int) : Int) := of_decide_eq_true (by first | (with_reducible assumption) | assumption); first | (have e_ := (Kd.R_reads' HO10011.out).1; omega) | simpa only [Ny10013.out, List.length_set] using h_)
                            have ql10021 : ((3 : Int) < ((t10009.length : Int) : Int)) = True := eq_true (of_decide_eq_true (by first | (with_reducible assumption) | assumption))
                            (try have qn10021 : (3 < t10009.length) = True := eq_true (by have h_ : (3 : Int) < ((t10009.length : Int) : Int) := of_decide_eq_true (by first | (with_reducible assumption) | assumption); omega))
                            obtain ⟨ad10021, e10021, hx10021_0⟩ := Kd.at_int (Kd.R_reads' HO10011.out).2.2 3 p10021 q10021
                            obtain rfl : (⟨go20, 0, none⟩ : Addr) = ad10021 := (by injection e10021)
                            (first | simp only [add_plain] at hx10021_0 | simp only [add_at] at hx10021_0 | simp only [Addr.add, Nat.zero_add] at hx10021_0 | skip)
                            have qi10021 : (3 < y10013.length) = True := eq_true (by omega)
                            (try rw [show ((3 : Int)).toNat = 3 from rfl] at hx10021_0)
                            replace p10021 := eq_true p10021
                            replace q10021 := eq_true q10021
                            refine start_ (n := 11) (S := fun w' => w'.cell? ⟨go20, 2, none⟩ = some (.int .u8 (rd y10013 2)) ∧ w'.cell? ⟨go20, 3, none⟩ = some (.int .u8 (rd y10013 3))) (ds := []) #[false, false, false, false, false, false, false, false, false, false, false] (by kernel_rfl) rfl rfl ⟨hx10020_0, hx10021_0⟩ (fun hHeld => ?_); refine with_tabW tinderlaw18_NvramTells.tab13 tinderlaw18_NvramTells.bits13 (fun HT_ HW_ => ?_)
                            generalize w90.drew = w91 at HO_7 HO_8 HO10011 HO10018 HB hx10020_0 hx10021_0 hHeld ⊢
                            refine pure_ (i := 0) (N := some 64) (v := ?_) (a' := ?_) #[true, false, false, false, false, false, false, false, false, false, false] rfl rfl (any_of HT_.out (by kernel_rfl)) (fun _ _ _ h => h) (Or.inl ⟨by rfl, ?_⟩) ?_ ?_
                            rotate_left
                            · intro w'
                              go_simp
                              with_reducible rfl
                            rotate_left
                            · simp only [Act.put, List.setIfInBounds_toArray, List.set_cons_zero, List.set_cons_succ, i64_w, i32_w]
                              rfl
                            refine pure_ (i := 1) (N := some 65) (v := ?_) (a' := ?_) #[true, true, false, false, false, false, false, false, false, false, false] rfl rfl (any_of HT_.out (by kernel_rfl)) (fun _ _ _ h => h) (Or.inl ⟨by rfl, ?_⟩) ?_ ?_
                            rotate_left
                            · intro w'
                              go_simp
                              with_reducible rfl
                            rotate_left
                            · simp only [Act.put, List.setIfInBounds_toArray, List.set_cons_zero, List.set_cons_succ, i64_w, i32_w]
                              rfl
                            refine pure_ (i := 5) (N := some 69) (v := ?_) (a' := ?_) #[true, true, false, false, false, true, false, false, false, false, false] rfl rfl (any_of HT_.out (by kernel_rfl)) (fun _ _ _ h => h) (Or.inl ⟨by rfl, ?_⟩) ?_ ?_
                            rotate_left
                            · intro w'
                              go_simp
                              with_reducible rfl
                            rotate_left
                            · simp only [Act.put, List.setIfInBounds_toArray, List.set_cons_zero, List.set_cons_succ, i64_w, i32_w]
                              rfl
                            refine pure_ (i := 6) (N := some 70) (v := ?_) (a' := ?_) #[true, true, false, false, false, true, true, false, false, false, false] rfl rfl (any_of HT_.out (by kernel_rfl)) (fun _ _ _ h => h) (Or.inl ⟨by rfl, ?_⟩) ?_ ?_
                            rotate_left
                            · intro w'
                              go_simp
                              with_reducible rfl
                            rotate_left
                            · simp only [Act.put, List.setIfInBounds_toArray, List.set_cons_zero, List.set_cons_succ, i64_w, i32_w]
                              rfl
                            refine take_ (i := 2) (N := some 66) (v := ?_) (a' := ?_) #[true, true, true, false, false, true, true, false, false, false, false] rfl rfl (take_ofW HT_.out HW_.out (by kernel_rfl)) (fun _ _ _ h => h) (Or.inl ⟨by rfl, ?_⟩) hHeld ?_ ?_
                            rotate_left
                            · rintro w' ⟨s0, s1⟩
                              go_simp
                              with_reducible rfl
                            rotate_left
                            · simp only [Act.put, List.setIfInBounds_toArray, List.set_cons_zero, List.set_cons_succ, i64_w, i32_w]
                              rfl
                            refine pure_ (i := 3) (N := some 67) (v := ?_) (a' := ?_) #[true, true, true, true, false, true, true, false, false, false, false] rfl rfl (any_of HT_.out (by kernel_rfl)) (fun _ _ _ h => h) (Or.inl ⟨by rfl, ?_⟩) ?_ ?_
                            rotate_left
                            · intro w'
                              go_simp
                              with_reducible rfl
                            rotate_left
                            · simp only [Act.put, List.setIfInBounds_toArray, List.set_cons_zero, List.set_cons_succ, i64_w, i32_w]
                              rfl
                            refine pure_ (i := 4) (N := some 68) (v := ?_) (a' := ?_) #[true, true, true, true, true, true, true, false, false, false, false] rfl rfl (any_of HT_.out (by kernel_rfl)) (fun _ _ _ h => h) (Or.inl ⟨by rfl, ?_⟩) ?_ ?_
                            rotate_left
                            · intro w'
                              go_simp
                              with_reducible rfl
                            rotate_left
                            · simp only [Act.put, List.setIfInBounds_toArray, List.set_cons_zero, List.set_cons_succ, i64_w, i32_w]
                              rfl
                            refine take_ (i := 7) (N := some 71) (v := ?_) (a' := ?_) #[true, true, true, true, true, true, true, true, false, false, false] rfl rfl (take_ofW HT_.out HW_.out (by kernel_rfl)) (fun _ _ _ h => h) (Or.inl ⟨by rfl, ?_⟩) hHeld ?_ ?_
                            rotate_left
                            · rintro w' ⟨s0, s1⟩
                              go_simp
                              with_reducible rfl
                            rotate_left
                            · simp only [Act.put, List.setIfInBounds_toArray, List.set_cons_zero, List.set_cons_succ, i64_w, i32_w]
                              rfl
                            refine pure_ (i := 8) (N := some 72) (v := ?_) (a' := ?_) #[true, true, true, true, true, true, true, true, true, false, false] rfl rfl (any_of HT_.out (by kernel_rfl)) (fun _ _ _ h => h) (Or.inl ⟨by rfl, ?_⟩) ?_ ?_
                            rotate_left
                            · intro w'
                              go_simp
                              with_reducible rfl
                            rotate_left
                            · simp only [Act.put, List.setIfInBounds_toArray, List.set_cons_zero, List.set_cons_succ, i64_w, i32_w]
                              rfl
                            refine pure_ (i := 9) (N := some 73) (v := ?_) (a' := ?_) #[true, true, true, true, true, true, true, true, true, true, false] rfl rfl (any_of HT_.out (by kernel_rfl)) (fun _ _ _ h => h) (Or.inl ⟨by rfl, ?_⟩) ?_ ?_
                            rotate_left
                            · intro w'
                              go_simp
                              with_reducible rfl
                            rotate_left
                            · simp only [Act.put, List.setIfInBounds_toArray, List.set_cons_zero, List.set_cons_succ, i64_w, i32_w]
                              rfl
                            refine pure_ (i := 10) (N := some 14) (v := ?_) (a' := ?_) #[true, true, true, true, true, true, true, true, true, true, true] rfl rfl (any_of HT_.out (by kernel_rfl)) (fun _ _ _ h => h) (Or.inl ⟨by rfl, ?_⟩) ?_ ?_
                            rotate_left
                            · intro w'
                              go_simp
                              with_reducible rfl
                            rotate_left
                            · simp only [Act.put, List.setIfInBounds_toArray, List.set_cons_zero, List.set_cons_succ, i64_w, i32_w]
                              rfl
                            refine done_ (done_of HT_.out (by kernel_rfl)) ?_
                            obtain ⟨Ao92, co92, eo92⟩ := Kd.R_slice HO10018.out
                            subst eo92
                            try go_wp2
                            go_ret
                            exact ⟨by first | (exact congrArg (fun x => Ending.returned (Value.bool (t10016 == (t10027 == x)))) (by simp only [show ∀ n : Int, IntKind.u32.wrap n = n % 4294967296 from fun n => by simp [IntKind.wrap, IntKind.bits, IntKind.signed]]; omega)) | rfl | (simp [errW_none, errW_some] <;> rfl) | (simp only [← hji17]; first | rfl | (simp [errW_none, errW_some] <;> rfl)) | (simp [*, errW_none, errW_some] <;> rfl), by repeat (first | (with_reducible first | exact HB.out | apply below_alloc | apply pw_below_drewN | apply below_drew1) | exact HB.out)⟩
                      · rw [if_neg c40] at H
                        have c40b0 : decide ((ji17) < 4) = false := decide_eq_false c40
                        clear c40
                        by_cases c93 : t10016 = true
                        · subst c93
                          have H1 : (some false) = some r := by rw [if_pos rfl] at H; exact H
                          clear H
                          have H := H1
                          clear H1
                          obtain rfl := Option.some.inj H
                          obtain ⟨Ao94, co94, eo94⟩ := Kd.R_slice HO_8.out
                          subst eo94
                          try go_wp2_with (first | ((with_reducible refine gate_callee (f := 20) rfl ?_); refine goesL_ (some 34) rfl rfl Try.func20 (by kernel_rfl) rfl #[.slice Ao12 y10002.length co12, .slice Ao94 t10005.length co94, .int .i64 (t10005.length : Int)] rfl (by (try simp only [List.map_toArray, List.map_cons, List.map_nil]); first | done | rfl | (simp only [List.length_drop, List.length_take]; rfl)) ?_; (with_reducible refine (nvram_Apply.calls kj7 _ _ y10002 _ _ t10005 (t10005.length : Int) t10009 _ ?side1 ?side2 ?side3 ?side4 A16.out).mono ?_); (case side1 => repeat (first | exact (Kd.R_reads' HO_7.out).2.2 | (with_reducible refine Kd.C_alloc ?_ _) | (with_reducible refine Kd.C_drewN ?_ _) | (with_reducible refine Kd.C_drew ?_))); (case side2 => exact (Kd.R_reads' HO_7.out).2.1); (case side3 => repeat (first | exact (Kd.R_reads' HO_8.out).2.2 | (with_reducible refine Kd.C_alloc ?_ _) | (with_reducible refine Kd.C_drewN ?_ _) | (with_reducible refine Kd.C_drew ?_))); (case side4 => exact (Kd.R_reads' HO_8.out).2.1); rintro e w95 ⟨v10010, rfl, ho0, hb⟩; refine ⟨_, rfl, ?_⟩; have n0_ := Aside0.mk (Kd.R_elder' (by (with_reducible repeat (first | apply Kd.R_alloc | apply Kd.R_drewN | apply Kd.R_drew)); exact HO_7.out) (Kd.R_base ho0) hb); have n1_ := Aside0.mk (Kd.R_below (by (with_reducible repeat (first | apply Kd.R_alloc | apply Kd.R_drewN | apply Kd.R_drew)); exact HO_8.out) hb); have n2_ := Aside0.mk (Kd.R_lower (Kd.R_new' ho0 (Kd.R_lt (by (with_reducible repeat (first | apply Kd.R_alloc | apply Kd.R_drewN | apply Kd.R_drew)); exact HO_7.out))) (below_size (by repeat (first | (with_reducible first | exact HB.out | apply below_alloc | apply pw_below_drewN | apply below_drew1) | exact HB.out)))); have n3_ := Aside0.mk (below_step (by repeat (first | (with_reducible first | exact HB.out | apply below_alloc | apply pw_below_drewN | apply below_drew1) | exact HB.out)) hb); clear HO_7; clear HO_8; clear HB; have HO_7 := n0_; have HO_8 := n1_; have HO10011 := n2_; have HB := n3_; clear n0_ n1_ n2_ n3_; (try clear hb); (try clear hb2); (try clear hk); (try clear hi); (try clear ho0); obtain ⟨Ao96, co96, eo96⟩ := Kd.R_slice HO10011.out; subst eo96; have p10012 : 0 ≤ ((ji17) : Int) := of_decide_eq_true (by first | (with_reducible assumption) | assumption); have q10012 : (ji17) < (t10009.length : Int) := of_decide_eq_true (by first | (with_reducible assumption) | assumption); obtain ⟨ad10012, e10012, hx10012_0⟩ := Kd.at_int (Kd.R_reads' HO10011.out).2.2 (ji17) p10012 q10012; cases e10012; replace p10012 := eq_true p10012; replace q10012 := eq_true q10012; have p20 : 0 ≤ ((ji17) : Int) := of_decide_eq_true (by first | (with_reducible assumption) | assumption); have q20 : ((ji17) : Int) < ((t10009.length : Int) : Int) := of_decide_eq_true (by first | (with_reducible assumption) | assumption); obtain ⟨go20, co20, eo20, gb20, gl20, cl20, HG20⟩ := Kd.R_form HO10011.out (by omega); (first | cases eo20 | (injection eo20 with ea_ en_ ec_; (first | subst ea_ | (injection ea_ with ea_; subst ea_)); subst ec_; clear en_)); have GB20 := Aside0.mk gb20; have GG20 := Aside0.mk HG20; clear gb20 gl20 HG20; (first | simp only [add_plain] at hx10012_0 | skip); obtain ⟨hx20_0, hf20_0⟩ := Kd.R_celln 0 HO10011.out ((ji17) : Int) p20 q20; replace p20 := eq_true p20; replace q20 := eq_true q20; have n_ := Aside0.mk (Kd.R_mono (ok' := (fun k_ => some k_ ≠ (.slice Ao12 y10002.length co12 : Value).ownBlock)) HO10011.out (fun k_ hk => hk.2)); clear HO10011; have HO10011 := n_; clear n_; obtain ⟨hy97_, hz97_⟩ := Kd.R_celln 0 HO10011.out ((ji17) : Int) (of_decide_eq_true (by first | (with_reducible assumption) | assumption)) (of_decide_eq_true (by first | (with_reducible assumption) | assumption)); have HP97 := Kd.R_putg HO10011.out ((ji17) : Int) (Go.bits .xor .u8 (rd t10009 (ji17)) a2)) | ((with_reducible refine gate_store (t := 5) (p := 46) rfl ?_); refine store_event (t := 5) (p := 46) (v := ?vo_w98) (w1 := (w95.setCell ⟨go20, ((ji17) : Int).toNat, none⟩ (.int .u8 (Go.bits .xor .u8 (rd t10009 (ji17)) a2)))) ?hg ?ho ?hn ?hr ?_; (case ho => rfl); (case hg => rfl); (case hn => rfl); (case hr => first | (go_simp; done) | (go_simp; rfl)); intro w98 hw; have hg : w95.grownBy w98 (some go20) := (by rw [hw]; exact HP97.2); have hp_ : Kd.R (Kd.int .u8) 5 w98 w.heap.size (fun k_ => some k_ ≠ (.slice Ao12 y10002.length co12 : Value).ownBlock) (.slice (some ⟨go20, 0, none⟩) t10009.length co96) y10013 := (by rw [hw, Ny10013.out]; exact HP97.1); clear HP97; have n0_ := Aside0.mk (Kd.R_after (v := (.slice (some ⟨go20, 0, none⟩) t10009.length co96)) (v1 := (.slice (some ⟨go20, 0, none⟩) t10009.length co96)) (ok := (fun _ => True)) (by (with_reducible repeat (first | apply Kd.R_alloc | apply Kd.R_drewN | apply Kd.R_drew)); exact HO_7.out) hg (.inl rfl)); have n1_ := Aside0.mk (Kd.R_over' (v := (.slice (some ⟨go20, 0, none⟩) t10009.length co96)) (by (with_reducible repeat (first | apply Kd.R_alloc | apply Kd.R_drewN | apply Kd.R_drew)); exact HO_8.out) (Kd.R_typed HO10011.out) (by decide) hg); have n2_ := Aside0.mk (hp_); have n3_ := Aside0.mk ((by rw [hw]; exact below_set (HB.out) GB20.out : Below w.heap.size w w98)); clear HO_7; clear HO_8; clear HO10011; clear HB; have HO_7 := n0_; have HO_8 := n1_; have HO10011 := n2_; have HB := n3_; clear n0_ n1_ n2_ n3_; clear hg hw hp_) | ((with_reducible refine gate_callee (f := 14) rfl ?_); refine goesL_ (some 49) rfl rfl Try.func14 (by kernel_rfl) rfl #[.slice (some ⟨go20, 0, none⟩) y10013.length co96] rfl (by (try simp only [List.map_toArray, List.map_cons, List.map_nil]); first | done | (rw [show y10013.length = t10009.length from (Kd.R_reads' HO10011.out).1.symm] <;> rfl) | rfl | (simp only [List.length_drop, List.length_take]; rfl)) ?_; (with_reducible refine (nvram_Recover.calls _ _ y10013 t10014 t10015 true _ ?side1 ?side2 A21.out).mono ?_); (case side1 => repeat (first | exact (Kd.R_reads' HO10011.out).2.2 | (with_reducible refine Kd.C_alloc ?_ _) | (with_reducible refine Kd.C_drewN ?_ _) | (with_reducible refine Kd.C_drew ?_))); (case side2 => rw [show y10013.length = t10009.length from (Kd.R_reads' HO10011.out).1.symm]; exact (Kd.R_reads' HO10011.out).2.1); rintro e w99 ⟨v10017, rfl, ho0, hb⟩; refine ⟨_, rfl, ?_⟩; have n0_ := Aside0.mk (Kd.R_elder' (by (with_reducible repeat (first | apply Kd.R_alloc | apply Kd.R_drewN | apply Kd.R_drew)); exact HO_7.out) (Kd.R_base ho0) hb); have n1_ := Aside0.mk (Kd.R_below (by (with_reducible repeat (first | apply Kd.R_alloc | apply Kd.R_drewN | apply Kd.R_drew)); exact HO_8.out) hb); have n2_ := Aside0.mk (Kd.R_elder' (by (with_reducible repeat (first | apply Kd.R_alloc | apply Kd.R_drewN | apply Kd.R_drew)); exact HO10011.out) (Kd.R_base ho0) hb); have n3_ := Aside0.mk (Kd.R_lower (Kd.R_new' (Kd.R_new' ho0 (Kd.R_lt (by (with_reducible repeat (first | apply Kd.R_alloc | apply Kd.R_drewN | apply Kd.R_drew)); exact HO_7.out))) (Kd.R_lt (by (with_reducible repeat (first | apply Kd.R_alloc | apply Kd.R_drewN | apply Kd.R_drew)); exact HO10011.out))) (below_size (by repeat (first | (with_reducible first | exact HB.out | apply below_alloc | apply pw_below_drewN | apply below_drew1) | exact HB.out)))); have n4_ := Aside0.mk (below_step (by repeat (first | (with_reducible first | exact HB.out | apply below_alloc | apply pw_below_drewN | apply below_drew1) | exact HB.out)) hb); clear HO_7; clear HO_8; clear HO10011; clear HB; have HO_7 := n0_; have HO_8 := n1_; have HO10011 := n2_; have HO10018 := n3_; have HB := n4_; clear n0_ n1_ n2_ n3_ n4_; (try clear hb); (try clear hb2); (try clear hk); (try clear hi); (try clear ho0)))
                          have n0_ := Aside0.mk (Kd.R_drew HO_7.out)
                          have n1_ := Aside0.mk (Kd.R_drew HO_8.out)
                          have n2_ := Aside0.mk (Kd.R_drew HO10011.out)
                          have n3_ := Aside0.mk (Kd.R_drew HO10018.out)
                          have n4_ := Aside0.mk (below_drew1 HB.out)
                          clear HO_7
                          clear HO_8
                          clear HO10011
                          clear HO10018
                          clear HB
                          have HO_7 := n0_
                          have HO_8 := n1_
                          have HO10011 := n2_
                          have HO10018 := n3_
                          have HB := n4_
                          clear n0_ n1_ n2_ n3_ n4_
                          have p10020 : 0 ≤ (2 : Int) := (by omega)
                          have q10020 : 2 < (y10013.length : Int) := (by have h_ : (2 : Int) < ((t10009.length : Int) : Int) := of_decide_eq_true (by first | (with_reducible assumption) | assumption); first | (have e_ := (Kd.R_reads' HO10011.out).1; omega) | simpa only [Ny10013.out, List.length_set] using h_)
                          have ql10020 : ((2 : Int) < ((t10009.length : Int) : Int)) = True := eq_true (of_decide_eq_true (by first | (with_reducible assumption) | assumption))
                          (try have qn10020 : (2 < t10009.length) = True := eq_true (by have h_ : (2 : Int) < ((t10009.length : Int) : Int) := of_decide_eq_true (by first | (with_reducible assumption) | assumption); omega))
                          obtain ⟨ad10020, e10020, hx10020_0⟩ := Kd.at_int (Kd.R_reads' HO10011.out).2.2 2 p10020 q10020
                          obtain rfl : (⟨go20, 0, none⟩ : Addr) = ad10020 := (by injection e10020)
                          (first | simp only [add_plain] at hx10020_0 | simp only [add_at] at hx10020_0 | simp only [Addr.add, Nat.zero_add] at hx10020_0 | skip)
                          have qi10020 : (2 < y10013.length) = True := eq_true (by omega)
                          (try rw [show ((2 : Int)).toNat = 2 from rfl] at hx10020_0)
                          replace p10020 := eq_true p10020
                          replace q10020 := eq_true q10020
                          have p10021 : 0 ≤ (3 : Int) := (by omega)
                          have q10021 : 3 < (y10013.length : Int) := (by have h_ : (3 : Int) < ((t10009.length : Int) : Int) := of_decide_eq_true (by first | (with_reducible assumption) | assumption); first | (have e_ := (Kd.R_reads' HO10011.out).1; omega) | simpa only [Ny10013.out, List.length_set] using h_)
                          have ql10021 : ((3 : Int) < ((t10009.length : Int) : Int)) = True := eq_true (of_decide_eq_true (by first | (with_reducible assumption) | assumption))
                          (try have qn10021 : (3 < t10009.length) = True := eq_true (by have h_ : (3 : Int) < ((t10009.length : Int) : Int) := of_decide_eq_true (by first | (with_reducible assumption) | assumption); omega))
                          obtain ⟨ad10021, e10021, hx10021_0⟩ := Kd.at_int (Kd.R_reads' HO10011.out).2.2 3 p10021 q10021
                          obtain rfl : (⟨go20, 0, none⟩ : Addr) = ad10021 := (by injection e10021)
                          (first | simp only [add_plain] at hx10021_0 | simp only [add_at] at hx10021_0 | simp only [Addr.add, Nat.zero_add] at hx10021_0 | skip)
                          have qi10021 : (3 < y10013.length) = True := eq_true (by omega)
                          (try rw [show ((3 : Int)).toNat = 3 from rfl] at hx10021_0)
                          replace p10021 := eq_true p10021
                          replace q10021 := eq_true q10021
                          refine start_ (n := 11) (S := fun w' => w'.cell? ⟨go20, 2, none⟩ = some (.int .u8 (rd y10013 2)) ∧ w'.cell? ⟨go20, 3, none⟩ = some (.int .u8 (rd y10013 3))) (ds := []) #[false, false, false, false, false, false, false, false, false, false, false] (by kernel_rfl) rfl rfl ⟨hx10020_0, hx10021_0⟩ (fun hHeld => ?_); refine with_tabW tinderlaw18_NvramTells.tab13 tinderlaw18_NvramTells.bits13 (fun HT_ HW_ => ?_)
                          generalize w99.drew = w100 at HO_7 HO_8 HO10011 HO10018 HB hx10020_0 hx10021_0 hHeld ⊢
                          refine pure_ (i := 0) (N := some 64) (v := ?_) (a' := ?_) #[true, false, false, false, false, false, false, false, false, false, false] rfl rfl (any_of HT_.out (by kernel_rfl)) (fun _ _ _ h => h) (Or.inl ⟨by rfl, ?_⟩) ?_ ?_
                          rotate_left
                          · intro w'
                            go_simp
                            with_reducible rfl
                          rotate_left
                          · simp only [Act.put, List.setIfInBounds_toArray, List.set_cons_zero, List.set_cons_succ, i64_w, i32_w]
                            rfl
                          refine pure_ (i := 1) (N := some 65) (v := ?_) (a' := ?_) #[true, true, false, false, false, false, false, false, false, false, false] rfl rfl (any_of HT_.out (by kernel_rfl)) (fun _ _ _ h => h) (Or.inl ⟨by rfl, ?_⟩) ?_ ?_
                          rotate_left
                          · intro w'
                            go_simp
                            with_reducible rfl
                          rotate_left
                          · simp only [Act.put, List.setIfInBounds_toArray, List.set_cons_zero, List.set_cons_succ, i64_w, i32_w]
                            rfl
                          refine pure_ (i := 5) (N := some 69) (v := ?_) (a' := ?_) #[true, true, false, false, false, true, false, false, false, false, false] rfl rfl (any_of HT_.out (by kernel_rfl)) (fun _ _ _ h => h) (Or.inl ⟨by rfl, ?_⟩) ?_ ?_
                          rotate_left
                          · intro w'
                            go_simp
                            with_reducible rfl
                          rotate_left
                          · simp only [Act.put, List.setIfInBounds_toArray, List.set_cons_zero, List.set_cons_succ, i64_w, i32_w]
                            rfl
                          refine pure_ (i := 6) (N := some 70) (v := ?_) (a' := ?_) #[true, true, false, false, false, true, true, false, false, false, false] rfl rfl (any_of HT_.out (by kernel_rfl)) (fun _ _ _ h => h) (Or.inl ⟨by rfl, ?_⟩) ?_ ?_
                          rotate_left
                          · intro w'
                            go_simp
                            with_reducible rfl
                          rotate_left
                          · simp only [Act.put, List.setIfInBounds_toArray, List.set_cons_zero, List.set_cons_succ, i64_w, i32_w]
                            rfl
                          refine take_ (i := 2) (N := some 66) (v := ?_) (a' := ?_) #[true, true, true, false, false, true, true, false, false, false, false] rfl rfl (take_ofW HT_.out HW_.out (by kernel_rfl)) (fun _ _ _ h => h) (Or.inl ⟨by rfl, ?_⟩) hHeld ?_ ?_
                          rotate_left
                          · rintro w' ⟨s0, s1⟩
                            go_simp
                            with_reducible rfl
                          rotate_left
                          · simp only [Act.put, List.setIfInBounds_toArray, List.set_cons_zero, List.set_cons_succ, i64_w, i32_w]
                            rfl
                          refine pure_ (i := 3) (N := some 67) (v := ?_) (a' := ?_) #[true, true, true, true, false, true, true, false, false, false, false] rfl rfl (any_of HT_.out (by kernel_rfl)) (fun _ _ _ h => h) (Or.inl ⟨by rfl, ?_⟩) ?_ ?_
                          rotate_left
                          · intro w'
                            go_simp
                            with_reducible rfl
                          rotate_left
                          · simp only [Act.put, List.setIfInBounds_toArray, List.set_cons_zero, List.set_cons_succ, i64_w, i32_w]
                            rfl
                          refine pure_ (i := 4) (N := some 68) (v := ?_) (a' := ?_) #[true, true, true, true, true, true, true, false, false, false, false] rfl rfl (any_of HT_.out (by kernel_rfl)) (fun _ _ _ h => h) (Or.inl ⟨by rfl, ?_⟩) ?_ ?_
                          rotate_left
                          · intro w'
                            go_simp
                            with_reducible rfl
                          rotate_left
                          · simp only [Act.put, List.setIfInBounds_toArray, List.set_cons_zero, List.set_cons_succ, i64_w, i32_w]
                            rfl
                          refine take_ (i := 7) (N := some 71) (v := ?_) (a' := ?_) #[true, true, true, true, true, true, true, true, false, false, false] rfl rfl (take_ofW HT_.out HW_.out (by kernel_rfl)) (fun _ _ _ h => h) (Or.inl ⟨by rfl, ?_⟩) hHeld ?_ ?_
                          rotate_left
                          · rintro w' ⟨s0, s1⟩
                            go_simp
                            with_reducible rfl
                          rotate_left
                          · simp only [Act.put, List.setIfInBounds_toArray, List.set_cons_zero, List.set_cons_succ, i64_w, i32_w]
                            rfl
                          refine pure_ (i := 8) (N := some 72) (v := ?_) (a' := ?_) #[true, true, true, true, true, true, true, true, true, false, false] rfl rfl (any_of HT_.out (by kernel_rfl)) (fun _ _ _ h => h) (Or.inl ⟨by rfl, ?_⟩) ?_ ?_
                          rotate_left
                          · intro w'
                            go_simp
                            with_reducible rfl
                          rotate_left
                          · simp only [Act.put, List.setIfInBounds_toArray, List.set_cons_zero, List.set_cons_succ, i64_w, i32_w]
                            rfl
                          refine pure_ (i := 9) (N := some 73) (v := ?_) (a' := ?_) #[true, true, true, true, true, true, true, true, true, true, false] rfl rfl (any_of HT_.out (by kernel_rfl)) (fun _ _ _ h => h) (Or.inl ⟨by rfl, ?_⟩) ?_ ?_
                          rotate_left
                          · intro w'
                            go_simp
                            with_reducible rfl
                          rotate_left
                          · simp only [Act.put, List.setIfInBounds_toArray, List.set_cons_zero, List.set_cons_succ, i64_w, i32_w]
                            rfl
                          refine pure_ (i := 10) (N := some 14) (v := ?_) (a' := ?_) #[true, true, true, true, true, true, true, true, true, true, true] rfl rfl (any_of HT_.out (by kernel_rfl)) (fun _ _ _ h => h) (Or.inl ⟨by rfl, ?_⟩) ?_ ?_
                          rotate_left
                          · intro w'
                            go_simp
                            with_reducible rfl
                          rotate_left
                          · simp only [Act.put, List.setIfInBounds_toArray, List.set_cons_zero, List.set_cons_succ, i64_w, i32_w]
                            rfl
                          refine done_ (done_of HT_.out (by kernel_rfl)) ?_
                          try go_wp2
                          go_ret
                          exact ⟨by first | (exact congrArg (fun x => Ending.returned (Value.bool (t10016 == (t10027 == x)))) (by simp only [show ∀ n : Int, IntKind.u32.wrap n = n % 4294967296 from fun n => by simp [IntKind.wrap, IntKind.bits, IntKind.signed]]; omega)) | rfl | (simp [errW_none, errW_some] <;> rfl) | (simp only [← hji17]; first | rfl | (simp [errW_none, errW_some] <;> rfl)) | (simp [*, errW_none, errW_some] <;> rfl), by repeat (first | (with_reducible first | exact HB.out | apply below_alloc | apply pw_below_drewN | apply below_drew1) | exact HB.out)⟩
                        · replace c93 := Bool.eq_false_iff.mpr c93
                          subst c93
                          have H1 : (some ((t10014.length : Int) == 0)) = some r := by rw [if_neg (show ¬ (false = true) by decide)] at H; exact H
                          clear H
                          have H := H1
                          clear H1
                          obtain rfl := Option.some.inj H
                          obtain ⟨Ao101, co101, eo101⟩ := Kd.R_slice HO_8.out
                          subst eo101
                          try go_wp2_with (first | ((with_reducible refine gate_callee (f := 20) rfl ?_); refine goesL_ (some 34) rfl rfl Try.func20 (by kernel_rfl) rfl #[.slice Ao12 y10002.length co12, .slice Ao101 t10005.length co101, .int .i64 (t10005.length : Int)] rfl (by (try simp only [List.map_toArray, List.map_cons, List.map_nil]); first | done | rfl | (simp only [List.length_drop, List.length_take]; rfl)) ?_; (with_reducible refine (nvram_Apply.calls kj7 _ _ y10002 _ _ t10005 (t10005.length : Int) t10009 _ ?side1 ?side2 ?side3 ?side4 A16.out).mono ?_); (case side1 => repeat (first | exact (Kd.R_reads' HO_7.out).2.2 | (with_reducible refine Kd.C_alloc ?_ _) | (with_reducible refine Kd.C_drewN ?_ _) | (with_reducible refine Kd.C_drew ?_))); (case side2 => exact (Kd.R_reads' HO_7.out).2.1); (case side3 => repeat (first | exact (Kd.R_reads' HO_8.out).2.2 | (with_reducible refine Kd.C_alloc ?_ _) | (with_reducible refine Kd.C_drewN ?_ _) | (with_reducible refine Kd.C_drew ?_))); (case side4 => exact (Kd.R_reads' HO_8.out).2.1); rintro e w102 ⟨v10010, rfl, ho0, hb⟩; refine ⟨_, rfl, ?_⟩; have n0_ := Aside0.mk (Kd.R_elder' (by (with_reducible repeat (first | apply Kd.R_alloc | apply Kd.R_drewN | apply Kd.R_drew)); exact HO_7.out) (Kd.R_base ho0) hb); have n1_ := Aside0.mk (Kd.R_below (by (with_reducible repeat (first | apply Kd.R_alloc | apply Kd.R_drewN | apply Kd.R_drew)); exact HO_8.out) hb); have n2_ := Aside0.mk (Kd.R_lower (Kd.R_new' ho0 (Kd.R_lt (by (with_reducible repeat (first | apply Kd.R_alloc | apply Kd.R_drewN | apply Kd.R_drew)); exact HO_7.out))) (below_size (by repeat (first | (with_reducible first | exact HB.out | apply below_alloc | apply pw_below_drewN | apply below_drew1) | exact HB.out)))); have n3_ := Aside0.mk (below_step (by repeat (first | (with_reducible first | exact HB.out | apply below_alloc | apply pw_below_drewN | apply below_drew1) | exact HB.out)) hb); clear HO_7; clear HO_8; clear HB; have HO_7 := n0_; have HO_8 := n1_; have HO10011 := n2_; have HB := n3_; clear n0_ n1_ n2_ n3_; (try clear hb); (try clear hb2); (try clear hk); (try clear hi); (try clear ho0); obtain ⟨Ao103, co103, eo103⟩ := Kd.R_slice HO10011.out; subst eo103; have p10012 : 0 ≤ ((ji17) : Int) := of_decide_eq_true (by first | (with_reducible assumption) | assumption); have q10012 : (ji17) < (t10009.length : Int) := of_decide_eq_true (by first | (with_reducible assumption) | assumption); obtain ⟨ad10012, e10012, hx10012_0⟩ := Kd.at_int (Kd.R_reads' HO10011.out).2.2 (ji17) p10012 q10012; cases e10012; replace p10012 := eq_true p10012; replace q10012 := eq_true q10012; have p20 : 0 ≤ ((ji17) : Int) := of_decide_eq_true (by first | (with_reducible assumption) | assumption); have q20 : ((ji17) : Int) < ((t10009.length : Int) : Int) := of_decide_eq_true (by first | (with_reducible assumption) | assumption); obtain ⟨go20, co20, eo20, gb20, gl20, cl20, HG20⟩ := Kd.R_form HO10011.out (by omega); (first | cases eo20 | (injection eo20 with ea_ en_ ec_; (first | subst ea_ | (injection ea_ with ea_; subst ea_)); subst ec_; clear en_)); have GB20 := Aside0.mk gb20; have GG20 := Aside0.mk HG20; clear gb20 gl20 HG20; (first | simp only [add_plain] at hx10012_0 | skip); obtain ⟨hx20_0, hf20_0⟩ := Kd.R_celln 0 HO10011.out ((ji17) : Int) p20 q20; replace p20 := eq_true p20; replace q20 := eq_true q20; have n_ := Aside0.mk (Kd.R_mono (ok' := (fun k_ => some k_ ≠ (.slice Ao12 y10002.length co12 : Value).ownBlock)) HO10011.out (fun k_ hk => hk.2)); clear HO10011; have HO10011 := n_; clear n_; obtain ⟨hy104_, hz104_⟩ := Kd.R_celln 0 HO10011.out ((ji17) : Int) (of_decide_eq_true (by first | (with_reducible assumption) | assumption)) (of_decide_eq_true (by first | (with_reducible assumption) | assumption)); have HP104 := Kd.R_putg HO10011.out ((ji17) : Int) (Go.bits .xor .u8 (rd t10009 (ji17)) a2)) | ((with_reducible refine gate_store (t := 5) (p := 46) rfl ?_); refine store_event (t := 5) (p := 46) (v := ?vo_w105) (w1 := (w102.setCell ⟨go20, ((ji17) : Int).toNat, none⟩ (.int .u8 (Go.bits .xor .u8 (rd t10009 (ji17)) a2)))) ?hg ?ho ?hn ?hr ?_; (case ho => rfl); (case hg => rfl); (case hn => rfl); (case hr => first | (go_simp; done) | (go_simp; rfl)); intro w105 hw; have hg : w102.grownBy w105 (some go20) := (by rw [hw]; exact HP104.2); have hp_ : Kd.R (Kd.int .u8) 5 w105 w.heap.size (fun k_ => some k_ ≠ (.slice Ao12 y10002.length co12 : Value).ownBlock) (.slice (some ⟨go20, 0, none⟩) t10009.length co103) y10013 := (by rw [hw, Ny10013.out]; exact HP104.1); clear HP104; have n0_ := Aside0.mk (Kd.R_after (v := (.slice (some ⟨go20, 0, none⟩) t10009.length co103)) (v1 := (.slice (some ⟨go20, 0, none⟩) t10009.length co103)) (ok := (fun _ => True)) (by (with_reducible repeat (first | apply Kd.R_alloc | apply Kd.R_drewN | apply Kd.R_drew)); exact HO_7.out) hg (.inl rfl)); have n1_ := Aside0.mk (Kd.R_over' (v := (.slice (some ⟨go20, 0, none⟩) t10009.length co103)) (by (with_reducible repeat (first | apply Kd.R_alloc | apply Kd.R_drewN | apply Kd.R_drew)); exact HO_8.out) (Kd.R_typed HO10011.out) (by decide) hg); have n2_ := Aside0.mk (hp_); have n3_ := Aside0.mk ((by rw [hw]; exact below_set (HB.out) GB20.out : Below w.heap.size w w105)); clear HO_7; clear HO_8; clear HO10011; clear HB; have HO_7 := n0_; have HO_8 := n1_; have HO10011 := n2_; have HB := n3_; clear n0_ n1_ n2_ n3_; clear hg hw hp_) | ((with_reducible refine gate_callee (f := 14) rfl ?_); refine goesL_ (some 49) rfl rfl Try.func14 (by kernel_rfl) rfl #[.slice (some ⟨go20, 0, none⟩) y10013.length co103] rfl (by (try simp only [List.map_toArray, List.map_cons, List.map_nil]); first | done | (rw [show y10013.length = t10009.length from (Kd.R_reads' HO10011.out).1.symm] <;> rfl) | rfl | (simp only [List.length_drop, List.length_take]; rfl)) ?_; (with_reducible refine (nvram_Recover.calls _ _ y10013 t10014 t10015 false _ ?side1 ?side2 A21.out).mono ?_); (case side1 => repeat (first | exact (Kd.R_reads' HO10011.out).2.2 | (with_reducible refine Kd.C_alloc ?_ _) | (with_reducible refine Kd.C_drewN ?_ _) | (with_reducible refine Kd.C_drew ?_))); (case side2 => rw [show y10013.length = t10009.length from (Kd.R_reads' HO10011.out).1.symm]; exact (Kd.R_reads' HO10011.out).2.1); rintro e w106 ⟨v10017, rfl, ho0, hb⟩; refine ⟨_, rfl, ?_⟩; have n0_ := Aside0.mk (Kd.R_elder' (by (with_reducible repeat (first | apply Kd.R_alloc | apply Kd.R_drewN | apply Kd.R_drew)); exact HO_7.out) (Kd.R_base ho0) hb); have n1_ := Aside0.mk (Kd.R_below (by (with_reducible repeat (first | apply Kd.R_alloc | apply Kd.R_drewN | apply Kd.R_drew)); exact HO_8.out) hb); have n2_ := Aside0.mk (Kd.R_elder' (by (with_reducible repeat (first | apply Kd.R_alloc | apply Kd.R_drewN | apply Kd.R_drew)); exact HO10011.out) (Kd.R_base ho0) hb); have n3_ := Aside0.mk (Kd.R_lower (Kd.R_new' (Kd.R_new' ho0 (Kd.R_lt (by (with_reducible repeat (first | apply Kd.R_alloc | apply Kd.R_drewN | apply Kd.R_drew)); exact HO_7.out))) (Kd.R_lt (by (with_reducible repeat (first | apply Kd.R_alloc | apply Kd.R_drewN | apply Kd.R_drew)); exact HO10011.out))) (below_size (by repeat (first | (with_reducible first | exact HB.out | apply below_alloc | apply pw_below_drewN | apply below_drew1) | exact HB.out)))); have n4_ := Aside0.mk (below_step (by repeat (first | (with_reducible first | exact HB.out | apply below_alloc | apply pw_below_drewN | apply below_drew1) | exact HB.out)) hb); clear HO_7; clear HO_8; clear HO10011; clear HB; have HO_7 := n0_; have HO_8 := n1_; have HO10011 := n2_; have HO10018 := n3_; have HB := n4_; clear n0_ n1_ n2_ n3_ n4_; (try clear hb); (try clear hb2); (try clear hk); (try clear hi); (try clear ho0)))
                          have n0_ := Aside0.mk (Kd.R_drew HO_7.out)
                          have n1_ := Aside0.mk (Kd.R_drew HO_8.out)
                          have n2_ := Aside0.mk (Kd.R_drew HO10011.out)
                          have n3_ := Aside0.mk (Kd.R_drew HO10018.out)
                          have n4_ := Aside0.mk (below_drew1 HB.out)
                          clear HO_7
                          clear HO_8
                          clear HO10011
                          clear HO10018
                          clear HB
                          have HO_7 := n0_
                          have HO_8 := n1_
                          have HO10011 := n2_
                          have HO10018 := n3_
                          have HB := n4_
                          clear n0_ n1_ n2_ n3_ n4_
                          have p10020 : 0 ≤ (2 : Int) := (by omega)
                          have q10020 : 2 < (y10013.length : Int) := (by have h_ : (2 : Int) < ((t10009.length : Int) : Int) := of_decide_eq_true (by first | (with_reducible assumption) | assumption); first | (have e_ := (Kd.R_reads' HO10011.out).1; omega) | simpa only [Ny10013.out, List.length_set] using h_)
                          have ql10020 : ((2 : Int) < ((t10009.length : Int) : Int)) = True := eq_true (of_decide_eq_true (by first | (with_reducible assumption) | assumption))
                          (try have qn10020 : (2 < t10009.length) = True := eq_true (by have h_ : (2 : Int) < ((t10009.length : Int) : Int) := of_decide_eq_true (by first | (with_reducible assumption) | assumption); omega))
                          obtain ⟨ad10020, e10020, hx10020_0⟩ := Kd.at_int (Kd.R_reads' HO10011.out).2.2 2 p10020 q10020
                          obtain rfl : (⟨go20, 0, none⟩ : Addr) = ad10020 := (by injection e10020)
                          (first | simp only [add_plain] at hx10020_0 | simp only [add_at] at hx10020_0 | simp only [Addr.add, Nat.zero_add] at hx10020_0 | skip)
                          have qi10020 : (2 < y10013.length) = True := eq_true (by omega)
                          (try rw [show ((2 : Int)).toNat = 2 from rfl] at hx10020_0)
                          replace p10020 := eq_true p10020
                          replace q10020 := eq_true q10020
                          have p10021 : 0 ≤ (3 : Int) := (by omega)
                          have q10021 : 3 < (y10013.length : Int) := (by have h_ : (3 : Int) < ((t10009.length : Int) : Int) := of_decide_eq_true (by first | (with_reducible assumption) | assumption); first | (have e_ := (Kd.R_reads' HO10011.out).1; omega) | simpa only [Ny10013.out, List.length_set] using h_)
                          have ql10021 : ((3 : Int) < ((t10009.length : Int) : Int)) = True := eq_true (of_decide_eq_true (by first | (with_reducible assumption) | assumption))
                          (try have qn10021 : (3 < t10009.length) = True := eq_true (by have h_ : (3 : Int) < ((t10009.length : Int) : Int) := of_decide_eq_true (by first | (with_reducible assumption) | assumption); omega))
                          obtain ⟨ad10021, e10021, hx10021_0⟩ := Kd.at_int (Kd.R_reads' HO10011.out).2.2 3 p10021 q10021
                          obtain rfl : (⟨go20, 0, none⟩ : Addr) = ad10021 := (by injection e10021)
                          (first | simp only [add_plain] at hx10021_0 | simp only [add_at] at hx10021_0 | simp only [Addr.add, Nat.zero_add] at hx10021_0 | skip)
                          have qi10021 : (3 < y10013.length) = True := eq_true (by omega)
                          (try rw [show ((3 : Int)).toNat = 3 from rfl] at hx10021_0)
                          replace p10021 := eq_true p10021
                          replace q10021 := eq_true q10021
                          refine start_ (n := 11) (S := fun w' => w'.cell? ⟨go20, 2, none⟩ = some (.int .u8 (rd y10013 2)) ∧ w'.cell? ⟨go20, 3, none⟩ = some (.int .u8 (rd y10013 3))) (ds := []) #[false, false, false, false, false, false, false, false, false, false, false] (by kernel_rfl) rfl rfl ⟨hx10020_0, hx10021_0⟩ (fun hHeld => ?_); refine with_tabW tinderlaw18_NvramTells.tab13 tinderlaw18_NvramTells.bits13 (fun HT_ HW_ => ?_)
                          generalize w106.drew = w107 at HO_7 HO_8 HO10011 HO10018 HB hx10020_0 hx10021_0 hHeld ⊢
                          refine pure_ (i := 0) (N := some 64) (v := ?_) (a' := ?_) #[true, false, false, false, false, false, false, false, false, false, false] rfl rfl (any_of HT_.out (by kernel_rfl)) (fun _ _ _ h => h) (Or.inl ⟨by rfl, ?_⟩) ?_ ?_
                          rotate_left
                          · intro w'
                            go_simp
                            with_reducible rfl
                          rotate_left
                          · simp only [Act.put, List.setIfInBounds_toArray, List.set_cons_zero, List.set_cons_succ, i64_w, i32_w]
                            rfl
                          refine pure_ (i := 1) (N := some 65) (v := ?_) (a' := ?_) #[true, true, false, false, false, false, false, false, false, false, false] rfl rfl (any_of HT_.out (by kernel_rfl)) (fun _ _ _ h => h) (Or.inl ⟨by rfl, ?_⟩) ?_ ?_
                          rotate_left
                          · intro w'
                            go_simp
                            with_reducible rfl
                          rotate_left
                          · simp only [Act.put, List.setIfInBounds_toArray, List.set_cons_zero, List.set_cons_succ, i64_w, i32_w]
                            rfl
                          refine pure_ (i := 5) (N := some 69) (v := ?_) (a' := ?_) #[true, true, false, false, false, true, false, false, false, false, false] rfl rfl (any_of HT_.out (by kernel_rfl)) (fun _ _ _ h => h) (Or.inl ⟨by rfl, ?_⟩) ?_ ?_
                          rotate_left
                          · intro w'
                            go_simp
                            with_reducible rfl
                          rotate_left
                          · simp only [Act.put, List.setIfInBounds_toArray, List.set_cons_zero, List.set_cons_succ, i64_w, i32_w]
                            rfl
                          refine pure_ (i := 6) (N := some 70) (v := ?_) (a' := ?_) #[true, true, false, false, false, true, true, false, false, false, false] rfl rfl (any_of HT_.out (by kernel_rfl)) (fun _ _ _ h => h) (Or.inl ⟨by rfl, ?_⟩) ?_ ?_
                          rotate_left
                          · intro w'
                            go_simp
                            with_reducible rfl
                          rotate_left
                          · simp only [Act.put, List.setIfInBounds_toArray, List.set_cons_zero, List.set_cons_succ, i64_w, i32_w]
                            rfl
                          refine take_ (i := 2) (N := some 66) (v := ?_) (a' := ?_) #[true, true, true, false, false, true, true, false, false, false, false] rfl rfl (take_ofW HT_.out HW_.out (by kernel_rfl)) (fun _ _ _ h => h) (Or.inl ⟨by rfl, ?_⟩) hHeld ?_ ?_
                          rotate_left
                          · rintro w' ⟨s0, s1⟩
                            go_simp
                            with_reducible rfl
                          rotate_left
                          · simp only [Act.put, List.setIfInBounds_toArray, List.set_cons_zero, List.set_cons_succ, i64_w, i32_w]
                            rfl
                          refine pure_ (i := 3) (N := some 67) (v := ?_) (a' := ?_) #[true, true, true, true, false, true, true, false, false, false, false] rfl rfl (any_of HT_.out (by kernel_rfl)) (fun _ _ _ h => h) (Or.inl ⟨by rfl, ?_⟩) ?_ ?_
                          rotate_left
                          · intro w'
                            go_simp
                            with_reducible rfl
                          rotate_left
                          · simp only [Act.put, List.setIfInBounds_toArray, List.set_cons_zero, List.set_cons_succ, i64_w, i32_w]
                            rfl
                          refine pure_ (i := 4) (N := some 68) (v := ?_) (a' := ?_) #[true, true, true, true, true, true, true, false, false, false, false] rfl rfl (any_of HT_.out (by kernel_rfl)) (fun _ _ _ h => h) (Or.inl ⟨by rfl, ?_⟩) ?_ ?_
                          rotate_left
                          · intro w'
                            go_simp
                            with_reducible rfl
                          rotate_left
                          · simp only [Act.put, List.setIfInBounds_toArray, List.set_cons_zero, List.set_cons_succ, i64_w, i32_w]
                            rfl
                          refine take_ (i := 7) (N := some 71) (v := ?_) (a' := ?_) #[true, true, true, true, true, true, true, true, false, false, false] rfl rfl (take_ofW HT_.out HW_.out (by kernel_rfl)) (fun _ _ _ h => h) (Or.inl ⟨by rfl, ?_⟩) hHeld ?_ ?_
                          rotate_left
                          · rintro w' ⟨s0, s1⟩
                            go_simp
                            with_reducible rfl
                          rotate_left
                          · simp only [Act.put, List.setIfInBounds_toArray, List.set_cons_zero, List.set_cons_succ, i64_w, i32_w]
                            rfl
                          refine pure_ (i := 8) (N := some 72) (v := ?_) (a' := ?_) #[true, true, true, true, true, true, true, true, true, false, false] rfl rfl (any_of HT_.out (by kernel_rfl)) (fun _ _ _ h => h) (Or.inl ⟨by rfl, ?_⟩) ?_ ?_
                          rotate_left
                          · intro w'
                            go_simp
                            with_reducible rfl
                          rotate_left
                          · simp only [Act.put, List.setIfInBounds_toArray, List.set_cons_zero, List.set_cons_succ, i64_w, i32_w]
                            rfl
                          refine pure_ (i := 9) (N := some 73) (v := ?_) (a' := ?_) #[true, true, true, true, true, true, true, true, true, true, false] rfl rfl (any_of HT_.out (by kernel_rfl)) (fun _ _ _ h => h) (Or.inl ⟨by rfl, ?_⟩) ?_ ?_
                          rotate_left
                          · intro w'
                            go_simp
                            with_reducible rfl
                          rotate_left
                          · simp only [Act.put, List.setIfInBounds_toArray, List.set_cons_zero, List.set_cons_succ, i64_w, i32_w]
                            rfl
                          refine pure_ (i := 10) (N := some 14) (v := ?_) (a' := ?_) #[true, true, true, true, true, true, true, true, true, true, true] rfl rfl (any_of HT_.out (by kernel_rfl)) (fun _ _ _ h => h) (Or.inl ⟨by rfl, ?_⟩) ?_ ?_
                          rotate_left
                          · intro w'
                            go_simp
                            with_reducible rfl
                          rotate_left
                          · simp only [Act.put, List.setIfInBounds_toArray, List.set_cons_zero, List.set_cons_succ, i64_w, i32_w]
                            rfl
                          refine done_ (done_of HT_.out (by kernel_rfl)) ?_
                          obtain ⟨Ao108, co108, eo108⟩ := Kd.R_slice HO10018.out
                          subst eo108
                          try go_wp2
                          go_ret
                          exact ⟨by first | (exact congrArg (fun x => Ending.returned (Value.bool (t10016 == (t10027 == x)))) (by simp only [show ∀ n : Int, IntKind.u32.wrap n = n % 4294967296 from fun n => by simp [IntKind.wrap, IntKind.bits, IntKind.signed]]; omega)) | rfl | (simp [errW_none, errW_some] <;> rfl) | (simp only [← hji17]; first | rfl | (simp [errW_none, errW_some] <;> rfl)) | (simp [*, errW_none, errW_some] <;> rfl), by repeat (first | (with_reducible first | exact HB.out | apply below_alloc | apply pw_below_drewN | apply below_drew1) | exact HB.out)⟩
                    · rw [if_neg c39] at H
                      exact absurd H (by simp)
                  · rw [if_neg c38] at H
                    exact absurd H (by simp)
              · rw [if_neg c19] at H
                exact absurd H (by simp)
            · rw [if_neg c18] at H
              exact absurd H (by simp)
    · rw [if_neg c6] at H
      exact absurd H (by simp)
  · replace c5 := Bool.eq_false_iff.mpr c5
    subst c5
    have H1 : (some false) = some r := by rw [if_neg (show ¬ (false = true) by decide)] at H; exact H
    clear H
    have H := H1
    clear H1
    obtain rfl := Option.some.inj H
    go_enter Try.func9, Try.ntmps9
    go_wp2_with (first | ((with_reducible refine gate_callee (f := 10) rfl ?_); refine goesL_ (some 15) rfl rfl Try.func10 (by kernel_rfl) rfl #[] rfl (by (try simp only [List.map_toArray, List.map_cons, List.map_nil]); first | done | rfl | (simp only [List.length_drop, List.length_take]; rfl)) ?_; (with_reducible refine (tinderlaw18_alive.calls k  false _ A4.out).mono ?_); rintro e w109 ⟨rfl, hb⟩; refine ⟨_, rfl, ?_⟩; have n0_ := Aside0.mk (below_step (by repeat (first | (with_reducible first | exact HB.out | apply below_alloc | apply pw_below_drewN | apply below_drew1) | exact HB.out)) hb); clear HB; have HB := n0_; clear n0_; (try clear hb); (try clear hb2); (try clear hk); (try clear hi)))
    go_ret
    exact ⟨by first | rfl | (simp [errW_none, errW_some] <;> rfl) | (simp [*, errW_none, errW_some] <;> rfl), by repeat (first | (with_reducible first | exact HB.out | apply below_alloc | apply pw_below_drewN | apply below_drew1) | exact HB.out)⟩

/-- THE ONE PURE STATEMENT of tinderlaw18_NvramTells: yours. -/
def tinderlaw18_NvramTells.Pure : Prop := ∀ (l0 : List Int) (a1 : Int) (a2 : Int), l0.length ≤ maxLen → l0.length * 1 ≤ 140737488351232 → (∀ x ∈ l0, (Lit.int .u8 x).wf = true) → (Lit.int .u16 a1).wf = true → (Lit.int .u8 a2).wf = true → ∃ k, tinderlaw18_NvramTells.f k l0 a1 a2 = some true
theorem tinderlaw18_NvramTells.walk (P : tinderlaw18_NvramTells.Pure) (a0 : Option Addr) (len0 cap0 : Nat) (z0 : List Int) (a1 : Int) (a2 : Int) (w : World) (w0 : (a0 = none ∧ len0 = 0 ∧ cap0 = 0 ∧ z0 = []) ∨ ∃ x, a0 = some x ∧ len0 ≤ cap0 ∧ cap0 ≤ maxLen ∧ z0.length = cap0 ∧ (∀ i, i < z0.length → w.cell? (x.add i) = some (.int .u8 (z0.getD i 0))) ∧ ∀ n ∈ z0, (Lit.int .u8 n).wf = true) (y0 : len0 * 1 ≤ 140737488351232) (w1 : (Lit.int .u16 a1).wf = true) (w2 : (Lit.int .u8 a2).wf = true) :
    Calls Try.prog 9 #[.slice a0 len0 cap0, .int .u16 a1, .int .u8 a2] w fun e w' => e = .returned (.bool true) ∧ Below w.heap.size w w' := by
  obtain ⟨l0, rfl, hr0, hm0, hw0, hc0⟩ := ReadsInt.ofRowC w0
  obtain ⟨k, h⟩ := P l0 a1 a2 hm0 y0 hw0 w1 w2
  refine (tinderlaw18_NvramTells.calls k _ _ l0 a1 a2 true w (Kd.C_of_reads (d := (0 : Int)) (h1 := fun _ => rfl) hr0) hc0 h).mono ?_
  rintro e w' ⟨rfl, hd⟩
  exact ⟨rfl, hd⟩

end Go.Proofs.Ytlpagilpbdiniaa.Q
