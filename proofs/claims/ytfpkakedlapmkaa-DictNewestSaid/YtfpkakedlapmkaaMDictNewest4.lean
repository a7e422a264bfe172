/- Contracts of Go functions and plain facts, of several texts, one behind the other; no condition. -/
import Derived.Test.YtfpkakedlapmkaaMDictNewest2
import Derived.Test.YtfpkakedlapmkaaMDictNewest3
section
namespace Go.Proofs.Ytfpkakedlapmkaa.Q
open Go.RowKit Go.Proofs.YtfpkakedlapmkaaW.PrintWords Go.Proofs.YtfpkakedlapmkaaW.PrintLast Go.Proofs.YtfpkakedlapmkaaW.PrintMore
set_option linter.unusedVariables false
set_option linter.unusedSimpArgs false

attribute [local go_sem] max2_int min2_int max_two min_two max_three min_three max_four min_four
/-! ### dict_instsRight: function 46 -/
mutual
def dict_instsRight.j0 : Nat → Bool → List Int → List Int → List (S51) → List Int → Int → List (S91) → Int → List (S82) → Int → ByteArray → Option (Bool)
  | 0, _, _, _, _, _, _, _, _, _, _, _ => none
  | k + 1, x22, x47002000, x47002001, x47002002, x47002003, x47002004, x47002005, x47002006, x47002007, x47002008, x47002009 => if x22 = true then (some false) else (dict_instsRight.l0 k x47002007 (x47002007.length : Int) 0 x47002000 x47002001 x47002002 x47002003 x47002004 x47002005 x47002006 x47002007 x47002008 x47002009)
def dict_instsRight.l0 : Nat → List (S82) → Int → Int → List Int → List Int → List (S51) → List Int → Int → List (S91) → Int → List (S82) → Int → ByteArray → Option (Bool)
  | 0, _, _, _, _, _, _, _, _, _, _, _, _, _ => none
  | k + 1, x24, x25, x26, x47002000, x47002001, x47002002, x47002003, x47002004, x47002005, x47002006, x47002007, x47002008, x47002009 => if x26 < x25 then (if 0 ≤ x26 then (if x26 < (x24.length : Int) then ((dict_instRight.f x47002007 ((rd_T82 x24 x26).f0) ((rd_T82 x24 x26).f1) ((rd_T82 x24 x26).f2) ((rd_T82 x24 x26).f3) x47002005).bind fun t47005 => (if t47005 = true then (dict_instsRight.l0 k x24 x25 (wrap64 (x26 + 1)) x47002000 x47002001 x47002002 x47002003 x47002004 x47002005 x47002006 x47002007 x47002008 x47002009) else (some false))) else (none)) else (none)) else (dict_instsRight.l1 k (x47002007.length : Int) 0 x47002000 x47002001 x47002002 x47002003 x47002004 x47002005 x47002006 x47002007 x47002008 x47002009)
def dict_instsRight.l1 : Nat → Int → Int → List Int → List Int → List (S51) → List Int → Int → List (S91) → Int → List (S82) → Int → ByteArray → Option (Bool)
  | 0, _, _, _, _, _, _, _, _, _, _, _, _ => none
  | k + 1, x40, x41, x47002000, x47002001, x47002002, x47002003, x47002004, x47002005, x47002006, x47002007, x47002008, x47002009 => if x41 < x40 then ((dict_ends.f k x47002007 x41).bind fun t47006 => (if t47006 = true then (dict_instsRight.l1 k x40 (wrap64 (x41 + 1)) x47002000 x47002001 x47002002 x47002003 x47002004 x47002005 x47002006 x47002007 x47002008 x47002009) else (some false))) else (some true)
end
def dict_instsRight.f (k : Nat) (l0_0 : List Int) (l0_1 : List Int) (l0_2 : List (S51)) (l0_3 : List Int) (a0_4 : Int) (l0_5 : List (S91)) (a0_6 : Int) (l0_7 : List (S82)) (a0_8 : Int) (a0_9 : ByteArray) : Option (Bool) := if (l0_7.length : Int) > 16 then (dict_instsRight.j0 k true l0_0 l0_1 l0_2 l0_3 a0_4 l0_5 a0_6 l0_7 a0_8 a0_9) else (if a0_8 = (-1) then (dict_instsRight.j0 k false l0_0 l0_1 l0_2 l0_3 a0_4 l0_5 a0_6 l0_7 a0_8 a0_9) else ((dict_living.f l0_7 a0_8).bind fun t47002 => (dict_instsRight.j0 k (!t47002) l0_0 l0_1 l0_2 l0_3 a0_4 l0_5 a0_6 l0_7 a0_8 a0_9)))
set_option maxHeartbeats 8000000 in
set_option maxRecDepth 100000 in
theorem dict_instsRight.calls (k : Nat) (A0_0 : Option Addr) (c0_0 : Nat) (l0_0 : List Int) (A0_1 : Option Addr) (c0_1 : Nat) (l0_1 : List Int) (A0_2 : Option Addr) (c0_2 : Nat) (l0_2 : List (S51)) (A0_3 : Option Addr) (c0_3 : Nat) (l0_3 : List Int) (a0_4 : Int) (A0_5 : Option Addr) (c0_5 : Nat) (l0_5 : List (S91)) (a0_6 : Int) (A0_7 : Option Addr) (c0_7 : Nat) (l0_7 : List (S82)) (a0_8 : Int) (a0_9 : ByteArray) (r : Bool) (w : World) (hr0_0 : Kd.C (Kd.int .u32) w A0_0 l0_0.length l0_0) (hc0_0 : l0_0.length ≤ c0_0) (hr0_1 : Kd.C (Kd.int .u8) w A0_1 l0_1.length l0_1) (hc0_1 : l0_1.length ≤ c0_1) (hr0_2 : Kd.C k51 w A0_2 l0_2.length l0_2) (hc0_2 : l0_2.length ≤ c0_2) (hr0_3 : Kd.C (Kd.int .i64) w A0_3 l0_3.length l0_3) (hc0_3 : l0_3.length ≤ c0_3) (hr0_5 : Kd.C k91 w A0_5 l0_5.length l0_5) (hc0_5 : l0_5.length ≤ c0_5) (hr0_7 : Kd.C k82 w A0_7 l0_7.length l0_7) (hc0_7 : l0_7.length ≤ c0_7) (h : dict_instsRight.f k l0_0 l0_1 l0_2 l0_3 a0_4 l0_5 a0_6 l0_7 a0_8 a0_9 = some r) :
    Calls Try.prog 46 #[.agg #[.slice A0_0 l0_0.length c0_0, .slice A0_1 l0_1.length c0_1, .slice A0_2 l0_2.length c0_2, .slice A0_3 l0_3.length c0_3, .int .u32 a0_4, .slice A0_5 l0_5.length c0_5, .int .i64 a0_6, .slice A0_7 l0_7.length c0_7, .int .i64 a0_8, .string a0_9]] w fun e w' => e = .returned (.bool r) ∧ Below w.heap.size w w' := by
  have hu32 := Try.underlying32
  have hu82 := Try.underlying82
  have HR0_0 := Aside0.mk hr0_0
  have HC0_0 := Aside0.mk hc0_0
  clear hr0_0 hc0_0
  have HR0_1 := Aside0.mk hr0_1
  have HC0_1 := Aside0.mk hc0_1
  clear hr0_1 hc0_1
  have HR0_2 := Aside0.mk hr0_2
  have HC0_2 := Aside0.mk hc0_2
  clear hr0_2 hc0_2
  have HR0_3 := Aside0.mk hr0_3
  have HC0_3 := Aside0.mk hc0_3
  clear hr0_3 hc0_3
  have HR0_5 := Aside0.mk hr0_5
  have HC0_5 := Aside0.mk hc0_5
  clear hr0_5 hc0_5
  have HR0_7 := Aside0.mk hr0_7
  have HC0_7 := Aside0.mk hc0_7
  clear hr0_7 hc0_7
  have HB := Aside0.mk (Below.refl w.heap.size w)
  have H : (if (l0_7.length : Int) > 16 then (dict_instsRight.j0 k true l0_0 l0_1 l0_2 l0_3 a0_4 l0_5 a0_6 l0_7 a0_8 a0_9) else (if a0_8 = (-1) then (dict_instsRight.j0 k false l0_0 l0_1 l0_2 l0_3 a0_4 l0_5 a0_6 l0_7 a0_8 a0_9) else ((dict_living.f l0_7 a0_8).bind fun t47002 => (dict_instsRight.j0 k (!t47002) l0_0 l0_1 l0_2 l0_3 a0_4 l0_5 a0_6 l0_7 a0_8 a0_9)))) = some r := h
  clear h
  have HC2 := Aside0.mk H
  clear H
  go_enter Try.func46, Try.ntmps46
  go_upto_region 1 with (first | ((with_reducible refine gate_dst (N := 1) rfl ?_); refine box_event ?hg (N := 1) ?hd (cs := #[.slice A0_0 l0_0.length c0_0, .slice A0_1 l0_1.length c0_1, .slice A0_2 l0_2.length c0_2, .slice A0_3 l0_3.length c0_3, .int .u32 a0_4, .slice A0_5 l0_5.length c0_5, .int .i64 a0_6, .slice A0_7 l0_7.length c0_7, .int .i64 a0_8, .string a0_9]) (t := 32) ?hr ?_; (case hd => rfl); (case hg => rfl); (case hr => first | (go_simp; done) | (go_simp; rfl)); intro gb47001 hg w3 hbox hb; have n0_ := Aside0.mk (below_step (by repeat (first | (with_reducible first | exact HB.out | apply below_alloc | apply pw_below_drewN | apply below_drew1) | exact HB.out)) hb); have n1_ := Aside0.mk (hbox); have n2_ := Aside0.mk ((by rw [hg]; exact (below_size (by repeat (first | (with_reducible first | exact HB.out | apply below_alloc | apply pw_below_drewN | apply below_drew1) | exact HB.out))) : w.heap.size ≤ gb47001)); have n3_ := Aside0.mk ((by rw [hg]; exact (below_size (by repeat (first | (with_reducible first | exact HB.out | apply below_alloc | apply pw_below_drewN | apply below_drew1) | exact HB.out))) : w.heap.size ≤ gb47001)); clear HB; have HB := n0_; have BK47001 := n1_; have GW47001 := n2_; have GE47001 := n3_; clear n0_ n1_ n2_ n3_; clear hb hbox hg))
  (try simp only [Act.put, List.setIfInBounds_toArray, List.set_cons_zero, List.set_cons_succ])
  go_cut [22] (fun v22 wc => ∃ (kq : Nat) (x22_1 : Bool), v22 = .bool x22_1 ∧ Aside0 (dict_instsRight.j0 kq x22_1 l0_0 l0_1 l0_2 l0_3 a0_4 l0_5 a0_6 l0_7 a0_8 a0_9 = some r) ∧ Aside0 (kq ≤ k) ∧ Aside0 (wc.heap[gb47001]? = some (.cells #[(.slice A0_0 l0_0.length c0_0), (.slice A0_1 l0_1.length c0_1), (.slice A0_2 l0_2.length c0_2), (.slice A0_3 l0_3.length c0_3), .int .u32 a0_4, (.slice A0_5 l0_5.length c0_5), .int .i64 a0_6, (.slice A0_7 l0_7.length c0_7), .int .i64 a0_8, .string a0_9] 32 (0, 0))) ∧ Aside0 (Below w.heap.size w wc))
  case first =>
    have H := HC2.out
    clear HC2
    by_cases c4 : (l0_7.length : Int) > 16
    · rw [if_pos c4] at H
      have c4b0 : decide (16 < (l0_7.length : Int)) = true := decide_eq_true c4
      have c4b1 : decide (16 < l0_7.length) = true := decide_eq_true (by omega)
      clear c4
      (first | rw [c4b0] | (simp only [i64_w, i32_w]; rw [c4b0]) | skip)
      have H' := Aside0.mk H
      clear H
      have hcz5_0 : w3.cell? ⟨gb47001, 0, none⟩ = some (.slice A0_0 l0_0.length c0_0) := (blk_cell BK47001.out 0).trans rfl
      have hcz5_1 : w3.cell? ⟨gb47001, 1, none⟩ = some (.slice A0_1 l0_1.length c0_1) := (blk_cell BK47001.out 1).trans rfl
      have hcz5_2 : w3.cell? ⟨gb47001, 2, none⟩ = some (.slice A0_2 l0_2.length c0_2) := (blk_cell BK47001.out 2).trans rfl
      have hcz5_3 : w3.cell? ⟨gb47001, 3, none⟩ = some (.slice A0_3 l0_3.length c0_3) := (blk_cell BK47001.out 3).trans rfl
      have hcz5_4 : w3.cell? ⟨gb47001, 4, none⟩ = some (.int .u32 a0_4) := (blk_cell BK47001.out 4).trans rfl
      have hcz5_5 : w3.cell? ⟨gb47001, 5, none⟩ = some (.slice A0_5 l0_5.length c0_5) := (blk_cell BK47001.out 5).trans rfl
      have hcz5_6 : w3.cell? ⟨gb47001, 6, none⟩ = some (.int .i64 a0_6) := (blk_cell BK47001.out 6).trans rfl
      have hcz5_7 : w3.cell? ⟨gb47001, 7, none⟩ = some (.slice A0_7 l0_7.length c0_7) := (blk_cell BK47001.out 7).trans rfl
      have hcz5_8 : w3.cell? ⟨gb47001, 8, none⟩ = some (.int .i64 a0_8) := (blk_cell BK47001.out 8).trans rfl
      have hcz5_9 : w3.cell? ⟨gb47001, 9, none⟩ = some (.string a0_9) := (blk_cell BK47001.out 9).trans rfl
      have hfz5_0 := blk_frozen BK47001.out 0
      have hfz5_1 := blk_frozen BK47001.out 1
      have hfz5_2 := blk_frozen BK47001.out 2
      have hfz5_3 := blk_frozen BK47001.out 3
      have hfz5_4 := blk_frozen BK47001.out 4
      have hfz5_5 := blk_frozen BK47001.out 5
      have hfz5_6 := blk_frozen BK47001.out 6
      have hfz5_7 := blk_frozen BK47001.out 7
      have hfz5_8 := blk_frozen BK47001.out 8
      have hfz5_9 := blk_frozen BK47001.out 9
      go_wp2
      go_meet
      case rel => exact ⟨_, (true), (by first | rfl | (simp; done) | (simp [*]; done)), H', ⟨by first | omega | exact Nat.le_refl _⟩, ⟨by (with_reducible repeat (first | refine blk_drewN ?_ _ | refine blk_drew ?_ | refine blk_alloc ?_ _)); exact BK47001.out⟩, ⟨by repeat (first | (with_reducible first | exact HB.out | apply below_alloc | apply pw_below_drewN | apply below_drew1 | refine below_set ?_ GE47001.out) | exact HB.out)⟩⟩
    · rw [if_neg c4] at H
      have c4b0 : decide (16 < (l0_7.length : Int)) = false := decide_eq_false c4
      have c4b1 : decide (16 < l0_7.length) = false := decide_eq_false (by omega)
      clear c4
      (first | rw [c4b0] | (simp only [i64_w, i32_w]; rw [c4b0]) | skip)
      by_cases c6 : a0_8 = (-1)
      · rw [if_pos c6] at H
        have c6b0 : (a0_8 == (-1)) = true := beq_iff_eq.mpr c6
        have c6b1 : (a0_8 != (-1)) = false := bne_eq_false_iff_eq.mpr c6
        clear c6
        have H' := Aside0.mk H
        clear H
        have hcz7_0 : w3.cell? ⟨gb47001, 0, none⟩ = some (.slice A0_0 l0_0.length c0_0) := (blk_cell BK47001.out 0).trans rfl
        have hcz7_1 : w3.cell? ⟨gb47001, 1, none⟩ = some (.slice A0_1 l0_1.length c0_1) := (blk_cell BK47001.out 1).trans rfl
        have hcz7_2 : w3.cell? ⟨gb47001, 2, none⟩ = some (.slice A0_2 l0_2.length c0_2) := (blk_cell BK47001.out 2).trans rfl
        have hcz7_3 : w3.cell? ⟨gb47001, 3, none⟩ = some (.slice A0_3 l0_3.length c0_3) := (blk_cell BK47001.out 3).trans rfl
        have hcz7_4 : w3.cell? ⟨gb47001, 4, none⟩ = some (.int .u32 a0_4) := (blk_cell BK47001.out 4).trans rfl
        have hcz7_5 : w3.cell? ⟨gb47001, 5, none⟩ = some (.slice A0_5 l0_5.length c0_5) := (blk_cell BK47001.out 5).trans rfl
        have hcz7_6 : w3.cell? ⟨gb47001, 6, none⟩ = some (.int .i64 a0_6) := (blk_cell BK47001.out 6).trans rfl
        have hcz7_7 : w3.cell? ⟨gb47001, 7, none⟩ = some (.slice A0_7 l0_7.length c0_7) := (blk_cell BK47001.out 7).trans rfl
        have hcz7_8 : w3.cell? ⟨gb47001, 8, none⟩ = some (.int .i64 a0_8) := (blk_cell BK47001.out 8).trans rfl
        have hcz7_9 : w3.cell? ⟨gb47001, 9, none⟩ = some (.string a0_9) := (blk_cell BK47001.out 9).trans rfl
        have hfz7_0 := blk_frozen BK47001.out 0
        have hfz7_1 := blk_frozen BK47001.out 1
        have hfz7_2 := blk_frozen BK47001.out 2
        have hfz7_3 := blk_frozen BK47001.out 3
        have hfz7_4 := blk_frozen BK47001.out 4
        have hfz7_5 := blk_frozen BK47001.out 5
        have hfz7_6 := blk_frozen BK47001.out 6
        have hfz7_7 := blk_frozen BK47001.out 7
        have hfz7_8 := blk_frozen BK47001.out 8
        have hfz7_9 := blk_frozen BK47001.out 9
        go_wp2
        go_meet
        case rel => exact ⟨_, (false), (by first | rfl | (simp; done) | (simp [*]; done)), H', ⟨by first | omega | exact Nat.le_refl _⟩, ⟨by (with_reducible repeat (first | refine blk_drewN ?_ _ | refine blk_drew ?_ | refine blk_alloc ?_ _)); exact BK47001.out⟩, ⟨by repeat (first | (with_reducible first | exact HB.out | apply below_alloc | apply pw_below_drewN | apply below_drew1 | refine below_set ?_ GE47001.out) | exact HB.out)⟩⟩
      · rw [if_neg c6] at H
        have c6b0 : (a0_8 == (-1)) = false := beq_eq_false_iff_ne.mpr c6
        have c6b1 : (a0_8 != (-1)) = true := bne_iff_ne.mpr c6
        replace H := Option.bind_eq_some_iff.mp H
        obtain ⟨t47002, A80, H⟩ := H
        replace H : (dict_instsRight.j0 k (!t47002) l0_0 l0_1 l0_2 l0_3 a0_4 l0_5 a0_6 l0_7 a0_8 a0_9) = some r := H
        have A8 := Aside0.mk A80
        clear A80
        have H' := Aside0.mk H
        clear H
        have hcz9_0 : w3.cell? ⟨gb47001, 0, none⟩ = some (.slice A0_0 l0_0.length c0_0) := (blk_cell BK47001.out 0).trans rfl
        have hcz9_1 : w3.cell? ⟨gb47001, 1, none⟩ = some (.slice A0_1 l0_1.length c0_1) := (blk_cell BK47001.out 1).trans rfl
        have hcz9_2 : w3.cell? ⟨gb47001, 2, none⟩ = some (.slice A0_2 l0_2.length c0_2) := (blk_cell BK47001.out 2).trans rfl
        have hcz9_3 : w3.cell? ⟨gb47001, 3, none⟩ = some (.slice A0_3 l0_3.length c0_3) := (blk_cell BK47001.out 3).trans rfl
        have hcz9_4 : w3.cell? ⟨gb47001, 4, none⟩ = some (.int .u32 a0_4) := (blk_cell BK47001.out 4).trans rfl
        have hcz9_5 : w3.cell? ⟨gb47001, 5, none⟩ = some (.slice A0_5 l0_5.length c0_5) := (blk_cell BK47001.out 5).trans rfl
        have hcz9_6 : w3.cell? ⟨gb47001, 6, none⟩ = some (.int .i64 a0_6) := (blk_cell BK47001.out 6).trans rfl
        have hcz9_7 : w3.cell? ⟨gb47001, 7, none⟩ = some (.slice A0_7 l0_7.length c0_7) := (blk_cell BK47001.out 7).trans rfl
        have hcz9_8 : w3.cell? ⟨gb47001, 8, none⟩ = some (.int .i64 a0_8) := (blk_cell BK47001.out 8).trans rfl
        have hcz9_9 : w3.cell? ⟨gb47001, 9, none⟩ = some (.string a0_9) := (blk_cell BK47001.out 9).trans rfl
        have hfz9_0 := blk_frozen BK47001.out 0
        have hfz9_1 := blk_frozen BK47001.out 1
        have hfz9_2 := blk_frozen BK47001.out 2
        have hfz9_3 := blk_frozen BK47001.out 3
        have hfz9_4 := blk_frozen BK47001.out 4
        have hfz9_5 := blk_frozen BK47001.out 5
        have hfz9_6 := blk_frozen BK47001.out 6
        have hfz9_7 := blk_frozen BK47001.out 7
        have hfz9_8 := blk_frozen BK47001.out 8
        have hfz9_9 := blk_frozen BK47001.out 9
        go_wp2_with (first | (go_at_call 76; (with_reducible refine (dict_living.calls _ _ l0_7 a0_8 t47002 _ ?side1 ?side2 A8.out).mono ?_); (case side1 => repeat (first | exact (Kd.C_below HR0_7.out HB.out) | (with_reducible refine Kd.C_alloc ?_ _) | (with_reducible refine Kd.C_drewN ?_ _) | (with_reducible refine Kd.C_drew ?_))); (case side2 => exact HC0_7.out); rintro e w' ⟨rfl, ⟨nd, rfl⟩⟩))
        go_meet
        case rel => exact ⟨_, (!t47002), (by first | rfl | (simp; done) | (simp [*]; done)), H', ⟨by first | omega | exact Nat.le_refl _⟩, ⟨by (with_reducible repeat (first | refine blk_drewN ?_ _ | refine blk_drew ?_ | refine blk_alloc ?_ _)); exact BK47001.out⟩, ⟨by repeat (first | (with_reducible first | exact HB.out | apply below_alloc | apply pw_below_drewN | apply below_drew1 | refine below_set ?_ GE47001.out) | exact HB.out)⟩⟩
  case rest =>
    clear HC2
    try clear p2
    try clear c4
    try clear c4b0
    try clear c4b1
    try clear c6
    try clear c6b0
    try clear c6b1
    try clear hcz5_0
    try clear hcz5_1
    try clear hcz5_2
    try clear hcz5_3
    try clear hcz5_4
    try clear hcz5_5
    try clear hcz5_6
    try clear hcz5_7
    try clear hcz5_8
    try clear hcz5_9
    try clear hcz7_0
    try clear hcz7_1
    try clear hcz7_2
    try clear hcz7_3
    try clear hcz7_4
    try clear hcz7_5
    try clear hcz7_6
    try clear hcz7_7
    try clear hcz7_8
    try clear hcz7_9
    try clear hcz9_0
    try clear hcz9_1
    try clear hcz9_2
    try clear hcz9_3
    try clear hcz9_4
    try clear hcz9_5
    try clear hcz9_6
    try clear hcz9_7
    try clear hcz9_8
    try clear hcz9_9
    try clear hfz5_0
    try clear hfz5_1
    try clear hfz5_2
    try clear hfz5_3
    try clear hfz5_4
    try clear hfz5_5
    try clear hfz5_6
    try clear hfz5_7
    try clear hfz5_8
    try clear hfz5_9
    try clear hfz7_0
    try clear hfz7_1
    try clear hfz7_2
    try clear hfz7_3
    try clear hfz7_4
    try clear hfz7_5
    try clear hfz7_6
    try clear hfz7_7
    try clear hfz7_8
    try clear hfz7_9
    try clear hfz9_0
    try clear hfz9_1
    try clear hfz9_2
    try clear hfz9_3
    try clear hfz9_4
    try clear hfz9_5
    try clear hfz9_6
    try clear hfz9_7
    try clear hfz9_8
    try clear hfz9_9
    obtain ⟨kq, x22_1, rfl, HA, HJ1, BK47001, HB⟩ := hcut
    cases kq with
    | zero => exact absurd HA.out (by simp [dict_instsRight.j0])
    | succ kj1 =>
      have H := HA.out
      clear HA
      simp only [dict_instsRight.j0] at H
      by_cases c10 : x22_1 = true
      · subst c10
        have H1 : (some false) = some r := by rw [if_pos rfl] at H; exact H
        clear H
        have H := H1
        clear H1
        obtain rfl := Option.some.inj H
        go_wp2
        go_ret
        exact ⟨by first | rfl | (simp [errW_none, errW_some] <;> rfl) | (simp [*, errW_none, errW_some] <;> rfl), by repeat (first | (with_reducible first | exact HB.out | apply below_alloc | apply pw_below_drewN | apply below_drew1 | refine below_set ?_ GE47001.out) | exact HB.out)⟩
      · replace c10 := Bool.eq_false_iff.mpr c10
        subst c10
        have H1 : (dict_instsRight.l0 kj1 l0_7 (l0_7.length : Int) 0 l0_0 l0_1 l0_2 l0_3 a0_4 l0_5 a0_6 l0_7 a0_8 a0_9) = some r := by rw [if_neg (show ¬ (false = true) by decide)] at H; exact H
        clear H
        have H := H1
        clear H1
        have H' := Aside0.mk H
        clear H
        have hcz11_0 : wc.cell? ⟨gb47001, 0, none⟩ = some (.slice A0_0 l0_0.length c0_0) := (blk_cell BK47001.out 0).trans rfl
        have hcz11_1 : wc.cell? ⟨gb47001, 1, none⟩ = some (.slice A0_1 l0_1.length c0_1) := (blk_cell BK47001.out 1).trans rfl
        have hcz11_2 : wc.cell? ⟨gb47001, 2, none⟩ = some (.slice A0_2 l0_2.length c0_2) := (blk_cell BK47001.out 2).trans rfl
        have hcz11_3 : wc.cell? ⟨gb47001, 3, none⟩ = some (.slice A0_3 l0_3.length c0_3) := (blk_cell BK47001.out 3).trans rfl
        have hcz11_4 : wc.cell? ⟨gb47001, 4, none⟩ = some (.int .u32 a0_4) := (blk_cell BK47001.out 4).trans rfl
        have hcz11_5 : wc.cell? ⟨gb47001, 5, none⟩ = some (.slice A0_5 l0_5.length c0_5) := (blk_cell BK47001.out 5).trans rfl
        have hcz11_6 : wc.cell? ⟨gb47001, 6, none⟩ = some (.int .i64 a0_6) := (blk_cell BK47001.out 6).trans rfl
        have hcz11_7 : wc.cell? ⟨gb47001, 7, none⟩ = some (.slice A0_7 l0_7.length c0_7) := (blk_cell BK47001.out 7).trans rfl
        have hcz11_8 : wc.cell? ⟨gb47001, 8, none⟩ = some (.int .i64 a0_8) := (blk_cell BK47001.out 8).trans rfl
        have hcz11_9 : wc.cell? ⟨gb47001, 9, none⟩ = some (.string a0_9) := (blk_cell BK47001.out 9).trans rfl
        have hfz11_0 := blk_frozen BK47001.out 0
        have hfz11_1 := blk_frozen BK47001.out 1
        have hfz11_2 := blk_frozen BK47001.out 2
        have hfz11_3 := blk_frozen BK47001.out 3
        have hfz11_4 := blk_frozen BK47001.out 4
        have hfz11_5 := blk_frozen BK47001.out 5
        have hfz11_6 := blk_frozen BK47001.out 6
        have hfz11_7 := blk_frozen BK47001.out 7
        have hfz11_8 := blk_frozen BK47001.out 8
        have hfz11_9 := blk_frozen BK47001.out 9
        go_wp2
        go_loopg [26] kj1 (fun kq v26 w' => ∃ (x26_2 : Int), v26 = .int .i64 x26_2 ∧ Aside0 (dict_instsRight.l0 kq l0_7 (l0_7.length : Int) x26_2 l0_0 l0_1 l0_2 l0_3 a0_4 l0_5 a0_6 l0_7 a0_8 a0_9 = some r) ∧ Aside0 (kq ≤ kj1) ∧ Aside0 (w'.heap[gb47001]? = some (.cells #[(.slice A0_0 l0_0.length c0_0), (.slice A0_1 l0_1.length c0_1), (.slice A0_2 l0_2.length c0_2), (.slice A0_3 l0_3.length c0_3), .int .u32 a0_4, (.slice A0_5 l0_5.length c0_5), .int .i64 a0_6, (.slice A0_7 l0_7.length c0_7), .int .i64 a0_8, .string a0_9] 32 (0, 0))) ∧ Aside0 (Below w.heap.size w w'))
        case atStart => exact ⟨(0), (by first | rfl | (simp; done) | (simp [*]; done)), H', ⟨Nat.le_refl _⟩, ⟨by (with_reducible repeat (first | refine blk_drewN ?_ _ | refine blk_drew ?_ | refine blk_alloc ?_ _)); exact BK47001.out⟩, ⟨by repeat (first | (with_reducible first | exact HB.out | apply below_alloc | apply pw_below_drewN | apply below_drew1 | refine below_set ?_ GE47001.out) | exact HB.out)⟩⟩
        case round =>
          clear H'
          try clear c1
          try clear p2
          try clear c4
          try clear c4b0
          try clear c4b1
          try clear c6
          try clear c6b0
          try clear c6b1
          try clear c10
          try clear hcz11_0
          try clear hcz11_1
          try clear hcz11_2
          try clear hcz11_3
          try clear hcz11_4
          try clear hcz11_5
          try clear hcz11_6
          try clear hcz11_7
          try clear hcz11_8
          try clear hcz11_9
          try clear hcz5_0
          try clear hcz5_1
          try clear hcz5_2
          try clear hcz5_3
          try clear hcz5_4
          try clear hcz5_5
          try clear hcz5_6
          try clear hcz5_7
          try clear hcz5_8
          try clear hcz5_9
          try clear hcz7_0
          try clear hcz7_1
          try clear hcz7_2
          try clear hcz7_3
          try clear hcz7_4
          try clear hcz7_5
          try clear hcz7_6
          try clear hcz7_7
          try clear hcz7_8
          try clear hcz7_9
          try clear hcz9_0
          try clear hcz9_1
          try clear hcz9_2
          try clear hcz9_3
          try clear hcz9_4
          try clear hcz9_5
          try clear hcz9_6
          try clear hcz9_7
          try clear hcz9_8
          try clear hcz9_9
          try clear hfz11_0
          try clear hfz11_1
          try clear hfz11_2
          try clear hfz11_3
          try clear hfz11_4
          try clear hfz11_5
          try clear hfz11_6
          try clear hfz11_7
          try clear hfz11_8
          try clear hfz11_9
          try clear hfz5_0
          try clear hfz5_1
          try clear hfz5_2
          try clear hfz5_3
          try clear hfz5_4
          try clear hfz5_5
          try clear hfz5_6
          try clear hfz5_7
          try clear hfz5_8
          try clear hfz5_9
          try clear hfz7_0
          try clear hfz7_1
          try clear hfz7_2
          try clear hfz7_3
          try clear hfz7_4
          try clear hfz7_5
          try clear hfz7_6
          try clear hfz7_7
          try clear hfz7_8
          try clear hfz7_9
          try clear hfz9_0
          try clear hfz9_1
          try clear hfz9_2
          try clear hfz9_3
          try clear hfz9_4
          try clear hfz9_5
          try clear hfz9_6
          try clear hfz9_7
          try clear hfz9_8
          try clear hfz9_9
          try clear p2
          obtain ⟨x26_2, rfl, HA, HK2, BK47001, HB⟩ := hrel
          cases gk with
          | zero => exact absurd HA.out (by simp [dict_instsRight.l0])
          | succ k2 =>
            have H := HA.out
            clear HA
            simp only [dict_instsRight.l0] at H
            by_cases c12 : x26_2 < (l0_7.length : Int)
            · rw [if_pos c12] at H
              have c12b0 : decide (x26_2 < (l0_7.length : Int)) = true := decide_eq_true c12
              clear c12
              by_cases c13 : 0 ≤ x26_2
              · rw [if_pos c13] at H
                have c13b0 : decide (0 ≤ x26_2) = true := decide_eq_true c13
                clear c13
                by_cases c14 : x26_2 < (l0_7.length : Int)
                · rw [if_pos c14] at H
                  have c14b0 : decide (x26_2 < (l0_7.length : Int)) = true := decide_eq_true c14
                  clear c14
                  replace H := Option.bind_eq_some_iff.mp H
                  obtain ⟨t47005, A150, H⟩ := H
                  replace H : (if t47005 = true then (dict_instsRight.l0 k2 l0_7 (l0_7.length : Int) (wrap64 (x26_2 + 1)) l0_0 l0_1 l0_2 l0_3 a0_4 l0_5 a0_6 l0_7 a0_8 a0_9) else (some false)) = some r := H
                  have A15 := Aside0.mk A150
                  clear A150
                  by_cases c16 : t47005 = true
                  · subst c16
                    have H1 : (dict_instsRight.l0 k2 l0_7 (l0_7.length : Int) (wrap64 (x26_2 + 1)) l0_0 l0_1 l0_2 l0_3 a0_4 l0_5 a0_6 l0_7 a0_8 a0_9) = some r := by rw [if_pos rfl] at H; exact H
                    clear H
                    have H := H1
                    clear H1
                    have H' := Aside0.mk H
                    clear H
                    have p47003 : 0 ≤ (x26_2 : Int) := of_decide_eq_true (by first | (with_reducible assumption) | assumption)
                    have q47003 : x26_2 < (l0_7.length : Int) := of_decide_eq_true (by first | (with_reducible assumption) | assumption)
                    obtain ⟨ad47003, A47003_3, c47003_3, e47003, hx47003_0, hx47003_1, hx47003_2, hx47003_3, hl47003_3, hi47003_3⟩ := at_T82 HR0_7.out x26_2 p47003 q47003
                    cases e47003
                    replace hx47003_0 := (HB.out.cell (World.block_lt_of_cell? w _ hx47003_0)).trans hx47003_0
                    replace hx47003_1 := (HB.out.cell (World.block_lt_of_cell? w _ hx47003_1)).trans hx47003_1
                    replace hx47003_2 := (HB.out.cell (World.block_lt_of_cell? w _ hx47003_2)).trans hx47003_2
                    replace hx47003_3 := (HB.out.cell (World.block_lt_of_cell? w _ hx47003_3)).trans hx47003_3
                    have HR47003_3 := Aside0.mk hi47003_3
                    have HC47003_3 := Aside0.mk hl47003_3
                    clear hi47003_3 hl47003_3
                    replace p47003 := eq_true p47003
                    replace q47003 := eq_true q47003
                    go_wp2_with (first | ((with_reducible refine gate_dst (N := 4) rfl ?_); refine box_event ?hg (N := 4) ?hd (cs := #[.int .i64 0, .int .i64 0, .string (⟨#[]⟩ : ByteArray), .slice none 0 0]) (t := 82) ?hr ?_; (case hd => rfl); (case hg => rfl); (case hr => first | (go_simp; done) | (go_simp; rfl)); intro gb47004 hg w17 hbox hb; have n0_ := Aside0.mk (blk_below (g := gb47001) (o := .cells #[.slice A0_0 l0_0.length c0_0, .slice A0_1 l0_1.length c0_1, .slice A0_2 l0_2.length c0_2, .slice A0_3 l0_3.length c0_3, .int .u32 a0_4, .slice A0_5 l0_5.length c0_5, .int .i64 a0_6, .slice (some ad47003) l0_7.length c0_7, .int .i64 a0_8, .string a0_9] 32 (0, 0)) (by (with_reducible repeat (first | refine blk_drewN ?_ _ | refine blk_drew ?_ | refine blk_alloc ?_ _)); exact BK47001.out) hb); have n1_ := Aside0.mk (below_step (by repeat (first | (with_reducible first | exact HB.out | apply below_alloc | apply pw_below_drewN | apply below_drew1 | refine below_set ?_ GE47001.out) | exact HB.out)) hb); have n2_ := Aside0.mk (hbox); have n3_ := Aside0.mk ((by rw [hg]; exact (below_size (by repeat (first | (with_reducible first | exact HB.out | apply below_alloc | apply pw_below_drewN | apply below_drew1 | refine below_set ?_ GE47001.out) | exact HB.out))) : w.heap.size ≤ gb47004)); have n4_ := Aside0.mk ((by rw [hg]; exact (below_size (by repeat (first | (with_reducible first | exact HB.out | apply below_alloc | apply pw_below_drewN | apply below_drew1 | refine below_set ?_ GE47001.out) | exact HB.out))) : w.heap.size ≤ gb47004)); have n5_ := Aside0.mk ((by rw [hg]; exact Nat.ne_of_lt (blk_lt (g := gb47001) (o := .cells #[.slice A0_0 l0_0.length c0_0, .slice A0_1 l0_1.length c0_1, .slice A0_2 l0_2.length c0_2, .slice A0_3 l0_3.length c0_3, .int .u32 a0_4, .slice A0_5 l0_5.length c0_5, .int .i64 a0_6, .slice (some ad47003) l0_7.length c0_7, .int .i64 a0_8, .string a0_9] 32 (0, 0)) (by (with_reducible repeat (first | refine blk_drewN ?_ _ | refine blk_drew ?_ | refine blk_alloc ?_ _)); exact BK47001.out)) : gb47001 ≠ gb47004)); have n6_ := Aside0.mk ((by rw [hg]; exact Nat.ne_of_gt (blk_lt (g := gb47001) (o := .cells #[.slice A0_0 l0_0.length c0_0, .slice A0_1 l0_1.length c0_1, .slice A0_2 l0_2.length c0_2, .slice A0_3 l0_3.length c0_3, .int .u32 a0_4, .slice A0_5 l0_5.length c0_5, .int .i64 a0_6, .slice (some ad47003) l0_7.length c0_7, .int .i64 a0_8, .string a0_9] 32 (0, 0)) (by (with_reducible repeat (first | refine blk_drewN ?_ _ | refine blk_drew ?_ | refine blk_alloc ?_ _)); exact BK47001.out)) : gb47004 ≠ gb47001)); clear BK47001; clear HB; have BK47001 := n0_; have HB := n1_; have BK47004 := n2_; have GW47004 := n3_; have GE47004 := n4_; have NB47001_47004 := n5_; have NB47004_47001 := n6_; clear n0_ n1_ n2_ n3_ n4_ n5_ n6_; clear hb hbox hg; have hnb18 := NB47004_47001.out; have hnc18 := NB47001_47004.out; have hcz19_0 : w17.cell? ⟨gb47004, 0, none⟩ = some (.int .i64 0) := (blk_cell BK47004.out 0).trans rfl; have hcz19_1 : w17.cell? ⟨gb47004, 1, none⟩ = some (.int .i64 0) := (blk_cell BK47004.out 1).trans rfl; have hcz19_2 : w17.cell? ⟨gb47004, 2, none⟩ = some (.string (⟨#[]⟩ : ByteArray)) := (blk_cell BK47004.out 2).trans rfl; have hcz19_3 : w17.cell? ⟨gb47004, 3, none⟩ = some (.slice none 0 0) := (blk_cell BK47004.out 3).trans rfl; have hfz19_0 := blk_frozen BK47004.out 0; have hfz19_1 := blk_frozen BK47004.out 1; have hfz19_2 := blk_frozen BK47004.out 2; have hfz19_3 := blk_frozen BK47004.out 3; have hcz20_0 : w17.cell? ⟨gb47001, 0, none⟩ = some (.slice A0_0 l0_0.length c0_0) := (blk_cell BK47001.out 0).trans rfl; have hcz20_1 : w17.cell? ⟨gb47001, 1, none⟩ = some (.slice A0_1 l0_1.length c0_1) := (blk_cell BK47001.out 1).trans rfl; have hcz20_2 : w17.cell? ⟨gb47001, 2, none⟩ = some (.slice A0_2 l0_2.length c0_2) := (blk_cell BK47001.out 2).trans rfl; have hcz20_3 : w17.cell? ⟨gb47001, 3, none⟩ = some (.slice A0_3 l0_3.length c0_3) := (blk_cell BK47001.out 3).trans rfl; have hcz20_4 : w17.cell? ⟨gb47001, 4, none⟩ = some (.int .u32 a0_4) := (blk_cell BK47001.out 4).trans rfl; have hcz20_5 : w17.cell? ⟨gb47001, 5, none⟩ = some (.slice A0_5 l0_5.length c0_5) := (blk_cell BK47001.out 5).trans rfl; have hcz20_6 : w17.cell? ⟨gb47001, 6, none⟩ = some (.int .i64 a0_6) := (blk_cell BK47001.out 6).trans rfl; have hcz20_7 : w17.cell? ⟨gb47001, 7, none⟩ = some (.slice (some ad47003) l0_7.length c0_7) := (blk_cell BK47001.out 7).trans rfl; have hcz20_8 : w17.cell? ⟨gb47001, 8, none⟩ = some (.int .i64 a0_8) := (blk_cell BK47001.out 8).trans rfl; have hcz20_9 : w17.cell? ⟨gb47001, 9, none⟩ = some (.string a0_9) := (blk_cell BK47001.out 9).trans rfl; have hfz20_0 := blk_frozen BK47001.out 0; have hfz20_1 := blk_frozen BK47001.out 1; have hfz20_2 := blk_frozen BK47001.out 2; have hfz20_3 := blk_frozen BK47001.out 3; have hfz20_4 := blk_frozen BK47001.out 4; have hfz20_5 := blk_frozen BK47001.out 5; have hfz20_6 := blk_frozen BK47001.out 6; have hfz20_7 := blk_frozen BK47001.out 7; have hfz20_8 := blk_frozen BK47001.out 8; have hfz20_9 := blk_frozen BK47001.out 9) | ((with_reducible refine gate_callee (f := 77) rfl ?_); refine goesL_ (some 35) rfl rfl Try.func77 (by kernel_rfl) rfl #[.slice (some ad47003) l0_7.length c0_7, .agg #[.int .i64 ((rd_T82 l0_7 x26_2).f0), .int .i64 ((rd_T82 l0_7 x26_2).f1), .string ((rd_T82 l0_7 x26_2).f2), .slice A47003_3 ((rd_T82 l0_7 x26_2).f3).length c47003_3], .slice A0_5 l0_5.length c0_5] rfl (by (try simp only [List.map_toArray, List.map_cons, List.map_nil]); first | done | rfl | (simp only [List.length_drop, List.length_take]; rfl)) ?_; (with_reducible refine (dict_instRight.calls _ _ l0_7 ((rd_T82 l0_7 x26_2).f0) ((rd_T82 l0_7 x26_2).f1) ((rd_T82 l0_7 x26_2).f2) _ _ ((rd_T82 l0_7 x26_2).f3) _ _ l0_5 true _ ?side1 ?side2 ?side3 ?side4 ?side5 ?side6 A15.out).mono ?_); (case side1 => exact Kd.C_below HR0_7.out (by repeat (first | (with_reducible first | exact HB.out | apply below_alloc | apply pw_below_drewN | apply below_drew1 | refine below_set ?_ GE47001.out | refine below_set ?_ GE47004.out) | exact HB.out))); (case side2 => exact HC0_7.out); (case side3 => exact Kd.C_below HR47003_3.out (by repeat (first | (with_reducible first | exact HB.out | apply below_alloc | apply pw_below_drewN | apply below_drew1 | refine below_set ?_ GE47001.out | refine below_set ?_ GE47004.out) | exact HB.out))); (case side4 => exact HC47003_3.out); (case side5 => exact Kd.C_below HR0_5.out (by repeat (first | (with_reducible first | exact HB.out | apply below_alloc | apply pw_below_drewN | apply below_drew1 | refine below_set ?_ GE47001.out | refine below_set ?_ GE47004.out) | exact HB.out))); (case side6 => exact HC0_5.out); rintro e w21 ⟨rfl, hb⟩; refine ⟨_, rfl, ?_⟩; have n0_ := Aside0.mk (blk_below (g := gb47001) (o := .cells #[.slice A0_0 l0_0.length c0_0, .slice A0_1 l0_1.length c0_1, .slice A0_2 l0_2.length c0_2, .slice A0_3 l0_3.length c0_3, .int .u32 a0_4, .slice A0_5 l0_5.length c0_5, .int .i64 a0_6, .slice (some ad47003) l0_7.length c0_7, .int .i64 a0_8, .string a0_9] 32 (0, 0)) (by (with_reducible repeat (first | refine blk_drewN ?_ _ | refine blk_drew ?_ | refine blk_alloc ?_ _)); refine blk_far ?_ NB47001_47004.out _; (with_reducible repeat (first | refine blk_drewN ?_ _ | refine blk_drew ?_ | refine blk_alloc ?_ _)); refine blk_far ?_ NB47001_47004.out _; (with_reducible repeat (first | refine blk_drewN ?_ _ | refine blk_drew ?_ | refine blk_alloc ?_ _)); refine blk_far ?_ NB47001_47004.out _; (with_reducible repeat (first | refine blk_drewN ?_ _ | refine blk_drew ?_ | refine blk_alloc ?_ _)); refine blk_far ?_ NB47001_47004.out _; (with_reducible repeat (first | refine blk_drewN ?_ _ | refine blk_drew ?_ | refine blk_alloc ?_ _)); exact BK47001.out) hb); have n1_ := Aside0.mk (blk_below (g := gb47004) (o := .cells #[.int .i64 ((rd_T82 l0_7 x26_2).f0), .int .i64 ((rd_T82 l0_7 x26_2).f1), .string ((rd_T82 l0_7 x26_2).f2), .slice A47003_3 ((rd_T82 l0_7 x26_2).f3).length c47003_3] 82 (0, 0)) (by (with_reducible repeat (first | refine blk_drewN ?_ _ | refine blk_drew ?_ | refine blk_alloc ?_ _)); refine blk_put (cs := #[.int .i64 ((rd_T82 l0_7 x26_2).f0), .int .i64 ((rd_T82 l0_7 x26_2).f1), .string ((rd_T82 l0_7 x26_2).f2), .slice none 0 0]) ?_ 3 _ rfl; (with_reducible repeat (first | refine blk_drewN ?_ _ | refine blk_drew ?_ | refine blk_alloc ?_ _)); refine blk_put (cs := #[.int .i64 ((rd_T82 l0_7 x26_2).f0), .int .i64 ((rd_T82 l0_7 x26_2).f1), .string (⟨#[]⟩ : ByteArray), .slice none 0 0]) ?_ 2 _ rfl; (with_reducible repeat (first | refine blk_drewN ?_ _ | refine blk_drew ?_ | refine blk_alloc ?_ _)); refine blk_put (cs := #[.int .i64 ((rd_T82 l0_7 x26_2).f0), .int .i64 0, .string (⟨#[]⟩ : ByteArray), .slice none 0 0]) ?_ 1 _ rfl; (with_reducible repeat (first | refine blk_drewN ?_ _ | refine blk_drew ?_ | refine blk_alloc ?_ _)); refine blk_put (cs := #[.int .i64 0, .int .i64 0, .string (⟨#[]⟩ : ByteArray), .slice none 0 0]) ?_ 0 _ rfl; (with_reducible repeat (first | refine blk_drewN ?_ _ | refine blk_drew ?_ | refine blk_alloc ?_ _)); exact BK47004.out) hb); have n2_ := Aside0.mk (below_step (by repeat (first | (with_reducible first | exact HB.out | apply below_alloc | apply pw_below_drewN | apply below_drew1 | refine below_set ?_ GE47001.out | refine below_set ?_ GE47004.out) | exact HB.out)) hb); clear BK47001; clear BK47004; clear HB; have BK47001 := n0_; have BK47004 := n1_; have HB := n2_; clear n0_ n1_ n2_; (try clear hb); (try clear hb2); (try clear hk); (try clear hi)))
                    go_roundg k2
                    case measure => have := HJ1.out; have := HK2.out; omega
                    case rel => exact ⟨(wrap64 (x26_2 + 1)), (by first | rfl | (simp; done) | (simp [*]; done)), H', ⟨by have := HJ1.out; have := HK2.out; omega⟩, ⟨by (with_reducible repeat (first | refine blk_drewN ?_ _ | refine blk_drew ?_ | refine blk_alloc ?_ _)); exact BK47001.out⟩, ⟨by repeat (first | (with_reducible first | exact HB.out | apply below_alloc | apply pw_below_drewN | apply below_drew1 | refine below_set ?_ GE47001.out | refine below_set ?_ GE47004.out) | exact HB.out)⟩⟩
                  · replace c16 := Bool.eq_false_iff.mpr c16
                    subst c16
                    have H1 : (some false) = some r := by rw [if_neg (show ¬ (false = true) by decide)] at H; exact H
                    clear H
                    have H := H1
                    clear H1
                    obtain rfl := Option.some.inj H
                    have p47003 : 0 ≤ (x26_2 : Int) := of_decide_eq_true (by first | (with_reducible assumption) | assumption)
                    have q47003 : x26_2 < (l0_7.length : Int) := of_decide_eq_true (by first | (with_reducible assumption) | assumption)
                    obtain ⟨ad47003, A47003_3, c47003_3, e47003, hx47003_0, hx47003_1, hx47003_2, hx47003_3, hl47003_3, hi47003_3⟩ := at_T82 HR0_7.out x26_2 p47003 q47003
                    cases e47003
                    replace hx47003_0 := (HB.out.cell (World.block_lt_of_cell? w _ hx47003_0)).trans hx47003_0
                    replace hx47003_1 := (HB.out.cell (World.block_lt_of_cell? w _ hx47003_1)).trans hx47003_1
                    replace hx47003_2 := (HB.out.cell (World.block_lt_of_cell? w _ hx47003_2)).trans hx47003_2
                    replace hx47003_3 := (HB.out.cell (World.block_lt_of_cell? w _ hx47003_3)).trans hx47003_3
                    have HR47003_3 := Aside0.mk hi47003_3
                    have HC47003_3 := Aside0.mk hl47003_3
                    clear hi47003_3 hl47003_3
                    replace p47003 := eq_true p47003
                    replace q47003 := eq_true q47003
                    go_wp2_with (first | ((with_reducible refine gate_dst (N := 4) rfl ?_); refine box_event ?hg (N := 4) ?hd (cs := #[.int .i64 0, .int .i64 0, .string (⟨#[]⟩ : ByteArray), .slice none 0 0]) (t := 82) ?hr ?_; (case hd => rfl); (case hg => rfl); (case hr => first | (go_simp; done) | (go_simp; rfl)); intro gb47004 hg w22 hbox hb; have n0_ := Aside0.mk (blk_below (g := gb47001) (o := .cells #[.slice A0_0 l0_0.length c0_0, .slice A0_1 l0_1.length c0_1, .slice A0_2 l0_2.length c0_2, .slice A0_3 l0_3.length c0_3, .int .u32 a0_4, .slice A0_5 l0_5.length c0_5, .int .i64 a0_6, .slice (some ad47003) l0_7.length c0_7, .int .i64 a0_8, .string a0_9] 32 (0, 0)) (by (with_reducible repeat (first | refine blk_drewN ?_ _ | refine blk_drew ?_ | refine blk_alloc ?_ _)); exact BK47001.out) hb); have n1_ := Aside0.mk (below_step (by repeat (first | (with_reducible first | exact HB.out | apply below_alloc | apply pw_below_drewN | apply below_drew1 | refine below_set ?_ GE47001.out) | exact HB.out)) hb); have n2_ := Aside0.mk (hbox); have n3_ := Aside0.mk ((by rw [hg]; exact (below_size (by repeat (first | (with_reducible first | exact HB.out | apply below_alloc | apply pw_below_drewN | apply below_drew1 | refine below_set ?_ GE47001.out) | exact HB.out))) : w.heap.size ≤ gb47004)); have n4_ := Aside0.mk ((by rw [hg]; exact (below_size (by repeat (first | (with_reducible first | exact HB.out | apply below_alloc | apply pw_below_drewN | apply below_drew1 | refine below_set ?_ GE47001.out) | exact HB.out))) : w.heap.size ≤ gb47004)); have n5_ := Aside0.mk ((by rw [hg]; exact Nat.ne_of_lt (blk_lt (g := gb47001) (o := .cells #[.slice A0_0 l0_0.length c0_0, .slice A0_1 l0_1.length c0_1, .slice A0_2 l0_2.length c0_2, .slice A0_3 l0_3.length c0_3, .int .u32 a0_4, .slice A0_5 l0_5.length c0_5, .int .i64 a0_6, .slice (some ad47003) l0_7.length c0_7, .int .i64 a0_8, .string a0_9] 32 (0, 0)) (by (with_reducible repeat (first | refine blk_drewN ?_ _ | refine blk_drew ?_ | refine blk_alloc ?_ _)); exact BK47001.out)) : gb47001 ≠ gb47004)); have n6_ := Aside0.mk ((by rw [hg]; exact Nat.ne_of_gt (blk_lt (g := gb47001) (o := .cells #[.slice A0_0 l0_0.length c0_0, .slice A0_1 l0_1.length c0_1, .slice A0_2 l0_2.length c0_2, .slice A0_3 l0_3.length c0_3, .int .u32 a0_4, .slice A0_5 l0_5.length c0_5, .int .i64 a0_6, .slice (some ad47003) l0_7.length c0_7, .int .i64 a0_8, .string a0_9] 32 (0, 0)) (by (with_reducible repeat (first | refine blk_drewN ?_ _ | refine blk_drew ?_ | refine blk_alloc ?_ _)); exact BK47001.out)) : gb47004 ≠ gb47001)); clear BK47001; clear HB; have BK47001 := n0_; have HB := n1_; have BK47004 := n2_; have GW47004 := n3_; have GE47004 := n4_; have NB47001_47004 := n5_; have NB47004_47001 := n6_; clear n0_ n1_ n2_ n3_ n4_ n5_ n6_; clear hb hbox hg; have hnb23 := NB47004_47001.out; have hnc23 := NB47001_47004.out; have hcz24_0 : w22.cell? ⟨gb47004, 0, none⟩ = some (.int .i64 0) := (blk_cell BK47004.out 0).trans rfl; have hcz24_1 : w22.cell? ⟨gb47004, 1, none⟩ = some (.int .i64 0) := (blk_cell BK47004.out 1).trans rfl; have hcz24_2 : w22.cell? ⟨gb47004, 2, none⟩ = some (.string (⟨#[]⟩ : ByteArray)) := (blk_cell BK47004.out 2).trans rfl; have hcz24_3 : w22.cell? ⟨gb47004, 3, none⟩ = some (.slice none 0 0) := (blk_cell BK47004.out 3).trans rfl; have hfz24_0 := blk_frozen BK47004.out 0; have hfz24_1 := blk_frozen BK47004.out 1; have hfz24_2 := blk_frozen BK47004.out 2; have hfz24_3 := blk_frozen BK47004.out 3; have hcz25_0 : w22.cell? ⟨gb47001, 0, none⟩ = some (.slice A0_0 l0_0.length c0_0) := (blk_cell BK47001.out 0).trans rfl; have hcz25_1 : w22.cell? ⟨gb47001, 1, none⟩ = some (.slice A0_1 l0_1.length c0_1) := (blk_cell BK47001.out 1).trans rfl; have hcz25_2 : w22.cell? ⟨gb47001, 2, none⟩ = some (.slice A0_2 l0_2.length c0_2) := (blk_cell BK47001.out 2).trans rfl; have hcz25_3 : w22.cell? ⟨gb47001, 3, none⟩ = some (.slice A0_3 l0_3.length c0_3) := (blk_cell BK47001.out 3).trans rfl; have hcz25_4 : w22.cell? ⟨gb47001, 4, none⟩ = some (.int .u32 a0_4) := (blk_cell BK47001.out 4).trans rfl; have hcz25_5 : w22.cell? ⟨gb47001, 5, none⟩ = some (.slice A0_5 l0_5.length c0_5) := (blk_cell BK47001.out 5).trans rfl; have hcz25_6 : w22.cell? ⟨gb47001, 6, none⟩ = some (.int .i64 a0_6) := (blk_cell BK47001.out 6).trans rfl; have hcz25_7 : w22.cell? ⟨gb47001, 7, none⟩ = some (.slice (some ad47003) l0_7.length c0_7) := (blk_cell BK47001.out 7).trans rfl; have hcz25_8 : w22.cell? ⟨gb47001, 8, none⟩ = some (.int .i64 a0_8) := (blk_cell BK47001.out 8).trans rfl; have hcz25_9 : w22.cell? ⟨gb47001, 9, none⟩ = some (.string a0_9) := (blk_cell BK47001.out 9).trans rfl; have hfz25_0 := blk_frozen BK47001.out 0; have hfz25_1 := blk_frozen BK47001.out 1; have hfz25_2 := blk_frozen BK47001.out 2; have hfz25_3 := blk_frozen BK47001.out 3; have hfz25_4 := blk_frozen BK47001.out 4; have hfz25_5 := blk_frozen BK47001.out 5; have hfz25_6 := blk_frozen BK47001.out 6; have hfz25_7 := blk_frozen BK47001.out 7; have hfz25_8 := blk_frozen BK47001.out 8; have hfz25_9 := blk_frozen BK47001.out 9) | ((with_reducible refine gate_callee (f := 77) rfl ?_); refine goesL_ (some 35) rfl rfl Try.func77 (by kernel_rfl) rfl #[.slice (some ad47003) l0_7.length c0_7, .agg #[.int .i64 ((rd_T82 l0_7 x26_2).f0), .int .i64 ((rd_T82 l0_7 x26_2).f1), .string ((rd_T82 l0_7 x26_2).f2), .slice A47003_3 ((rd_T82 l0_7 x26_2).f3).length c47003_3], .slice A0_5 l0_5.length c0_5] rfl (by (try simp only [List.map_toArray, List.map_cons, List.map_nil]); first | done | rfl | (simp only [List.length_drop, List.length_take]; rfl)) ?_; (with_reducible refine (dict_instRight.calls _ _ l0_7 ((rd_T82 l0_7 x26_2).f0) ((rd_T82 l0_7 x26_2).f1) ((rd_T82 l0_7 x26_2).f2) _ _ ((rd_T82 l0_7 x26_2).f3) _ _ l0_5 false _ ?side1 ?side2 ?side3 ?side4 ?side5 ?side6 A15.out).mono ?_); (case side1 => exact Kd.C_below HR0_7.out (by repeat (first | (with_reducible first | exact HB.out | apply below_alloc | apply pw_below_drewN | apply below_drew1 | refine below_set ?_ GE47001.out | refine below_set ?_ GE47004.out) | exact HB.out))); (case side2 => exact HC0_7.out); (case side3 => exact Kd.C_below HR47003_3.out (by repeat (first | (with_reducible first | exact HB.out | apply below_alloc | apply pw_below_drewN | apply below_drew1 | refine below_set ?_ GE47001.out | refine below_set ?_ GE47004.out) | exact HB.out))); (case side4 => exact HC47003_3.out); (case side5 => exact Kd.C_below HR0_5.out (by repeat (first | (with_reducible first | exact HB.out | apply below_alloc | apply pw_below_drewN | apply below_drew1 | refine below_set ?_ GE47001.out | refine below_set ?_ GE47004.out) | exact HB.out))); (case side6 => exact HC0_5.out); rintro e w26 ⟨rfl, hb⟩; refine ⟨_, rfl, ?_⟩; have n0_ := Aside0.mk (blk_below (g := gb47001) (o := .cells #[.slice A0_0 l0_0.length c0_0, .slice A0_1 l0_1.length c0_1, .slice A0_2 l0_2.length c0_2, .slice A0_3 l0_3.length c0_3, .int .u32 a0_4, .slice A0_5 l0_5.length c0_5, .int .i64 a0_6, .slice (some ad47003) l0_7.length c0_7, .int .i64 a0_8, .string a0_9] 32 (0, 0)) (by (with_reducible repeat (first | refine blk_drewN ?_ _ | refine blk_drew ?_ | refine blk_alloc ?_ _)); refine blk_far ?_ NB47001_47004.out _; (with_reducible repeat (first | refine blk_drewN ?_ _ | refine blk_drew ?_ | refine blk_alloc ?_ _)); refine blk_far ?_ NB47001_47004.out _; (with_reducible repeat (first | refine blk_drewN ?_ _ | refine blk_drew ?_ | refine blk_alloc ?_ _)); refine blk_far ?_ NB47001_47004.out _; (with_reducible repeat (first | refine blk_drewN ?_ _ | refine blk_drew ?_ | refine blk_alloc ?_ _)); refine blk_far ?_ NB47001_47004.out _; (with_reducible repeat (first | refine blk_drewN ?_ _ | refine blk_drew ?_ | refine blk_alloc ?_ _)); exact BK47001.out) hb); have n1_ := Aside0.mk (blk_below (g := gb47004) (o := .cells #[.int .i64 ((rd_T82 l0_7 x26_2).f0), .int .i64 ((rd_T82 l0_7 x26_2).f1), .string ((rd_T82 l0_7 x26_2).f2), .slice A47003_3 ((rd_T82 l0_7 x26_2).f3).length c47003_3] 82 (0, 0)) (by (with_reducible repeat (first | refine blk_drewN ?_ _ | refine blk_drew ?_ | refine blk_alloc ?_ _)); refine blk_put (cs := #[.int .i64 ((rd_T82 l0_7 x26_2).f0), .int .i64 ((rd_T82 l0_7 x26_2).f1), .string ((rd_T82 l0_7 x26_2).f2), .slice none 0 0]) ?_ 3 _ rfl; (with_reducible repeat (first | refine blk_drewN ?_ _ | refine blk_drew ?_ | refine blk_alloc ?_ _)); refine blk_put (cs := #[.int .i64 ((rd_T82 l0_7 x26_2).f0), .int .i64 ((rd_T82 l0_7 x26_2).f1), .string (⟨#[]⟩ : ByteArray), .slice none 0 0]) ?_ 2 _ rfl; (with_reducible repeat (first | refine blk_drewN ?_ _ | refine blk_drew ?_ | refine blk_alloc ?_ _)); refine blk_put (cs := #[.int .i64 ((rd_T82 l0_7 x26_2).f0), .int .i64 0, .string (⟨#[]⟩ : ByteArray), .slice none 0 0]) ?_ 1 _ rfl; (with_reducible repeat (first | refine blk_drewN ?_ _ | refine blk_drew ?_ | refine blk_alloc ?_ _)); refine blk_put (cs := #[.int .i64 0, .int .i64 0, .string (⟨#[]⟩ : ByteArray), .slice none 0 0]) ?_ 0 _ rfl; (with_reducible repeat (first | refine blk_drewN ?_ _ | refine blk_drew ?_ | refine blk_alloc ?_ _)); exact BK47004.out) hb); have n2_ := Aside0.mk (below_step (by repeat (first | (with_reducible first | exact HB.out | apply below_alloc | apply pw_below_drewN | apply below_drew1 | refine below_set ?_ GE47001.out | refine below_set ?_ GE47004.out) | exact HB.out)) hb); clear BK47001; clear BK47004; clear HB; have BK47001 := n0_; have BK47004 := n1_; have HB := n2_; clear n0_ n1_ n2_; (try clear hb); (try clear hb2); (try clear hk); (try clear hi)))
                    go_ret
                    exact ⟨by first | rfl | (simp [errW_none, errW_some] <;> rfl) | (simp [*, errW_none, errW_some] <;> rfl), by repeat (first | (with_reducible first | exact HB.out | apply below_alloc | apply pw_below_drewN | apply below_drew1 | refine below_set ?_ GE47001.out | refine below_set ?_ GE47004.out) | exact HB.out)⟩
                · rw [if_neg c14] at H
                  exact absurd H (by simp)
              · rw [if_neg c13] at H
                exact absurd H (by simp)
            · rw [if_neg c12] at H
              have c12b0 : decide (x26_2 < (l0_7.length : Int)) = false := decide_eq_false c12
              clear c12
              have H' := Aside0.mk H
              clear H
              have hcz27_0 : wr.cell? ⟨gb47001, 0, none⟩ = some (.slice A0_0 l0_0.length c0_0) := (blk_cell BK47001.out 0).trans rfl
              have hcz27_1 : wr.cell? ⟨gb47001, 1, none⟩ = some (.slice A0_1 l0_1.length c0_1) := (blk_cell BK47001.out 1).trans rfl
              have hcz27_2 : wr.cell? ⟨gb47001, 2, none⟩ = some (.slice A0_2 l0_2.length c0_2) := (blk_cell BK47001.out 2).trans rfl
              have hcz27_3 : wr.cell? ⟨gb47001, 3, none⟩ = some (.slice A0_3 l0_3.length c0_3) := (blk_cell BK47001.out 3).trans rfl
              have hcz27_4 : wr.cell? ⟨gb47001, 4, none⟩ = some (.int .u32 a0_4) := (blk_cell BK47001.out 4).trans rfl
              have hcz27_5 : wr.cell? ⟨gb47001, 5, none⟩ = some (.slice A0_5 l0_5.length c0_5) := (blk_cell BK47001.out 5).trans rfl
              have hcz27_6 : wr.cell? ⟨gb47001, 6, none⟩ = some (.int .i64 a0_6) := (blk_cell BK47001.out 6).trans rfl
              have hcz27_7 : wr.cell? ⟨gb47001, 7, none⟩ = some (.slice A0_7 l0_7.length c0_7) := (blk_cell BK47001.out 7).trans rfl
              have hcz27_8 : wr.cell? ⟨gb47001, 8, none⟩ = some (.int .i64 a0_8) := (blk_cell BK47001.out 8).trans rfl
              have hcz27_9 : wr.cell? ⟨gb47001, 9, none⟩ = some (.string a0_9) := (blk_cell BK47001.out 9).trans rfl
              have hfz27_0 := blk_frozen BK47001.out 0
              have hfz27_1 := blk_frozen BK47001.out 1
              have hfz27_2 := blk_frozen BK47001.out 2
              have hfz27_3 := blk_frozen BK47001.out 3
              have hfz27_4 := blk_frozen BK47001.out 4
              have hfz27_5 := blk_frozen BK47001.out 5
              have hfz27_6 := blk_frozen BK47001.out 6
              have hfz27_7 := blk_frozen BK47001.out 7
              have hfz27_8 := blk_frozen BK47001.out 8
              have hfz27_9 := blk_frozen BK47001.out 9
              go_wp2
              go_loopg [41] k2 (fun kq v41 w' => ∃ (x41_3 : Int), v41 = .int .i64 x41_3 ∧ Aside0 (dict_instsRight.l1 kq (l0_7.length : Int) x41_3 l0_0 l0_1 l0_2 l0_3 a0_4 l0_5 a0_6 l0_7 a0_8 a0_9 = some r) ∧ Aside0 (kq ≤ k2) ∧ Aside0 (w'.heap[gb47001]? = some (.cells #[(.slice A0_0 l0_0.length c0_0), (.slice A0_1 l0_1.length c0_1), (.slice A0_2 l0_2.length c0_2), (.slice A0_3 l0_3.length c0_3), .int .u32 a0_4, (.slice A0_5 l0_5.length c0_5), .int .i64 a0_6, (.slice A0_7 l0_7.length c0_7), .int .i64 a0_8, .string a0_9] 32 (0, 0))) ∧ Aside0 (Below w.heap.size w w'))
              case atStart => exact ⟨(0), (by first | rfl | (simp; done) | (simp [*]; done)), H', ⟨Nat.le_refl _⟩, ⟨by (with_reducible repeat (first | refine blk_drewN ?_ _ | refine blk_drew ?_ | refine blk_alloc ?_ _)); exact BK47001.out⟩, ⟨by repeat (first | (with_reducible first | exact HB.out | apply below_alloc | apply pw_below_drewN | apply below_drew1 | refine below_set ?_ GE47001.out) | exact HB.out)⟩⟩
              case round =>
                clear H'
                try clear c1
                try clear c2
                try clear p2
                try clear c4
                try clear c4b0
                try clear c4b1
                try clear p4
                try clear q4
                try clear hx4
                try clear c6
                try clear c6b0
                try clear c6b1
                try clear p6
                try clear c7
                try clear c10
                try clear c12
                try clear c12b0
                try clear c13
                try clear c13b0
                try clear c14
                try clear c14b0
                try clear c16
                try clear c18
                try clear c23
                try clear hcz11_0
                try clear hcz11_1
                try clear hcz11_2
                try clear hcz11_3
                try clear hcz11_4
                try clear hcz11_5
                try clear hcz11_6
                try clear hcz11_7
                try clear hcz11_8
                try clear hcz11_9
                try clear hcz19_0
                try clear hcz19_1
                try clear hcz19_2
                try clear hcz19_3
                try clear hcz20_0
                try clear hcz20_1
                try clear hcz20_2
                try clear hcz20_3
                try clear hcz20_4
                try clear hcz20_5
                try clear hcz20_6
                try clear hcz20_7
                try clear hcz20_8
                try clear hcz20_9
                try clear hcz24_0
                try clear hcz24_1
                try clear hcz24_2
                try clear hcz24_3
                try clear hcz25_0
                try clear hcz25_1
                try clear hcz25_2
                try clear hcz25_3
                try clear hcz25_4
                try clear hcz25_5
                try clear hcz25_6
                try clear hcz25_7
                try clear hcz25_8
                try clear hcz25_9
                try clear hcz27_0
                try clear hcz27_1
                try clear hcz27_2
                try clear hcz27_3
                try clear hcz27_4
                try clear hcz27_5
                try clear hcz27_6
                try clear hcz27_7
                try clear hcz27_8
                try clear hcz27_9
                try clear hcz5_0
                try clear hcz5_1
                try clear hcz5_2
                try clear hcz5_3
                try clear hcz5_4
                try clear hcz5_5
                try clear hcz5_6
                try clear hcz5_7
                try clear hcz5_8
                try clear hcz5_9
                try clear hcz7_0
                try clear hcz7_1
                try clear hcz7_2
                try clear hcz7_3
                try clear hcz7_4
                try clear hcz7_5
                try clear hcz7_6
                try clear hcz7_7
                try clear hcz7_8
                try clear hcz7_9
                try clear hcz9_0
                try clear hcz9_1
                try clear hcz9_2
                try clear hcz9_3
                try clear hcz9_4
                try clear hcz9_5
                try clear hcz9_6
                try clear hcz9_7
                try clear hcz9_8
                try clear hcz9_9
                try clear hfz11_0
                try clear hfz11_1
                try clear hfz11_2
                try clear hfz11_3
                try clear hfz11_4
                try clear hfz11_5
                try clear hfz11_6
                try clear hfz11_7
                try clear hfz11_8
                try clear hfz11_9
                try clear hfz19_0
                try clear hfz19_1
                try clear hfz19_2
                try clear hfz19_3
                try clear hfz20_0
                try clear hfz20_1
                try clear hfz20_2
                try clear hfz20_3
                try clear hfz20_4
                try clear hfz20_5
                try clear hfz20_6
                try clear hfz20_7
                try clear hfz20_8
                try clear hfz20_9
                try clear hfz24_0
                try clear hfz24_1
                try clear hfz24_2
                try clear hfz24_3
                try clear hfz25_0
                try clear hfz25_1
                try clear hfz25_2
                try clear hfz25_3
                try clear hfz25_4
                try clear hfz25_5
                try clear hfz25_6
                try clear hfz25_7
                try clear hfz25_8
                try clear hfz25_9
                try clear hfz27_0
                try clear hfz27_1
                try clear hfz27_2
                try clear hfz27_3
                try clear hfz27_4
                try clear hfz27_5
                try clear hfz27_6
                try clear hfz27_7
                try clear hfz27_8
                try clear hfz27_9
                try clear hfz5_0
                try clear hfz5_1
                try clear hfz5_2
                try clear hfz5_3
                try clear hfz5_4
                try clear hfz5_5
                try clear hfz5_6
                try clear hfz5_7
                try clear hfz5_8
                try clear hfz5_9
                try clear hfz7_0
                try clear hfz7_1
                try clear hfz7_2
                try clear hfz7_3
                try clear hfz7_4
                try clear hfz7_5
                try clear hfz7_6
                try clear hfz7_7
                try clear hfz7_8
                try clear hfz7_9
                try clear hfz9_0
                try clear hfz9_1
                try clear hfz9_2
                try clear hfz9_3
                try clear hfz9_4
                try clear hfz9_5
                try clear hfz9_6
                try clear hfz9_7
                try clear hfz9_8
                try clear hfz9_9
                try clear hx47003_0
                try clear hx47003_1
                try clear hx47003_2
                try clear hx47003_3
                try clear p2
                try clear p47003
                try clear q47003
                obtain ⟨x41_3, rfl, HA, HK3, BK47001, HB⟩ := hrel
                cases gk with
                | zero => exact absurd HA.out (by simp [dict_instsRight.l1])
                | succ k3 =>
                  have H := HA.out
                  clear HA
                  simp only [dict_instsRight.l1] at H
                  by_cases c28 : x41_3 < (l0_7.length : Int)
                  · rw [if_pos c28] at H
                    have c28b0 : decide (x41_3 < (l0_7.length : Int)) = true := decide_eq_true c28
                    clear c28
                    replace H := Option.bind_eq_some_iff.mp H
                    obtain ⟨t47006, A290, H⟩ := H
                    replace H : (if t47006 = true then (dict_instsRight.l1 k3 (l0_7.length : Int) (wrap64 (x41_3 + 1)) l0_0 l0_1 l0_2 l0_3 a0_4 l0_5 a0_6 l0_7 a0_8 a0_9) else (some false)) = some r := H
                    have A29 := Aside0.mk A290
                    clear A290
                    by_cases c30 : t47006 = true
                    · subst c30
                      have H1 : (dict_instsRight.l1 k3 (l0_7.length : Int) (wrap64 (x41_3 + 1)) l0_0 l0_1 l0_2 l0_3 a0_4 l0_5 a0_6 l0_7 a0_8 a0_9) = some r := by rw [if_pos rfl] at H; exact H
                      clear H
                      have H := H1
                      clear H1
                      have H' := Aside0.mk H
                      clear H
                      have hcz31_0 : wr.cell? ⟨gb47001, 0, none⟩ = some (.slice A0_0 l0_0.length c0_0) := (blk_cell BK47001.out 0).trans rfl
                      have hcz31_1 : wr.cell? ⟨gb47001, 1, none⟩ = some (.slice A0_1 l0_1.length c0_1) := (blk_cell BK47001.out 1).trans rfl
                      have hcz31_2 : wr.cell? ⟨gb47001, 2, none⟩ = some (.slice A0_2 l0_2.length c0_2) := (blk_cell BK47001.out 2).trans rfl
                      have hcz31_3 : wr.cell? ⟨gb47001, 3, none⟩ = some (.slice A0_3 l0_3.length c0_3) := (blk_cell BK47001.out 3).trans rfl
                      have hcz31_4 : wr.cell? ⟨gb47001, 4, none⟩ = some (.int .u32 a0_4) := (blk_cell BK47001.out 4).trans rfl
                      have hcz31_5 : wr.cell? ⟨gb47001, 5, none⟩ = some (.slice A0_5 l0_5.length c0_5) := (blk_cell BK47001.out 5).trans rfl
                      have hcz31_6 : wr.cell? ⟨gb47001, 6, none⟩ = some (.int .i64 a0_6) := (blk_cell BK47001.out 6).trans rfl
                      have hcz31_7 : wr.cell? ⟨gb47001, 7, none⟩ = some (.slice A0_7 l0_7.length c0_7) := (blk_cell BK47001.out 7).trans rfl
                      have hcz31_8 : wr.cell? ⟨gb47001, 8, none⟩ = some (.int .i64 a0_8) := (blk_cell BK47001.out 8).trans rfl
                      have hcz31_9 : wr.cell? ⟨gb47001, 9, none⟩ = some (.string a0_9) := (blk_cell BK47001.out 9).trans rfl
                      have hfz31_0 := blk_frozen BK47001.out 0
                      have hfz31_1 := blk_frozen BK47001.out 1
                      have hfz31_2 := blk_frozen BK47001.out 2
                      have hfz31_3 := blk_frozen BK47001.out 3
                      have hfz31_4 := blk_frozen BK47001.out 4
                      have hfz31_5 := blk_frozen BK47001.out 5
                      have hfz31_6 := blk_frozen BK47001.out 6
                      have hfz31_7 := blk_frozen BK47001.out 7
                      have hfz31_8 := blk_frozen BK47001.out 8
                      have hfz31_9 := blk_frozen BK47001.out 9
                      go_wp2_with (first | ((with_reducible refine gate_callee (f := 78) rfl ?_); refine goesL_ (some 47) rfl rfl Try.func78 (by kernel_rfl) rfl #[.slice A0_7 l0_7.length c0_7, .int .i64 x41_3] rfl (by (try simp only [List.map_toArray, List.map_cons, List.map_nil]); first | done | rfl | (simp only [List.length_drop, List.length_take]; rfl)) ?_; (with_reducible refine (dict_ends.calls k3 _ _ l0_7 x41_3 true _ ?side1 ?side2 A29.out).mono ?_); (case side1 => repeat (first | exact (Kd.C_below HR0_7.out HB.out) | (with_reducible refine Kd.C_alloc ?_ _) | (with_reducible refine Kd.C_drewN ?_ _) | (with_reducible refine Kd.C_drew ?_))); (case side2 => exact HC0_7.out); rintro e w' ⟨rfl, ⟨nd, rfl⟩⟩; refine ⟨_, rfl, ?_⟩))
                      go_roundg k3
                      case measure => have := HJ1.out; have := HK2.out; have := HK3.out; omega
                      case rel => exact ⟨(wrap64 (x41_3 + 1)), (by first | rfl | (simp; done) | (simp [*]; done)), H', ⟨by have := HJ1.out; have := HK2.out; have := HK3.out; omega⟩, ⟨by (with_reducible repeat (first | refine blk_drewN ?_ _ | refine blk_drew ?_ | refine blk_alloc ?_ _)); exact BK47001.out⟩, ⟨by repeat (first | (with_reducible first | exact HB.out | apply below_alloc | apply pw_below_drewN | apply below_drew1 | refine below_set ?_ GE47001.out) | exact HB.out)⟩⟩
                    · replace c30 := Bool.eq_false_iff.mpr c30
                      subst c30
                      have H1 : (some false) = some r := by rw [if_neg (show ¬ (false = true) by decide)] at H; exact H
                      clear H
                      have H := H1
                      clear H1
                      obtain rfl := Option.some.inj H
                      have hcz32_0 : wr.cell? ⟨gb47001, 0, none⟩ = some (.slice A0_0 l0_0.length c0_0) := (blk_cell BK47001.out 0).trans rfl
                      have hcz32_1 : wr.cell? ⟨gb47001, 1, none⟩ = some (.slice A0_1 l0_1.length c0_1) := (blk_cell BK47001.out 1).trans rfl
                      have hcz32_2 : wr.cell? ⟨gb47001, 2, none⟩ = some (.slice A0_2 l0_2.length c0_2) := (blk_cell BK47001.out 2).trans rfl
                      have hcz32_3 : wr.cell? ⟨gb47001, 3, none⟩ = some (.slice A0_3 l0_3.length c0_3) := (blk_cell BK47001.out 3).trans rfl
                      have hcz32_4 : wr.cell? ⟨gb47001, 4, none⟩ = some (.int .u32 a0_4) := (blk_cell BK47001.out 4).trans rfl
                      have hcz32_5 : wr.cell? ⟨gb47001, 5, none⟩ = some (.slice A0_5 l0_5.length c0_5) := (blk_cell BK47001.out 5).trans rfl
                      have hcz32_6 : wr.cell? ⟨gb47001, 6, none⟩ = some (.int .i64 a0_6) := (blk_cell BK47001.out 6).trans rfl
                      have hcz32_7 : wr.cell? ⟨gb47001, 7, none⟩ = some (.slice A0_7 l0_7.length c0_7) := (blk_cell BK47001.out 7).trans rfl
                      have hcz32_8 : wr.cell? ⟨gb47001, 8, none⟩ = some (.int .i64 a0_8) := (blk_cell BK47001.out 8).trans rfl
                      have hcz32_9 : wr.cell? ⟨gb47001, 9, none⟩ = some (.string a0_9) := (blk_cell BK47001.out 9).trans rfl
                      have hfz32_0 := blk_frozen BK47001.out 0
                      have hfz32_1 := blk_frozen BK47001.out 1
                      have hfz32_2 := blk_frozen BK47001.out 2
                      have hfz32_3 := blk_frozen BK47001.out 3
                      have hfz32_4 := blk_frozen BK47001.out 4
                      have hfz32_5 := blk_frozen BK47001.out 5
                      have hfz32_6 := blk_frozen BK47001.out 6
                      have hfz32_7 := blk_frozen BK47001.out 7
                      have hfz32_8 := blk_frozen BK47001.out 8
                      have hfz32_9 := blk_frozen BK47001.out 9
                      go_wp2_with (first | ((with_reducible refine gate_callee (f := 78) rfl ?_); refine goesL_ (some 47) rfl rfl Try.func78 (by kernel_rfl) rfl #[.slice A0_7 l0_7.length c0_7, .int .i64 x41_3] rfl (by (try simp only [List.map_toArray, List.map_cons, List.map_nil]); first | done | rfl | (simp only [List.length_drop, List.length_take]; rfl)) ?_; (with_reducible refine (dict_ends.calls k3 _ _ l0_7 x41_3 false _ ?side1 ?side2 A29.out).mono ?_); (case side1 => repeat (first | exact (Kd.C_below HR0_7.out HB.out) | (with_reducible refine Kd.C_alloc ?_ _) | (with_reducible refine Kd.C_drewN ?_ _) | (with_reducible refine Kd.C_drew ?_))); (case side2 => exact HC0_7.out); rintro e w' ⟨rfl, ⟨nd, rfl⟩⟩; refine ⟨_, rfl, ?_⟩))
                      go_ret
                      exact ⟨by first | rfl | (simp [errW_none, errW_some] <;> rfl) | (simp [*, errW_none, errW_some] <;> rfl), by repeat (first | (with_reducible first | exact HB.out | apply below_alloc | apply pw_below_drewN | apply below_drew1 | refine below_set ?_ GE47001.out) | exact HB.out)⟩
                  · rw [if_neg c28] at H
                    have c28b0 : decide (x41_3 < (l0_7.length : Int)) = false := decide_eq_false c28
                    clear c28
                    obtain rfl := Option.some.inj H
                    go_wp2
                    go_ret
                    exact ⟨by first | rfl | (simp [errW_none, errW_some] <;> rfl) | (simp [*, errW_none, errW_some] <;> rfl), by repeat (first | (with_reducible first | exact HB.out | apply below_alloc | apply pw_below_drewN | apply below_drew1 | refine below_set ?_ GE47001.out) | exact HB.out)⟩

end Go.Proofs.Ytfpkakedlapmkaa.Q
end
section
namespace Go.Proofs.Ytfpkakedlapmkaa.Q
open Go.RowKit Go.Proofs.YtfpkakedlapmkaaW.PrintWords Go.Proofs.YtfpkakedlapmkaaW.PrintLast Go.Proofs.YtfpkakedlapmkaaW.PrintMore
set_option linter.unusedVariables false
set_option linter.unusedSimpArgs false

attribute [local go_sem] max2_int min2_int max_two min_two max_three min_three max_four min_four
/-! ### tinderref07_Place: function 85 -/
def tinderref07_Place.l0 : Nat → ByteArray → Int → Int → Option (Int)
  | 0, _, _, _ => none
  | k + 1, x0, x1, x2 => if x1 < (x0.size : Int) then (if 0 ≤ x1 then (if (bt x0 x1) = x2 then (some x1) else (tinderref07_Place.l0 k x0 (wrap64 (x1 + 1)) x2)) else (none)) else (some x1)
def tinderref07_Place.f (k : Nat) (a0 : ByteArray) (a1 : Int) (a2 : Int) : Option (Int) := tinderref07_Place.l0 k a0 a1 a2

end Go.Proofs.Ytfpkakedlapmkaa.Q
end
section
namespace Go.Proofs.Ytfpkakedlapmkaa.Q
open Go.RowKit Go.Proofs.YtfpkakedlapmkaaW.PrintWords Go.Proofs.YtfpkakedlapmkaaW.PrintLast Go.Proofs.YtfpkakedlapmkaaW.PrintMore
set_option linter.unusedVariables false
set_option linter.unusedSimpArgs false

attribute [local go_sem] max2_int min2_int max_two min_two max_three min_three max_four min_four
/-! ### tinderref03_Same: function 66 -/
def tinderref03_Same.l0 : Nat → List Int → List Int → Int → Option (Bool)
  | 0, _, _, _ => none
  | k + 1, x0, x1, x5 => if x5 < (x0.length : Int) then (if 0 ≤ x5 then (if x5 < (x1.length : Int) then (if (rd x0 x5) = (rd x1 x5) then (tinderref03_Same.l0 k x0 x1 (wrap64 (x5 + 1))) else (some false)) else (none)) else (none)) else (some true)
def tinderref03_Same.f (k : Nat) (l0 : List Int) (l1 : List Int) : Option (Bool) := if (l0.length : Int) = (l1.length : Int) then (tinderref03_Same.l0 k l0 l1 0) else (some false)

end Go.Proofs.Ytfpkakedlapmkaa.Q
end
section
namespace Go.Proofs.Ytfpkakedlapmkaa.Q
open Go.RowKit Go.Proofs.YtfpkakedlapmkaaW.PrintWords Go.Proofs.YtfpkakedlapmkaaW.PrintLast Go.Proofs.YtfpkakedlapmkaaW.PrintMore
set_option linter.unusedVariables false
set_option linter.unusedSimpArgs false

attribute [local go_sem] max2_int min2_int max_two min_two max_three min_three max_four min_four
/-! ### tinderref09_SameInst: function 69 -/
def tinderref09_SameInst.f (k : Nat) (a0_0 : Int) (a0_1 : Int) (a0_2 : ByteArray) (l0_3 : List Int) (a1_0 : Int) (a1_1 : Int) (a1_2 : ByteArray) (l1_3 : List Int) : Option (Bool) := if a0_0 = a1_0 then (if a0_1 = a1_1 then (if a0_2.toList = a1_2.toList then ((tinderref03_Same.f k l0_3 l1_3).bind fun t70003 => (some t70003)) else (some false)) else (some false)) else (some false)

end Go.Proofs.Ytfpkakedlapmkaa.Q
end
section
namespace Go.Proofs.Ytfpkakedlapmkaa.Q
open Go.RowKit Go.Proofs.YtfpkakedlapmkaaW.PrintWords Go.Proofs.YtfpkakedlapmkaaW.PrintLast Go.Proofs.YtfpkakedlapmkaaW.PrintMore
set_option linter.unusedVariables false
set_option linter.unusedSimpArgs false

attribute [local go_sem] max2_int min2_int max_two min_two max_three min_three max_four min_four
/-! ### tinderref09_alive: function 51 -/
def tinderref09_alive.f (l0 : List (S82)) (a1 : Int) : Option (Bool) := if a1 ≥ 0 then (if a1 < (l0.length : Int) then (if 0 ≤ a1 then (some (decide (((rd_T82 l0 a1).f0) ≥ 0))) else (none)) else (some false)) else (some false)

end Go.Proofs.Ytfpkakedlapmkaa.Q
end
section
namespace Go.Proofs.Ytfpkakedlapmkaa.Q
open Go.RowKit Go.Proofs.YtfpkakedlapmkaaW.PrintWords Go.Proofs.YtfpkakedlapmkaaW.PrintLast Go.Proofs.YtfpkakedlapmkaaW.PrintMore
set_option linter.unusedVariables false
set_option linter.unusedSimpArgs false

attribute [local go_sem] max2_int min2_int max_two min_two max_three min_three max_four min_four
/-! ### tinderref09_instsFormed: function 50 -/
mutual
def tinderref09_instsFormed.l0 : Nat → List (S82) → List (S91) → Int → Option (Bool)
  | 0, _, _, _ => none
  | k + 1, x0, x1, x5 => if x5 < (x0.length : Int) then (if 0 ≤ x5 then (if ((rd_T82 x0 x5).f0) = (-1) then ((tinderref09_SameInst.f k ((rd_T82 x0 x5).f0) ((rd_T82 x0 x5).f1) ((rd_T82 x0 x5).f2) ((rd_T82 x0 x5).f3) (-1) (-1) (⟨#[]⟩ : ByteArray) ([] : List Int)).bind fun t51003 => (if t51003 = true then (tinderref09_instsFormed.l0 k x0 x1 (wrap64 (x5 + 1))) else (some false))) else (if ((rd_T82 x0 x5).f0) < 0 then (tinderref09_instsFormed.j1 k x0 x1 x5 true ((rd_T82 x0 x5).f0) ((rd_T82 x0 x5).f1) ((rd_T82 x0 x5).f2) ((rd_T82 x0 x5).f3)) else (if ((rd_T82 x0 x5).f0) ≥ (x1.length : Int) then (tinderref09_instsFormed.j1 k x0 x1 x5 true ((rd_T82 x0 x5).f0) ((rd_T82 x0 x5).f1) ((rd_T82 x0 x5).f2) ((rd_T82 x0 x5).f3)) else (if 0 ≤ ((rd_T82 x0 x5).f0) then (if ((rd_T82 x0 x5).f0) < (x1.length : Int) then (if (((rd_T82 x0 x5).f3).length : Int) = (((rd_T91 x1 ((rd_T82 x0 x5).f0)).f4).length : Int) then (if (((rd_T82 x0 x5).f2).size : Int) > 256 then (tinderref09_instsFormed.j1 k x0 x1 x5 true ((rd_T82 x0 x5).f0) ((rd_T82 x0 x5).f1) ((rd_T82 x0 x5).f2) ((rd_T82 x0 x5).f3)) else ((tinderref07_Place.f k ((rd_T82 x0 x5).f2) 0 47).bind fun t51005 => (tinderref09_instsFormed.j1 k x0 x1 x5 (decide (t51005 < (((rd_T82 x0 x5).f2).size : Int))) ((rd_T82 x0 x5).f0) ((rd_T82 x0 x5).f1) ((rd_T82 x0 x5).f2) ((rd_T82 x0 x5).f3)))) else (tinderref09_instsFormed.j1 k x0 x1 x5 true ((rd_T82 x0 x5).f0) ((rd_T82 x0 x5).f1) ((rd_T82 x0 x5).f2) ((rd_T82 x0 x5).f3))) else (none)) else (none))))) else (none)) else (tinderref09_instsFormed.l1 k x0 0)
def tinderref09_instsFormed.j1 : Nat → List (S82) → List (S91) → Int → Bool → Int → Int → ByteArray → List Int → Option (Bool)
  | 0, _, _, _, _, _, _, _, _ => none
  | k + 1, x0, x1, x5, x67, x51003000, x51003001, x51003002, x51003003 => if x67 = true then (some false) else (if x51003001 = (-1) then (tinderref09_instsFormed.l0 k x0 x1 (wrap64 (x5 + 1))) else ((tinderref09_alive.f x0 x51003001).bind fun t51006 => (if t51006 = true then (tinderref09_instsFormed.l0 k x0 x1 (wrap64 (x5 + 1))) else (some false))))
def tinderref09_instsFormed.l1 : Nat → List (S82) → Int → Option (Bool)
  | 0, _, _ => none
  | k + 1, x0, x7 => if x7 < (x0.length : Int) then (if 0 ≤ x7 then (tinderref09_instsFormed.l2 k x0 x7 ((rd_T82 x0 x7).f1) 0) else (none)) else (some true)
def tinderref09_instsFormed.l2 : Nat → List (S82) → Int → Int → Int → Option (Bool)
  | 0, _, _, _, _ => none
  | k + 1, x0, x7, x8, x9 => if x8 ≥ 0 then (if x9 > 16 then (some false) else (if 0 ≤ x8 then (if x8 < (x0.length : Int) then (tinderref09_instsFormed.l2 k x0 x7 ((rd_T82 x0 x8).f1) (wrap64 (x9 + 1))) else (none)) else (none))) else (tinderref09_instsFormed.l1 k x0 (wrap64 (x7 + 1)))
end
def tinderref09_instsFormed.f (k : Nat) (l0 : List (S82)) (l1 : List (S91)) : Option (Bool) := if (l0.length : Int) > 16 then (some false) else (tinderref09_instsFormed.l0 k l0 l1 0)
def tinderref09_instsFormed.T10 : Bool × List (List Nat × List Nat) := (true, [([], []), ([0], [0]), ([1], [1]), ([2], [2]), ([3], [3]), ([4, 3], [3, 4]), ([3], [3]), ([6, 3], [3, 6]), ([5, 7, 3], [3, 5, 7]), ([3, 8], [3, 8]), ([9, 3], [9]), ([10], [10]), ([11, 10], [10, 11]), ([12, 10], [10, 12]), ([10], [10]), ([10], [10]), ([15, 10], [10, 15]), ([14, 16, 10], [10, 14, 16]), ([17, 10], [10, 17]), ([18, 10], [10, 18]), ([19, 10], [10, 19]), ([13, 20, 10], [10, 13, 20]), ([10, 21], [10, 21]), ([22, 10], [22]), ([23], [23]), ([24, 23], [23, 24]), ([25, 23], [23, 25]), ([26, 23], [23, 26]), ([23, 27], [23, 27]), ([28, 23], [28]), ([29], [29]), ([30, 29], [29, 30]), ([31, 29, 29], [29, 31]), ([29], [29]), ([33, 29], [29, 33]), ([34, 29], [29, 34]), ([32, 35, 29], [29, 32, 35]), ([29, 36], [29, 36])])
def tinderref09_instsFormed.B10 : List Nat := [0, 1, 3, 7, 15, 31, 15, 79, 255, 511, 1023, 2047, 4095, 8191, 2047, 2047, 34815, 116735, 247807, 509951, 1034239, 2097151, 4194303, 8388607, 16777215, 33554431, 67108863, 134217727, 268435455, 536870911, 1073741823, 2147483647, 4294967295, 1073741823, 9663676415, 26843545599, 68719476735, 137438953471]

end Go.Proofs.Ytfpkakedlapmkaa.Q
end
section
set_option linter.unusedVariables false
set_option linter.unusedSimpArgs false
namespace Go.Proofs.Ytfpkakedlapmkaa.Q
open Go.RowKit Go.Proofs.YtfpkakedlapmkaaW.PrintWords Go.Proofs.YtfpkakedlapmkaaW.PrintLast Go.Proofs.YtfpkakedlapmkaaW.PrintMore
def seg (cur : List Value) (sz j : Nat) : List Value := (cur.drop (j * sz)).take sz
theorem seg_get (cur : List Value) (sz j t : Nat) (ht : t < sz) : (seg cur sz j)[t]? = cur[j * sz + t]? := by
  unfold seg
  rw [List.getElem?_take, if_pos ht, List.getElem?_drop]
theorem seg_set (cur : List Value) (sz i m j : Nat) (v : Value) (hm : m < sz) : seg (cur.set (i * sz + m) v) sz j = if j = i then (seg cur sz j).set m v else seg cur sz j := by
  have key : ∀ t, t < sz → (i * sz + m = j * sz + t ↔ j = i ∧ t = m) := by
    intro t ht
    refine ⟨fun h => ?_, fun ⟨h1, h2⟩ => by rw [h1, h2]⟩
    rcases Nat.lt_trichotomy i j with hij | hij | hij
    · have := Nat.mul_le_mul_right sz (show i + 1 ≤ j from hij)
      rw [Nat.add_mul, Nat.one_mul] at this
      omega
    · subst hij
      exact ⟨rfl, by omega⟩
    · have := Nat.mul_le_mul_right sz (show j + 1 ≤ i from hij)
      rw [Nat.add_mul, Nat.one_mul] at this
      omega
  apply List.ext_getElem?
  intro t
  by_cases ht : t < sz
  · rw [seg_get _ _ _ _ ht, List.getElem?_set]
    by_cases hij : j = i
    · rw [if_pos hij, List.getElem?_set, seg_get _ _ _ _ ht]
      by_cases htm : t = m
      · have hp := (key t ht).2 ⟨hij, htm⟩
        rw [if_pos hp, if_pos htm.symm]
        have hlen : (seg cur sz j).length = min sz (cur.length - j * sz) := by unfold seg; rw [List.length_take, List.length_drop]
        by_cases hb : i * sz + m < cur.length
        · rw [if_pos hb, if_pos (by rw [hlen]; omega)]
        · rw [if_neg hb, if_neg (by rw [hlen]; omega)]
      · rw [if_neg (fun h => htm ((key t ht).1 h).2), if_neg (fun h => htm h.symm)]
    · rw [if_neg hij, if_neg (fun h => hij ((key t ht).1 h).1), seg_get _ _ _ _ ht]
  · have h1 : ∀ c : List Value, (seg c sz j)[t]? = none := fun c => by unfold seg; rw [List.getElem?_take, if_neg ht]
    rw [h1]
    split
    · rw [List.getElem?_set]
      split
      · rw [if_neg (by unfold seg; rw [List.length_take]; omega)]
      · exact (h1 _).symm
    · exact (h1 _).symm
/-- The cells of what is read, element by element. -/
theorem C_raw {α : Type} {d : Kd α} {w : World} {A : Option Addr} {n : Nat} {xs : List α} (h : d.C w A n xs) :
    ∃ css : List (List Value), css.length = xs.length ∧ (Kd.raw d.sz).C w A n css ∧ ∀ (j : Nat) x c, xs[j]? = some x → css[j]? = some c → d.K w x c := by
  have h1 := h.1
  rcases Nat.eq_zero_or_pos n with hn | hn
  · have : xs = [] := List.eq_nil_of_length_eq_zero (by omega)
    subst this
    exact ⟨[], rfl, ⟨h1, h.2.1, fun hp => by omega⟩, fun j x c hx => by simp at hx⟩
  · obtain ⟨ad, rfl, _⟩ := h.2.2 hn
    obtain ⟨inner, hr, hc⟩ := ReadsRow.inner_ h
    have hat : ∀ (j : Nat) c, ((List.range xs.length).map fun j => seg inner d.sz j)[j]? = some c → j < xs.length ∧ c = seg inner d.sz j := by
      intro j c hj
      have hlt := (List.getElem?_eq_some_iff.1 hj).1
      rw [List.length_map, List.length_range] at hlt
      rw [List.getElem?_map, List.getElem?_range hlt] at hj
      exact ⟨hlt, (Option.some.inj hj).symm⟩
    have hK : ∀ (j : Nat) x, xs[j]? = some x → d.K w x (seg inner d.sz j) := fun j x hx => hr.2 j x hx
    refine ⟨(List.range xs.length).map fun j => seg inner d.sz j, by simp, ⟨by simp [h1], h.2.1, fun _ => ⟨ad, rfl, fun j c hj => ?_⟩⟩, fun j x c hx hj => ?_⟩
    · obtain ⟨hlt, rfl⟩ := hat j c hj
      have hk := hK j _ (List.getElem?_eq_getElem hlt)
      refine ⟨_, d.K_len hk, ⟨rfl, d.K_len hk, d.K_one hk⟩, fun i u hu => ?_⟩
      have hi : i < d.sz := by
        have := (List.getElem?_eq_some_iff.1 hu).1
        rw [d.K_len hk] at this
        exact this
      rw [seg_get _ _ _ _ hi] at hu
      exact hc _ _ hu
    · obtain ⟨hlt, rfl⟩ := hat j c hj
      exact hK j x hx
/-- A row of one's own, of type e, at block g: the elements ahead of i lead to rows of one's own, the others are w's. -/
def PR {α : Type} (d : Kd α) (e : TypeId) (w W : World) (base g n cap i : Nat) (xs : List α) (cur : Array Value) : Prop :=
  W.heap[g]? = some (.cells cur e (0, 0)) ∧ base ≤ g ∧ xs.length = n ∧ n ≤ cap ∧ cap ≤ maxLen ∧ cur.size = cap * d.sz ∧ ∀ (j : Nat) x, xs[j]? = some x → if j < i then d.M W base (fun k => k ≠ g) x (seg cur.toList d.sz j) else d.K w x (seg cur.toList d.sz j)
section
variable {α : Type} {d : Kd α} {e : TypeId} {w W W' : World} {base g n cap i : Nat} {xs : List α} {cur : Array Value} {ok : Nat → Prop}
theorem PR_start {css : List (List Value)} (h : (Kd.raw d.sz).R e W base ok (.slice (some ⟨g, 0, none⟩) n cap) css) (hl : css.length = xs.length) (hK : ∀ (j : Nat) x c, xs[j]? = some x → css[j]? = some c → d.K w x c) : ∃ cur, PR d e w W base g n cap 0 xs cur := by
  obtain ⟨hn, -, -⟩ := Kd.R_reads' h
  obtain ⟨hok, inner, ⟨hlen, ho⟩, hr⟩ := h
  rcases ho with ⟨hv, _⟩ | ⟨g', cap', cur, hv, hb, hh, hic, hcm, hcs, htk⟩
  · cases hv
  injection hv with ha _ hc
  injection ha with ha
  injection ha with hg'
  subst hg'; subst hc
  have hrs : (Kd.raw d.sz).sz = d.sz := rfl
  rw [hrs] at hcs htk hlen
  refine ⟨cur, hh, hb, by omega, by omega, hcm, hcs, fun j x hx => ?_⟩
  rw [if_neg (by omega)]
  have hj : j < css.length := by
    have := (List.getElem?_eq_some_iff.1 hx).1
    omega
  have h1 := hr.2 j _ (List.getElem?_eq_getElem hj)
  have h2 : (inner.drop (j * d.sz)).take d.sz = css[j] := h1.1
  have h3 := hK j x _ hx (List.getElem?_eq_getElem hj)
  have h4 : seg cur.toList d.sz j = css[j] := by
    rw [← h2, ← htk]
    unfold seg
    rw [List.drop_take, List.take_take]
    congr 1
    have := Nat.mul_le_mul_right d.sz (show j + 1 ≤ css.length from hj)
    rw [Nat.add_mul, Nat.one_mul] at this
    omega
  rw [h4]
  exact h3
theorem PR_end (h : PR d e w W base g n cap n xs cur) : d.R e W base (fun _ => True) (.slice (some ⟨g, 0, none⟩) n cap) xs := by
  obtain ⟨hh, hb, hl, hnc, hcm, hcs, hj⟩ := h
  subst hl
  have hlen : (cur.toList.take (xs.length * d.sz)).length = xs.length * d.sz := by
    rw [List.length_take, show cur.toList.length = cap * d.sz from Array.length_toList.trans hcs]
    exact Nat.min_eq_left (Nat.mul_le_mul_right _ hnc)
  refine ⟨fun _ _ => trivial, cur.toList.take (xs.length * d.sz), ⟨hlen, .inr ⟨g, cap, cur, rfl, hb, hh, hnc, hcm, hcs, rfl⟩⟩, hlen, fun j p hp => ?_⟩
  have hlt := (List.getElem?_eq_some_iff.1 hp).1
  have h1 := hj j p hp
  rw [if_pos hlt] at h1
  have h2 : ((cur.toList.take (xs.length * d.sz)).drop (j * d.sz)).take d.sz = seg cur.toList d.sz j := by
    unfold seg
    rw [List.drop_take, List.take_take]
    congr 1
    have := Nat.mul_le_mul_right d.sz (show j + 1 ≤ xs.length from hlt)
    rw [Nat.add_mul, Nat.one_mul] at this
    omega
  rw [h2]
  exact d.M_mono (fun k hk => ⟨trivial, fun he => hk (by simpa [Value.ownBlock] using he)⟩) h1
theorem PR_put (h : PR d e w W base g n cap i xs cur) {cur' : Array Value} (hh' : W'.heap[g]? = some (.cells cur' e (0, 0))) (hsz : cur'.size = cur.size) (hseg : ∀ j, j ≠ i → seg cur'.toList d.sz j = seg cur.toList d.sz j)
    (hM : ∀ x, xs[i]? = some x → d.M W' base (fun k => k ≠ g) x (seg cur'.toList d.sz i)) (hm : ∀ k, k ≠ g → k < W.heap.size → W'.heap[k]? = W.heap[k]?) : PR d e w W' base g n cap (i + 1) xs cur' := by
  obtain ⟨hh, hb, hl, hnc, hcm, hcs, hj⟩ := h
  refine ⟨hh', hb, hl, hnc, hcm, by rw [hsz]; exact hcs, fun j x hx => ?_⟩
  have h1 := hj j x hx
  by_cases hji : j = i
  · subst hji
    rw [if_pos (by omega)]
    exact hM x hx
  · rw [hseg j hji]
    by_cases hlt : j < i
    · rw [if_pos hlt] at h1
      rw [if_pos (by omega)]
      exact Kd.M_step h1 (fun k hk hks => hm k hk hks)
    · rw [if_neg hlt] at h1
      rw [if_neg (by omega)]
      exact h1
theorem PR_cell (h : PR d e w W base g n cap i xs cur) (hi : i < n) : ∃ x c, xs[i]? = some x ∧ c = seg cur.toList d.sz i ∧ d.K w x c ∧ ∀ m u, c[m]? = some u → W.cell? ⟨g, i * d.sz + m, none⟩ = some u := by
  obtain ⟨hh, hb, hl, hnc, hcm, hcs, hj⟩ := h
  have hx := List.getElem?_eq_getElem (show i < xs.length by omega)
  have h1 := hj i _ hx
  rw [if_neg (Nat.lt_irrefl i)] at h1
  refine ⟨_, _, hx, rfl, h1, fun m u hu => ?_⟩
  have hm : m < d.sz := by
    have := (List.getElem?_eq_some_iff.1 hu).1
    rw [d.K_len h1] at this
    exact this
  rw [seg_get _ _ _ _ hm] at hu
  rw [blk_cell hh, ← Array.getElem?_toList]
  exact hu
end
end Go.Proofs.Ytfpkakedlapmkaa.Q
end
section
set_option linter.unusedSimpArgs false
set_option linter.unusedVariables false
namespace Go.Proofs.Ytfpkakedlapmkaa.Q
open Go.RowKit Go.Proofs.YtfpkakedlapmkaaW.PrintWords Go.Proofs.YtfpkakedlapmkaaW.PrintLast Go.Proofs.YtfpkakedlapmkaaW.PrintMore
attribute [local go_sem] max2_int min2_int max_two min_two max_three min_three max_four min_four
set_option maxHeartbeats 4000000 in
set_option maxRecDepth 100000 in
theorem cloneNode_calls (A0 : Option Addr) (c0 : Nat) (l0 : List (List Value)) (w : World) (hr0 : Kd.C (Kd.raw 5) w A0 l0.length l0) (hl : l0.length * 96 < 140737488355328) :
    Calls Try.prog 86 #[.slice A0 l0.length c0] w fun e w' => ∃ v0_ : Value, e = .returned (v0_) ∧ Kd.R (Kd.raw 5) 91 w' w.heap.size (fun _ => True) v0_ l0 ∧ Below w.heap.size w w' := by
  have q : ∀ (w : World) (a : Option Addr) (n c n' c' : Nat), (binOp .eql 29 (.slice a n c) (.slice none n' c')).run Try.prog w = .ok (.bool a.isNone) w := fun w a n c n' c' => Lib.run_eql_slice_nil w _ _ a n c n' c' Try.underlying29
  cases A0 with
  | none =>
    obtain rfl := C_nil_eq hr0
    go_enter Try.func86, Try.ntmps86
    go_wp2
    go_ret
    exact ⟨_, rfl, Kd.R_nil _ _ _ _ _, Below.refl _ _⟩
  | some ad =>
    have HR := Aside0.mk hr0
    have HL := Aside0.mk hl
    clear hr0 hl
    go_enter Try.func86, Try.ntmps86
    go_wp2_with (at_builtin; refine Kd.R_append_rows (Kd.raw 5) (w0 := w) w.heap.size rfl (.tmp 5) (.tmp 6) 29 91 (.agg #[(.string ⟨#[]⟩), (.slice none 0 0), (.int .i64 0), (.slice none 0 0), (.slice none 0 0)]) 96 rfl Try.underlying29 info91 rfl (by decide) (by omega) (.slice (some ⟨w.heap.size, 0, none⟩) 0 0) ([] : List (List Value)) l0 _ _ _ (fun _ => True) (fun _ => False) rfl rfl ?aO ?aR (fun _ _ h => h) (fun _ h => h.elim) ?aF ?aB ?aS ?aL ?_; (case aR => exact Kd.C_alloc HR.out _); (case aB => exact (below_alloc (Below.refl _ _) _)); (case aF => exact (fun _ _ => trivial)); (case aO => exact R_empty _ _ _ _ (Nat.le_refl _)); (case aS => simp); (case aL => have := HL.out; simp only [List.length_nil]; omega); intro v1 w1 ho hb hg hat; have HO := Aside0.mk ho; have HB := Aside0.mk hb; clear ho hb hg hat)
    go_ret
    exact ⟨_, rfl, HO.out, HB.out⟩
set_option maxHeartbeats 4000000 in
set_option maxRecDepth 100000 in
theorem cloneProp_calls (A0 : Option Addr) (c0 : Nat) (l0 : List (List Value)) (w : World) (hr0 : Kd.C (Kd.raw 2) w A0 l0.length l0) (hl : l0.length * 40 < 140737488355328) :
    Calls Try.prog 87 #[.slice A0 l0.length c0] w fun e w' => ∃ v0_ : Value, e = .returned (v0_) ∧ Kd.R (Kd.raw 2) 106 w' w.heap.size (fun _ => True) v0_ l0 ∧ Below w.heap.size w w' := by
  have q : ∀ (w : World) (a : Option Addr) (n c n' c' : Nat), (binOp .eql 89 (.slice a n c) (.slice none n' c')).run Try.prog w = .ok (.bool a.isNone) w := fun w a n c n' c' => Lib.run_eql_slice_nil w _ _ a n c n' c' Try.underlying89
  cases A0 with
  | none =>
    obtain rfl := C_nil_eq hr0
    go_enter Try.func87, Try.ntmps87
    go_wp2
    go_ret
    exact ⟨_, rfl, Kd.R_nil _ _ _ _ _, Below.refl _ _⟩
  | some ad =>
    have HR := Aside0.mk hr0
    have HL := Aside0.mk hl
    clear hr0 hl
    go_enter Try.func87, Try.ntmps87
    go_wp2_with (at_builtin; refine Kd.R_append_rows (Kd.raw 2) (w0 := w) w.heap.size rfl (.tmp 5) (.tmp 6) 89 106 (.agg #[(.string ⟨#[]⟩), (.slice none 0 0)]) 40 rfl Try.underlying89 info106 rfl (by decide) (by omega) (.slice (some ⟨w.heap.size, 0, none⟩) 0 0) ([] : List (List Value)) l0 _ _ _ (fun _ => True) (fun _ => False) rfl rfl ?aO ?aR (fun _ _ h => h) (fun _ h => h.elim) ?aF ?aB ?aS ?aL ?_; (case aR => exact Kd.C_alloc HR.out _); (case aB => exact (below_alloc (Below.refl _ _) _)); (case aF => exact (fun _ _ => trivial)); (case aO => exact R_empty _ _ _ _ (Nat.le_refl _)); (case aS => simp); (case aL => have := HL.out; simp only [List.length_nil]; omega); intro v1 w1 ho hb hg hat; have HO := Aside0.mk ho; have HB := Aside0.mk hb; clear ho hb hg hat)
    go_ret
    exact ⟨_, rfl, HO.out, HB.out⟩
set_option maxHeartbeats 4000000 in
set_option maxRecDepth 100000 in
theorem cloneU32_calls (A0 : Option Addr) (c0 : Nat) (l0 : List Int) (w : World) (hr0 : Kd.C (Kd.int .u32) w A0 l0.length l0) (hl : l0.length * 4 < 140737488355328) :
    Calls Try.prog 54 #[.slice A0 l0.length c0] w fun e w' => ∃ v0_ : Value, e = .returned (v0_) ∧ Kd.R (Kd.int .u32) 28 w' w.heap.size (fun _ => True) v0_ l0 ∧ Below w.heap.size w w' := by
  have q : ∀ (w : World) (a : Option Addr) (n c n' c' : Nat), (binOp .eql 24 (.slice a n c) (.slice none n' c')).run Try.prog w = .ok (.bool a.isNone) w := fun w a n c n' c' => Lib.run_eql_slice_nil w _ _ a n c n' c' Try.underlying24
  cases A0 with
  | none =>
    obtain rfl := C_nil_eq hr0
    go_enter Try.func54, Try.ntmps54
    go_wp2
    go_ret
    exact ⟨_, rfl, Kd.R_nil _ _ _ _ _, Below.refl _ _⟩
  | some ad =>
    have HR := Aside0.mk hr0
    have HL := Aside0.mk hl
    clear hr0 hl
    go_enter Try.func54, Try.ntmps54
    go_wp2_with (at_builtin; refine Kd.R_append_rows (Kd.int .u32) (w0 := w) w.heap.size rfl (.tmp 5) (.tmp 6) 24 28 (.int .u32 0) 4 rfl Try.underlying24 info28 rfl (by decide) (by omega) (.slice (some ⟨w.heap.size, 0, none⟩) 0 0) ([] : List Int) l0 _ _ _ (fun _ => True) (fun _ => False) rfl rfl ?aO ?aR (fun _ _ h => h) (fun _ h => h.elim) ?aF ?aB ?aS ?aL ?_; (case aR => exact Kd.C_alloc HR.out _); (case aB => exact (below_alloc (Below.refl _ _) _)); (case aF => exact (fun _ _ => trivial)); (case aO => exact R_empty _ _ _ _ (Nat.le_refl _)); (case aS => simp); (case aL => have := HL.out; simp only [List.length_nil]; omega); intro v1 w1 ho hb hg hat; have HO := Aside0.mk ho; have HB := Aside0.mk hb; clear ho hb hg hat)
    go_ret
    exact ⟨_, rfl, HO.out, HB.out⟩
set_option maxHeartbeats 4000000 in
set_option maxRecDepth 100000 in
theorem cloneByte_calls (A0 : Option Addr) (c0 : Nat) (l0 : List Int) (w : World) (hr0 : Kd.C (Kd.int .u8) w A0 l0.length l0) (hl : l0.length * 1 < 140737488355328) :
    Calls Try.prog 55 #[.slice A0 l0.length c0] w fun e w' => ∃ v0_ : Value, e = .returned (v0_) ∧ Kd.R (Kd.int .u8) 5 w' w.heap.size (fun _ => True) v0_ l0 ∧ Below w.heap.size w w' := by
  have q : ∀ (w : World) (a : Option Addr) (n c n' c' : Nat), (binOp .eql 25 (.slice a n c) (.slice none n' c')).run Try.prog w = .ok (.bool a.isNone) w := fun w a n c n' c' => Lib.run_eql_slice_nil w _ _ a n c n' c' Try.underlying25
  cases A0 with
  | none =>
    obtain rfl := C_nil_eq hr0
    go_enter Try.func55, Try.ntmps55
    go_wp2
    go_ret
    exact ⟨_, rfl, Kd.R_nil _ _ _ _ _, Below.refl _ _⟩
  | some ad =>
    have HR := Aside0.mk hr0
    have HL := Aside0.mk hl
    clear hr0 hl
    go_enter Try.func55, Try.ntmps55
    go_wp2_with (at_builtin; refine Kd.R_append_rows (Kd.int .u8) (w0 := w) w.heap.size rfl (.tmp 5) (.tmp 6) 25 5 (.int .u8 0) 1 rfl Try.underlying25 info5 rfl (by decide) (by omega) (.slice (some ⟨w.heap.size, 0, none⟩) 0 0) ([] : List Int) l0 _ _ _ (fun _ => True) (fun _ => False) rfl rfl ?aO ?aR (fun _ _ h => h) (fun _ h => h.elim) ?aF ?aB ?aS ?aL ?_; (case aR => exact Kd.C_alloc HR.out _); (case aB => exact (below_alloc (Below.refl _ _) _)); (case aF => exact (fun _ _ => trivial)); (case aO => exact R_empty _ _ _ _ (Nat.le_refl _)); (case aS => simp); (case aL => have := HL.out; simp only [List.length_nil]; omega); intro v1 w1 ho hb hg hat; have HO := Aside0.mk ho; have HB := Aside0.mk hb; clear ho hb hg hat)
    go_ret
    exact ⟨_, rfl, HO.out, HB.out⟩
end Go.Proofs.Ytfpkakedlapmkaa.Q
end
section
set_option linter.unusedSimpArgs false
set_option linter.unusedVariables false
namespace Go.Proofs.Ytfpkakedlapmkaa.Q
open Go.RowKit Go.Proofs.YtfpkakedlapmkaaW.PrintWords Go.Proofs.YtfpkakedlapmkaaW.PrintLast Go.Proofs.YtfpkakedlapmkaaW.PrintMore
attribute [local go_sem] max2_int min2_int max_two min_two max_three min_three max_four min_four
theorem put_row {W : World} {g t o : Nat} {cur : Array Value} (hh : W.heap[g]? = some (.cells cur t (0, 0))) (v : Value) (ho : o < cur.size) : ∃ cur', (W.setCell ⟨g, o, none⟩ v).heap[g]? = some (.cells cur' t (0, 0)) ∧ cur'.size = cur.size ∧ cur'.toList = cur.toList.set o v ∧ W.grownBy (W.setCell ⟨g, o, none⟩ v) (some g) := by
  obtain ⟨cur', h1, h2, h3⟩ := setCells_row [v] o W cur hh (by show o + 1 ≤ _; omega)
  obtain ⟨q1, q2, q3, q4⟩ := setCells_same g [v] o W
  refine ⟨cur', h1, h2, ?_, ⟨q1, q2, q3, by have : (W.setCells g o [v]).heap.size = W.heap.size := q4; exact Nat.le_of_eq this.symm, fun k _ hk => setCells_far [v] o k (fun e => hk (by rw [e]))⟩⟩
  rw [h3, List.set_eq_take_append_cons_drop, if_pos (by rw [Array.length_toList]; exact ho)]
  show cur.toList.take o ++ [v] ++ cur.toList.drop (o + 1) = _
  rw [List.append_assoc]
  rfl
theorem put_other {W W' : World} {g t o p : Nat} {cur cur' : Array Value} {v u : Value} (hh : W.heap[g]? = some (.cells cur t (0, 0))) (hh' : W'.heap[g]? = some (.cells cur' t (0, 0))) (ht : cur'.toList = cur.toList.set o v) (hp : o ≠ p) (hu : W.cell? ⟨g, p, none⟩ = some u) : W'.cell? ⟨g, p, none⟩ = some u := by
  rw [blk_cell hh', ← Array.getElem?_toList, ht, List.getElem?_set_ne hp, Array.getElem?_toList, ← blk_cell hh]
  exact hu
theorem cells3_step {p1 p4 p3 : Addr} {a b c : Value} {w W w2 : World} (h : (W.cell? p1 = some a ∧ W.cell? p4 = some b ∧ W.cell? p3 = some c) ∧ Below w.heap.size w W) (hb : Below W.heap.size W w2) : (w2.cell? p1 = some a ∧ w2.cell? p4 = some b ∧ w2.cell? p3 = some c) ∧ Below w.heap.size w w2 :=
  ⟨⟨(hb.cell (World.block_lt_of_cell? _ _ h.1.1)).trans h.1.1, (hb.cell (World.block_lt_of_cell? _ _ h.1.2.1)).trans h.1.2.1, (hb.cell (World.block_lt_of_cell? _ _ h.1.2.2)).trans h.1.2.2⟩, below_step h.2 hb⟩
def G106 (x : S106) : Prop := x.f1.length * 1 < 140737488355328
def G91 (x : S91) : Prop := x.f1.length * 4 < 140737488355328 ∧ x.f4.length * 4 < 140737488355328 ∧ x.f3.length * 40 < 140737488355328 ∧ ∀ p ∈ x.f3, G106 p
theorem cloneNodes (A : Option Addr) (c : Nat) (l : List S91) (w : World) (hC : Kd.C k91 w A l.length l) (hl : l.length * 96 < 140737488355328) :
    ∃ css : List (List Value), css.length = l.length ∧ (∀ (j : Nat) x c, l[j]? = some x → css[j]? = some c → k91.K w x c) ∧ Calls Try.prog 86 #[.slice A l.length c] w fun e w' => ∃ v0_ : Value, e = .returned (v0_) ∧ Kd.R (Kd.raw 5) 91 w' w.heap.size (fun _ => True) v0_ css ∧ Below w.heap.size w w' := by
  obtain ⟨css, h1, h2, h3⟩ := C_raw hC
  refine ⟨css, h1, h3, ?_⟩
  have h := cloneNode_calls A c css w (by rw [h1]; exact h2) (by omega)
  rwa [h1] at h
theorem cloneProps (A : Option Addr) (c : Nat) (l : List S106) (w : World) (hC : Kd.C k106 w A l.length l) (hl : l.length * 40 < 140737488355328) :
    ∃ css : List (List Value), css.length = l.length ∧ (∀ (j : Nat) x c, l[j]? = some x → css[j]? = some c → k106.K w x c) ∧ ∀ W : World, Below w.heap.size w W → Calls Try.prog 87 #[.slice A l.length c] W fun e w' => ∃ v0_ : Value, e = .returned (v0_) ∧ Kd.R (Kd.raw 2) 106 w' W.heap.size (fun _ => True) v0_ css ∧ Below W.heap.size W w' := by
  obtain ⟨css, h1, h2, h3⟩ := C_raw hC
  refine ⟨css, h1, h3, fun W hb => ?_⟩
  have h := cloneProp_calls A c css W (by rw [h1]; exact Kd.C_below h2 hb) (by omega)
  rwa [h1] at h
theorem R_raw_nil {α : Type} {d : Kd α} {sz e base : Nat} {W : World} {ok : Nat → Prop} {v : Value} (h : (Kd.raw sz).R e W base ok v []) (hs : sz = d.sz) : d.R e W base ok v [] := by
  subst hs
  obtain ⟨h0, inner, ho, hr⟩ := h
  exact ⟨h0, inner, ho, hr.1, fun j p hj => by simp at hj⟩
theorem R_ge {α : Type} {d : Kd α} {e b g : Nat} {W : World} {ok : Nat → Prop} {v : Value} {xs : List α} (h : d.R e W b ok v xs) (hg : g < b) : d.R e W b (fun k => k ≠ g) v xs :=
  Kd.R_mono (Kd.R_bound h) (fun k hk => by have := hk.2.1; omega)
theorem R_and {α : Type} {d : Kd α} {e b g p : Nat} {W : World} {v : Value} {xs : List α} (h : d.R e W b (fun k => k ≠ g) v xs) {t : Nat} {cells : Array Value} (hb : W.heap[p]? = some (.cells cells t (0, 0))) (ht : ∀ q, q ∈ e :: d.E → q ≠ t) : d.R e W b (fun k => k ≠ g ∧ k ≠ p) v xs := Kd.R_types h hb ht
/-- All blocks but g stand as they stood. -/
def Kp (g : Nat) (a b : World) : Prop := a.heap.size ≤ b.heap.size ∧ ∀ k, k ≠ g → k < a.heap.size → b.heap[k]? = a.heap[k]?
theorem Kp_below {g : Nat} {a b c : World} (h : Kp g a b) (hb : Below b.heap.size b c) : Kp g a c := ⟨Nat.le_trans h.1 hb.size, fun k hk hl => (hb.block k (Nat.lt_of_lt_of_le hl h.1)).trans (h.2 k hk hl)⟩
theorem Kp_grown {g p : Nat} {a b c : World} (h : Kp g a b) (hg : b.grownBy c (some p)) (hp : p = g ∨ a.heap.size ≤ p) : Kp g a c :=
  ⟨Nat.le_trans h.1 hg.size, fun k hk hl => (hg.block k (Nat.lt_of_lt_of_le hl h.1) (fun e => by injection e with e; omega)).trans (h.2 k hk hl)⟩
theorem Kp_start {g : Nat} {a b : World} (hb : Below a.heap.size a b) : Kp g a b := ⟨hb.size, fun k _ hl => hb.block k hl⟩
theorem cells2_step {p1 p2 : Addr} {a b : Value} {w W w2 : World} (h : (W.cell? p1 = some a ∧ W.cell? p2 = some b) ∧ Below w.heap.size w W) (hb : Below W.heap.size W w2) : (w2.cell? p1 = some a ∧ w2.cell? p2 = some b) ∧ Below w.heap.size w w2 :=
  ⟨⟨(hb.cell (World.block_lt_of_cell? _ _ h.1.1)).trans h.1.1, (hb.cell (World.block_lt_of_cell? _ _ h.1.2)).trans h.1.2⟩, below_step h.2 hb⟩
theorem seg2 (cur : List Value) (i : Nat) (a b v : Value) (h : seg cur 2 i = [a, b]) : seg (cur.set (i * 2 + 1) v) 2 i = [a, v] := by
  rw [seg_set _ 2 i 1 i _ (by decide), if_pos rfl, h]
  rfl
theorem seg5 (cur : List Value) (i : Nat) (a b c d e v1 v4 v3 : Value) (h : seg cur 5 i = [a, b, c, d, e]) : seg (((cur.set (i * 5 + 1) v1).set (i * 5 + 4) v4).set (i * 5 + 3) v3) 5 i = [a, v1, c, v3, v4] := by
  rw [seg_set _ 5 i 3 i _ (by decide), if_pos rfl, seg_set _ 5 i 4 i _ (by decide), if_pos rfl, seg_set _ 5 i 1 i _ (by decide), if_pos rfl, h]
  rfl
theorem seg5_ne (cur : List Value) (i j : Nat) (v1 v4 v3 : Value) (h : j ≠ i) : seg (((cur.set (i * 5 + 1) v1).set (i * 5 + 4) v4).set (i * 5 + 3) v3) 5 j = seg cur 5 j := by
  rw [seg_set _ 5 i 3 j _ (by decide), if_neg h, seg_set _ 5 i 4 j _ (by decide), if_neg h, seg_set _ 5 i 1 j _ (by decide), if_neg h]
set_option maxHeartbeats 16000000 in
set_option maxRecDepth 100000 in
theorem treeCopy_calls (A : Option Addr) (c : Nat) (l : List S91) (w : World) (hC : Kd.C k91 w A l.length l) (hc : l.length ≤ c) (hl : l.length * 96 < 140737488355328) (hG : ∀ x ∈ l, G91 x) :
    Calls Try.prog 59 #[.slice A l.length c] w fun e w' => ∃ v0_ : Value, e = .returned v0_ ∧ Kd.R k91 91 w' w.heap.size (fun _ => True) v0_ l ∧ Below w.heap.size w w' := by
  have hu91 := Try.underlying91
  have hu106 := Try.underlying106
  have hm := Kd.C_max hC
  have mixed : Try.prog.follows Departure.mixedOrders = true := by kernel_rfl
  obtain ⟨css, hcl, hck, hcall⟩ := cloneNodes A c l w hC hl
  have HCL := Aside0.mk hcall
  have HL := Aside0.mk hl
  have HGG := Aside0.mk hG
  have HC := Aside0.mk hC
  have HCK := Aside0.mk hck
  have HCS := Aside0.mk hcl
  by_cases hnil : l.length = 0
  · have e1 : l = [] := List.eq_nil_of_length_eq_zero hnil
    subst e1
    have e2 : css = [] := List.eq_nil_of_length_eq_zero (by simpa using hcl)
    subst e2
    clear hC hc hl hG hcl hck hcall hm hnil
    go_enter Try.func59, Try.ntmps59
    go_wp2_with (go_at_call 86; refine HCL.out.mono ?_; rintro e w1 ⟨v, rfl, hR, hb⟩; obtain ⟨A1, c1, rfl⟩ := Kd.R_slice hR; have HR := Aside0.mk (R_raw_nil (d := k91) hR rfl); have HB := Aside0.mk hb; clear hR hb)
    go_loopg [10] 0 (fun kq v10 w' => v10 = .int .i64 0 ∧ kq = 0 ∧ w' = w1)
    case atStart => exact ⟨rfl, rfl, rfl⟩
    case round =>
      obtain ⟨rfl, rfl, rfl⟩ := hrel
      go_wp2
      go_ret
      exact ⟨_, rfl, HR.out, HB.out⟩
  · have HN := Aside0.mk hnil
    clear hC hc hl hG hcl hck hcall hnil
    go_enter Try.func59, Try.ntmps59
    go_wp2_with (go_at_call 86; refine HCL.out.mono ?_; rintro e w1 ⟨v, rfl, hR, hb⟩; obtain ⟨A1, cap, rfl⟩ := Kd.R_slice hR; rw [HCS.out] at hR ⊢; have HR := Aside0.mk hR; have HB1 := Aside0.mk hb; clear hR hb)
    obtain ⟨g, rfl⟩ : ∃ g, A1 = some ⟨g, 0, none⟩ := by
      cases A1 with
      | none =>
        have h := (Kd.R_reads' HR.out).2.2
        exact absurd (C_nil_eq h) (fun e => HN.out (by rw [← HCS.out, e]; rfl))
      | some ad =>
        obtain ⟨g, rfl⟩ := Kd.R_head HR.out
        exact ⟨g, rfl⟩
    obtain ⟨cur0, hP0⟩ := PR_start (d := k91) (xs := l) HR.out HCS.out HCK.out
    go_loopg [10] l.length (fun kq v10 w' => ∃ i : Nat, v10 = .int .i64 i ∧ Aside0 (i + kq = l.length) ∧ Aside0 (∃ cur, PR k91 91 w w' w.heap.size g l.length cap i l cur) ∧ Aside0 (Below w.heap.size w w'))
    case atStart => exact ⟨0, rfl, ⟨by omega⟩, ⟨cur0, hP0⟩, HB1⟩
    case round =>
      obtain ⟨i, rfl, HI, HP, HB⟩ := hrel
      rename World => wa
      clear hP0
      cases gk with
      | zero =>
        have hlt : decide ((i : Int) < (l.length : Int)) = false := decide_eq_false (by have := HI.out; omega)
        have hltN : decide (i < l.length) = false := decide_eq_false (by have := HI.out; omega)
        go_wp2
        go_ret
        obtain ⟨cur, hp⟩ := HP.out
        have hi := HI.out
        rw [show i = l.length by omega] at hp
        exact ⟨_, rfl, PR_end hp, HB.out⟩
      | succ k1 =>
        have hi := HI.out
        have hlt : decide ((i : Int) < (l.length : Int)) = true := decide_eq_true (by omega)
        have hltN : decide (i < l.length) = true := decide_eq_true (by omega)
        have p1 : (0 ≤ (i : Int)) = True := eq_true (by omega)
        have p2 : ((i : Int) < (l.length : Int)) = True := eq_true (by omega)
        have hwr : IntKind.i64.wrap ((i : Int) + 1) = ((i + 1 : Nat) : Int) := (i64_w _).trans (by unfold wrap64; have := HL.out; omega)
        have hwr2 : wrap64 ((i : Int) + 1) = ((i + 1 : Nat) : Int) := by unfold wrap64; have := HL.out; omega
        obtain ⟨cur, hp⟩ := HP.out
        obtain ⟨x, cs, hx, hseg, hK, hcell⟩ := PR_cell hp (by omega)
        obtain ⟨A1, c1, A3, c3, A4, c4, rfl, hl1, hg1, hl3, hg3, hl4, hg4⟩ := k91_open hK
        have hy1 := hcell 1 _ rfl
        have hy3 := hcell 3 _ rfl
        have hy4 := hcell 4 _ rfl
        have hgx := HGG.out x (List.mem_of_getElem? hx)
        have HX := Aside0.mk hx
        have HSG := Aside0.mk hseg
        have HPP := Aside0.mk hp
        have HG1 := Aside0.mk hgx.1
        have HG4 := Aside0.mk hgx.2.1
        have HG3 := Aside0.mk hgx.2.2.2
        have HG3L := Aside0.mk hgx.2.2.1
        have HC1 := Aside0.mk (fun (W : World) (hb : Below wa.heap.size wa W) => Kd.C_below (Kd.C_below hg1 HB.out) hb)
        have HC4 := Aside0.mk (fun (W : World) (hb : Below wa.heap.size wa W) => Kd.C_below (Kd.C_below hg4 HB.out) hb)
        obtain ⟨cs3, hcl3, hck3, hcall3⟩ := cloneProps A3 c3 x.f3 w hg3 hgx.2.2.1
        have HCP := Aside0.mk (fun (W : World) (hb : Below wa.heap.size wa W) => hcall3 W (below_step HB.out hb))
        have HCK3 := Aside0.mk hck3
        have HCL3 := Aside0.mk hcl3
        clear hcall3 hck3 hcl3 hx hseg hK hcell hp hgx hl1 hg1 hl3 hg3 hl4 hg4 hi
        go_wp2
        refine start_ (n := 27) (S := fun w' => (w'.cell? ⟨g, i * 5 + 1, none⟩ = some (.slice A1 x.f1.length c1) ∧ w'.cell? ⟨g, i * 5 + 4, none⟩ = some (.slice A4 x.f4.length c4) ∧ w'.cell? ⟨g, i * 5 + 3, none⟩ = some (.slice A3 x.f3.length c3)) ∧ Below wa.heap.size wa w') (ds := [20, 23, 26]) #[false, false, false, false, false, false, false, false, false, false, false, false, false, false, false, false, false, false, false, false, false, false, false, false, false, false, false] (by kernel_rfl) rfl rfl ⟨⟨hy1, hy4, hy3⟩, below_drew1 (Below.refl wa.heap.size wa)⟩ (fun hHeld => ?_)
        refine pure_ (i := 0) (N := some 16) (v := ?_) (a' := ?_) #[true, false, false, false, false, false, false, false, false, false, false, false, false, false, false, false, false, false, false, false, false, false, false, false, false, false, false] rfl rfl (by kernel_rfl) (fun _ _ _ h => h) (Or.inl ⟨by rfl, ?_⟩) ?_ ?_
        rotate_left
        · intro w'
          go_simp
          with_reducible rfl
        rotate_left
        · simp only [Act.put, List.setIfInBounds_toArray, List.set_cons_zero, List.set_cons_succ]
          rfl
        refine pure_ (i := 1) (N := some 17) (v := ?_) (a' := ?_) #[true, true, false, false, false, false, false, false, false, false, false, false, false, false, false, false, false, false, false, false, false, false, false, false, false, false, false] rfl rfl (by kernel_rfl) (fun _ _ _ h => h) (Or.inl ⟨by rfl, ?_⟩) ?_ ?_
        rotate_left
        · intro w'
          go_simp
          with_reducible rfl
        rotate_left
        · simp only [Act.put, List.setIfInBounds_toArray, List.set_cons_zero, List.set_cons_succ]
          rfl
        refine pure_ (i := 2) (N := some 18) (v := ?_) (a' := ?_) #[true, true, true, false, false, false, false, false, false, false, false, false, false, false, false, false, false, false, false, false, false, false, false, false, false, false, false] rfl rfl (by kernel_rfl) (fun _ _ _ h => h) (Or.inl ⟨by rfl, ?_⟩) ?_ ?_
        rotate_left
        · intro w'
          go_simp
          with_reducible rfl
        rotate_left
        · simp only [Act.put, List.setIfInBounds_toArray, List.set_cons_zero, List.set_cons_succ]
          rfl
        refine pure_ (i := 3) (N := some 19) (v := ?_) (a' := ?_) #[true, true, true, true, false, false, false, false, false, false, false, false, false, false, false, false, false, false, false, false, false, false, false, false, false, false, false] rfl rfl (by kernel_rfl) (fun _ _ _ h => h) (Or.inl ⟨by rfl, ?_⟩) ?_ ?_
        rotate_left
        · intro w'
          go_simp
          with_reducible rfl
        rotate_left
        · simp only [Act.put, List.setIfInBounds_toArray, List.set_cons_zero, List.set_cons_succ]
          rfl
        refine pure_ (i := 4) (N := some 20) (v := ?_) (a' := ?_) #[true, true, true, true, true, false, false, false, false, false, false, false, false, false, false, false, false, false, false, false, false, false, false, false, false, false, false] rfl rfl (by kernel_rfl) (fun _ _ _ h => h) (Or.inl ⟨by rfl, ?_⟩) ?_ ?_
        rotate_left
        · intro w'
          go_simp
          with_reducible rfl
        rotate_left
        · simp only [Act.put, List.setIfInBounds_toArray, List.set_cons_zero, List.set_cons_succ]
          rfl
        refine pure_ (i := 5) (N := some 21) (v := ?_) (a' := ?_) #[true, true, true, true, true, true, false, false, false, false, false, false, false, false, false, false, false, false, false, false, false, false, false, false, false, false, false] rfl rfl (by kernel_rfl) (fun _ _ _ h => h) (Or.inl ⟨by rfl, ?_⟩) ?_ ?_
        rotate_left
        · intro w'
          go_simp
          with_reducible rfl
        rotate_left
        · simp only [Act.put, List.setIfInBounds_toArray, List.set_cons_zero, List.set_cons_succ]
          rfl
        refine pure_ (i := 8) (N := some 24) (v := ?_) (a' := ?_) #[true, true, true, true, true, true, false, false, true, false, false, false, false, false, false, false, false, false, false, false, false, false, false, false, false, false, false] rfl rfl (by kernel_rfl) (fun _ _ _ h => h) (Or.inl ⟨by rfl, ?_⟩) ?_ ?_
        rotate_left
        · intro w'
          go_simp
          with_reducible rfl
        rotate_left
        · simp only [Act.put, List.setIfInBounds_toArray, List.set_cons_zero, List.set_cons_succ]
          rfl
        refine pure_ (i := 9) (N := some 25) (v := ?_) (a' := ?_) #[true, true, true, true, true, true, false, false, true, true, false, false, false, false, false, false, false, false, false, false, false, false, false, false, false, false, false] rfl rfl (by kernel_rfl) (fun _ _ _ h => h) (Or.inl ⟨by rfl, ?_⟩) ?_ ?_
        rotate_left
        · intro w'
          go_simp
          with_reducible rfl
        rotate_left
        · simp only [Act.put, List.setIfInBounds_toArray, List.set_cons_zero, List.set_cons_succ]
          rfl
        refine pure_ (i := 10) (N := some 26) (v := ?_) (a' := ?_) #[true, true, true, true, true, true, false, false, true, true, true, false, false, false, false, false, false, false, false, false, false, false, false, false, false, false, false] rfl rfl (by kernel_rfl) (fun _ _ _ h => h) (Or.inl ⟨by rfl, ?_⟩) ?_ ?_
        rotate_left
        · intro w'
          go_simp
          with_reducible rfl
        rotate_left
        · simp only [Act.put, List.setIfInBounds_toArray, List.set_cons_zero, List.set_cons_succ]
          rfl
        refine pure_ (i := 13) (N := some 29) (v := ?_) (a' := ?_) #[true, true, true, true, true, true, false, false, true, true, true, false, false, true, false, false, false, false, false, false, false, false, false, false, false, false, false] rfl rfl (by kernel_rfl) (fun _ _ _ h => h) (Or.inl ⟨by rfl, ?_⟩) ?_ ?_
        rotate_left
        · intro w'
          go_simp
          with_reducible rfl
        rotate_left
        · simp only [Act.put, List.setIfInBounds_toArray, List.set_cons_zero, List.set_cons_succ]
          rfl
        refine pure_ (i := 14) (N := some 30) (v := ?_) (a' := ?_) #[true, true, true, true, true, true, false, false, true, true, true, false, false, true, true, false, false, false, false, false, false, false, false, false, false, false, false] rfl rfl (by kernel_rfl) (fun _ _ _ h => h) (Or.inl ⟨by rfl, ?_⟩) ?_ ?_
        rotate_left
        · intro w'
          go_simp
          with_reducible rfl
        rotate_left
        · simp only [Act.put, List.setIfInBounds_toArray, List.set_cons_zero, List.set_cons_succ]
          rfl
        refine pure_ (i := 15) (N := some 31) (v := ?_) (a' := ?_) #[true, true, true, true, true, true, false, false, true, true, true, false, false, true, true, true, false, false, false, false, false, false, false, false, false, false, false] rfl rfl (by kernel_rfl) (fun _ _ _ h => h) (Or.inl ⟨by rfl, ?_⟩) ?_ ?_
        rotate_left
        · intro w'
          go_simp
          with_reducible rfl
        rotate_left
        · simp only [Act.put, List.setIfInBounds_toArray, List.set_cons_zero, List.set_cons_succ]
          rfl
        refine take_ (i := 6) (N := some 22) (v := (.slice A1 x.f1.length c1)) (a' := ?_) #[true, true, true, true, true, true, true, false, true, true, true, false, false, true, true, true, false, false, false, false, false, false, false, false, false, false, false] rfl rfl (by kernel_rfl) (fun _ _ _ h => h) (Or.inl ⟨by rfl, ?_⟩) hHeld ?_ ?_
        rotate_left
        rotate_left
        · simp only [Act.put, List.setIfInBounds_toArray, List.set_cons_zero, List.set_cons_succ]
          rfl
        rotate_left
        · rintro w' ⟨⟨s1, s4, s3⟩, s5⟩
          go_simp
        refine take_ (i := 11) (N := some 27) (v := (.slice A4 x.f4.length c4)) (a' := ?_) #[true, true, true, true, true, true, true, false, true, true, true, true, false, true, true, true, false, false, false, false, false, false, false, false, false, false, false] rfl rfl (by kernel_rfl) (fun _ _ _ h => h) (Or.inl ⟨by rfl, ?_⟩) hHeld ?_ ?_
        rotate_left
        rotate_left
        · simp only [Act.put, List.setIfInBounds_toArray, List.set_cons_zero, List.set_cons_succ]
          rfl
        rotate_left
        · rintro w' ⟨⟨s1, s4, s3⟩, s5⟩
          go_simp
        refine take_ (i := 16) (N := some 32) (v := (.slice A3 x.f3.length c3)) (a' := ?_) #[true, true, true, true, true, true, true, false, true, true, true, true, false, true, true, true, true, false, false, false, false, false, false, false, false, false, false] rfl rfl (by kernel_rfl) (fun _ _ _ h => h) (Or.inl ⟨by rfl, ?_⟩) hHeld ?_ ?_
        rotate_left
        rotate_left
        · simp only [Act.put, List.setIfInBounds_toArray, List.set_cons_zero, List.set_cons_succ]
          rfl
        rotate_left
        · rintro w' ⟨⟨s1, s4, s3⟩, s5⟩
          go_simp
        refine one_ (i := 7) (N := some 23) #[true, true, true, true, true, true, true, true, true, true, true, true, false, true, true, true, true, false, false, false, false, false, false, false, false, false, false] rfl rfl (by kernel_rfl) (by decide) (fun K hK => ?_)
        refine goes_ Try.func54 (by kernel_rfl) rfl #[.slice A1 x.f1.length c1] (by rfl) rfl rfl (by first | rfl | (simp only [List.map_toArray, List.map_cons, List.map_nil]; rfl)) ?_
        refine (cloneU32_calls A1 c1 x.f1 _ (HC1.out _ hHeld.2) HG1.out).mono ?_
        rintro e w2 ⟨v1, rfl, ho, hb⟩
        obtain ⟨B1, b1, rfl⟩ := Kd.R_slice ho
        have HO1 := Aside0.mk (Kd.R_lower ho hHeld.2.size)
        refine ⟨_, rfl, hK.out _ _ (cells3_step hHeld hb) (fun hHeld => ?_)⟩
        clear ho hb
        clear hK K
        simp only [Act.put, List.setIfInBounds_toArray, List.set_cons_zero, List.set_cons_succ]
        refine one_ (i := 12) (N := some 28) #[true, true, true, true, true, true, true, true, true, true, true, true, true, true, true, true, true, false, false, false, false, false, false, false, false, false, false] rfl rfl (by kernel_rfl) (by decide) (fun K hK => ?_)
        refine goes_ Try.func54 (by kernel_rfl) rfl #[.slice A4 x.f4.length c4] (by rfl) rfl rfl (by first | rfl | (simp only [List.map_toArray, List.map_cons, List.map_nil]; rfl)) ?_
        refine (cloneU32_calls A4 c4 x.f4 _ (HC4.out _ hHeld.2) HG4.out).mono ?_
        rintro e w3 ⟨v4, rfl, ho, hb⟩
        obtain ⟨B4, b4, rfl⟩ := Kd.R_slice ho
        have HO4 := Aside0.mk (Kd.R_lower ho hHeld.2.size)
        replace HO1 := Aside0.mk (Kd.R_below HO1.out hb)
        refine ⟨_, rfl, hK.out _ _ (cells3_step hHeld hb) (fun hHeld => ?_)⟩
        clear ho hb
        clear hK K
        simp only [Act.put, List.setIfInBounds_toArray, List.set_cons_zero, List.set_cons_succ]
        refine one_ (i := 17) (N := some 33) #[true, true, true, true, true, true, true, true, true, true, true, true, true, true, true, true, true, true, false, false, false, false, false, false, false, false, false] rfl rfl (by kernel_rfl) (by decide) (fun K hK => ?_)
        refine goes_ Try.func87 (by kernel_rfl) rfl #[.slice A3 x.f3.length c3] (by rfl) rfl rfl (by first | rfl | (simp only [List.map_toArray, List.map_cons, List.map_nil]; rfl)) ?_
        refine (HCP.out _ hHeld.2).mono ?_
        rintro e w4 ⟨v3, rfl, ho, hb⟩
        obtain ⟨B3, b3, rfl⟩ := Kd.R_slice ho
        rw [HCL3.out] at ho ⊢
        have HO3 := Aside0.mk (Kd.R_lower ho hHeld.2.size)
        replace HO1 := Aside0.mk (Kd.R_below HO1.out hb)
        replace HO4 := Aside0.mk (Kd.R_below HO4.out hb)
        refine ⟨_, rfl, hK.out _ _ (cells3_step hHeld hb) (fun hHeld => ?_)⟩
        clear ho hb
        clear hK K
        simp only [Act.put, List.setIfInBounds_toArray, List.set_cons_zero, List.set_cons_succ]
        refine pure_ (i := 18) (N := some 34) (v := ?_) (a' := ?_) #[true, true, true, true, true, true, true, true, true, true, true, true, true, true, true, true, true, true, true, false, false, false, false, false, false, false, false] rfl rfl (by kernel_rfl) (fun _ _ _ h => h) (Or.inl ⟨by rfl, ?_⟩) ?_ ?_
        rotate_left
        · intro w'
          go_simp
          with_reducible rfl
        rotate_left
        · simp only [Act.put, List.setIfInBounds_toArray, List.set_cons_zero, List.set_cons_succ]
          rfl
        refine pure_ (i := 19) (N := some 35) (v := ?_) (a' := ?_) #[true, true, true, true, true, true, true, true, true, true, true, true, true, true, true, true, true, true, true, true, false, false, false, false, false, false, false] rfl rfl (by kernel_rfl) (fun _ _ _ h => h) (Or.inl ⟨by rfl, ?_⟩) ?_ ?_
        rotate_left
        · intro w'
          go_simp
          with_reducible rfl
        rotate_left
        · simp only [Act.put, List.setIfInBounds_toArray, List.set_cons_zero, List.set_cons_succ]
          rfl
        refine last_ (i := 20) (N := none) #[true, true, true, true, true, true, true, true, true, true, true, true, true, true, true, true, true, true, true, true, true, false, false, false, false, false, false] rfl rfl (by kernel_rfl) (by decide) (fun K hK => ?_)
        have hh4 : w4.heap[g]? = some (.cells cur 91 (0, 0)) := (hHeld.2.block g (blk_lt HPP.out.1)).trans HPP.out.1
        have hsz : i * 5 + 5 ≤ cur.size := by
          have h1 := HPP.out.2.2.2.2.2.1
          have h2 := HPP.out.2.2.2.1
          have h3 := HI.out
          have h4 : cur.size = cap * 5 := h1
          omega
        have hy1 := hHeld.1.1
        have hy4 := hHeld.1.2.1
        have hy3 := hHeld.1.2.2
        have hf1 := blk_frozen hh4 (i * 5 + 1)
        refine skip_ (w1 := ?_) (by rfl) rfl ?_ ?_
        rotate_left
        · go_simp
          rfl
        refine hK.out _ _ ?_
        obtain ⟨cur5, hh5, hs5, ht5, hg5⟩ := put_row hh4 (.slice B1 x.f1.length b1) (show i * 5 + 1 < cur.size by omega)
        generalize w4.setCell ⟨g, i * 5 + 1, none⟩ (.slice B1 x.f1.length b1) = w5 at hh5 hg5 ⊢
        have hy4' := put_other hh4 hh5 ht5 (by omega) hy4
        have hy3' := put_other hh4 hh5 ht5 (by omega) hy3
        have hf4 := blk_frozen hh5 (i * 5 + 4)
        clear hy1 hy4 hy3 hf1
        clear hK K
        refine pure_ (i := 21) (N := some 36) (v := ?_) (a' := ?_) #[true, true, true, true, true, true, true, true, true, true, true, true, true, true, true, true, true, true, true, true, true, true, false, false, false, false, false] rfl rfl (by kernel_rfl) (fun _ _ _ h => h) (Or.inl ⟨by rfl, ?_⟩) ?_ ?_
        rotate_left
        · intro w'
          go_simp
          with_reducible rfl
        rotate_left
        · simp only [Act.put, List.setIfInBounds_toArray, List.set_cons_zero, List.set_cons_succ]
          rfl
        refine pure_ (i := 22) (N := some 37) (v := ?_) (a' := ?_) #[true, true, true, true, true, true, true, true, true, true, true, true, true, true, true, true, true, true, true, true, true, true, true, false, false, false, false] rfl rfl (by kernel_rfl) (fun _ _ _ h => h) (Or.inl ⟨by rfl, ?_⟩) ?_ ?_
        rotate_left
        · intro w'
          go_simp
          with_reducible rfl
        rotate_left
        · simp only [Act.put, List.setIfInBounds_toArray, List.set_cons_zero, List.set_cons_succ]
          rfl
        refine last_ (i := 23) (N := none) #[true, true, true, true, true, true, true, true, true, true, true, true, true, true, true, true, true, true, true, true, true, true, true, true, false, false, false] rfl rfl (by kernel_rfl) (by decide) (fun K hK => ?_)
        refine skip_ (w1 := ?_) (by rfl) rfl ?_ ?_
        rotate_left
        · go_simp
          rfl
        refine hK.out _ _ ?_
        obtain ⟨cur6, hh6, hs6, ht6, hg6⟩ := put_row hh5 (.slice B4 x.f4.length b4) (show i * 5 + 4 < cur5.size by omega)
        generalize w5.setCell ⟨g, i * 5 + 4, none⟩ (.slice B4 x.f4.length b4) = w6 at hh6 hg6 ⊢
        have hy3 := put_other hh5 hh6 ht6 (by omega) hy3'
        have hf3 := blk_frozen hh6 (i * 5 + 3)
        clear hy4' hy3' hf4
        clear hK K
        refine pure_ (i := 24) (N := some 38) (v := ?_) (a' := ?_) #[true, true, true, true, true, true, true, true, true, true, true, true, true, true, true, true, true, true, true, true, true, true, true, true, true, false, false] rfl rfl (by kernel_rfl) (fun _ _ _ h => h) (Or.inl ⟨by rfl, ?_⟩) ?_ ?_
        rotate_left
        · intro w'
          go_simp
          with_reducible rfl
        rotate_left
        · simp only [Act.put, List.setIfInBounds_toArray, List.set_cons_zero, List.set_cons_succ]
          rfl
        refine pure_ (i := 25) (N := some 39) (v := ?_) (a' := ?_) #[true, true, true, true, true, true, true, true, true, true, true, true, true, true, true, true, true, true, true, true, true, true, true, true, true, true, false] rfl rfl (by kernel_rfl) (fun _ _ _ h => h) (Or.inl ⟨by rfl, ?_⟩) ?_ ?_
        rotate_left
        · intro w'
          go_simp
          with_reducible rfl
        rotate_left
        · simp only [Act.put, List.setIfInBounds_toArray, List.set_cons_zero, List.set_cons_succ]
          rfl
        refine last_ (i := 26) (N := none) #[true, true, true, true, true, true, true, true, true, true, true, true, true, true, true, true, true, true, true, true, true, true, true, true, true, true, true] rfl rfl (by kernel_rfl) (by decide) (fun K hK => ?_)
        refine skip_ (w1 := ?_) (by rfl) rfl ?_ ?_
        rotate_left
        · go_simp
          rfl
        refine hK.out _ _ ?_
        obtain ⟨cur7, hh7, hs7, ht7, hg7⟩ := put_row hh6 (.slice B3 x.f3.length b3) (show i * 5 + 3 < cur6.size by omega)
        generalize w6.setCell ⟨g, i * 5 + 3, none⟩ (.slice B3 x.f3.length b3) = w7 at hh7 hg7 ⊢
        clear hy3 hf3
        clear hK K
        refine done_ (n := 0) (by kernel_rfl) ?_
        have hgw : w.heap.size ≤ g := HPP.out.2.1
        have hgl : g < wa.heap.size := blk_lt HPP.out.1
        have hv3 : w7.cell? ⟨g, i * 5 + 3, none⟩ = some (.slice B3 x.f3.length b3) := by
          rw [blk_cell hh7, ← Array.getElem?_toList, ht7, List.getElem?_set_self (by rw [Array.length_toList]; omega)]
        rw [ht6, ht5] at ht7
        have HK7 := Aside0.mk (Kp_grown (Kp_grown (Kp_grown (Kp_start (g := g) hHeld.2) hg5 (.inl rfl)) hg6 (.inl rfl)) hg7 (.inl rfl))
        have hb4 := below_step HB.out hHeld.2
        have hn4 : w.heap.size ≤ w4.heap.size := hb4.size
        have hb5 := hb4.grown hg5 hn4 (fun k hk => by injection hk with hk; omega)
        have hn5 : w.heap.size ≤ w5.heap.size := hb5.size
        have hb6 := hb5.grown hg6 hn5 (fun k hk => by injection hk with hk; omega)
        have hn6 : w.heap.size ≤ w6.heap.size := hb6.size
        have HB7 := Aside0.mk (hb6.grown hg7 hn6 (fun k hk => by injection hk with hk; omega))
        have hr1 := Kd.R_grown (Kd.R_grown (Kd.R_grown (R_ge HO1.out hgl) hg5 (fun k hk e => hk (by injection e))) hg6 (fun k hk e => hk (by injection e))) hg7 (fun k hk e => hk (by injection e))
        have hr4 := Kd.R_grown (Kd.R_grown (Kd.R_grown (R_ge HO4.out hgl) hg5 (fun k hk e => hk (by injection e))) hg6 (fun k hk e => hk (by injection e))) hg7 (fun k hk e => hk (by injection e))
        have hr3 := Kd.R_grown (Kd.R_grown (Kd.R_grown (R_ge HO3.out hgl) hg5 (fun k hk e => hk (by injection e))) hg6 (fun k hk e => hk (by injection e))) hg7 (fun k hk e => hk (by injection e))
        have HR1 := Aside0.mk hr1
        have HR4 := Aside0.mk hr4
        have HR3 := Aside0.mk hr3
        have HH7 := Aside0.mk hh7
        have HT7 := Aside0.mk ht7
        have HS7 := Aside0.mk (show cur7.size = cur.size by omega)
        have HGW := Aside0.mk hgw
        have HGL := Aside0.mk hgl
        have HEND := Aside0.mk (fun (W' : World) (v3 : Value) (hv : v3 = .slice B3 x.f3.length b3) (h1 : Kd.R (Kd.int .u32) 28 W' wa.heap.size (fun k => k ≠ g) (.slice B1 x.f1.length b1) x.f1) (h4 : Kd.R (Kd.int .u32) 28 W' wa.heap.size (fun k => k ≠ g) (.slice B4 x.f4.length b4) x.f4) (h3 : Kd.R k106 106 W' wa.heap.size (fun k => k ≠ g) v3 x.f3) (hh : W'.heap[g]? = some (.cells cur7 91 (0, 0))) (hk : Kp g wa W') => (by
          subst hv
          have hwl : w.heap.size ≤ wa.heap.size := HB.out.size
          refine PR_put HPP.out hh HS7.out (fun j hj => by rw [HT7.out]; exact seg5_ne _ _ _ _ _ _ hj) (fun y hy => ?_) (fun k h5 h6 => hk.2 k h5 h6)
          rw [HX.out] at hy
          obtain rfl := Option.some.inj hy
          rw [HT7.out, show seg (((cur.toList.set (i * 5 + 1) (.slice B1 x.f1.length b1)).set (i * 5 + 4) (.slice B4 x.f4.length b4)).set (i * 5 + 3) (.slice B3 x.f3.length b3)) k91.sz i = _ from seg5 _ _ _ _ _ _ _ _ _ _ HSG.out.symm]
          exact k91_mkM _ _ _ _ (Kd.R_lower h1 hwl) (Kd.R_lower h3 hwl) (Kd.R_lower h4 hwl) : PR k91 91 w W' w.heap.size g l.length cap (i + 1) l cur7))
        clear hgw hgl ht7 hb4 hn4 hb5 hn5 hb6 hn6 hr1 hr4 hr3 hh7 hh4 hh5 hh6 hs5 hs6 hs7 ht5 ht6 hg5 hg6 hg7 hsz hHeld
        by_cases hn3 : x.f3.length = 0
        · have e3 : x.f3 = [] := List.eq_nil_of_length_eq_zero hn3
          have e4 : cs3 = [] := List.eq_nil_of_length_eq_zero (by rw [HCL3.out]; exact hn3)
          have hend := HEND.out w7 _ rfl HR1.out HR4.out (by
            have h := HR3.out
            rw [e4] at h
            rw [e3]
            have h2 := R_raw_nil (d := k106) h rfl
            rw [e3] at h2
            exact h2) HH7.out HK7.out
          have HEN := Aside0.mk hend
          rw [hn3] at hv3
          clear e3 e4 hend
          go_wp2
          go_loopg [45] 0 (fun kq v45 w' => v45 = .int .i64 0 ∧ kq = 0 ∧ w' = w7)
          case atStart => exact ⟨rfl, rfl, rfl⟩
          case round =>
            obtain ⟨rfl, rfl, rfl⟩ := hrel
            go_wp2
            go_roundg k1
            case measure => omega
            case rel => exact ⟨i + 1, rfl, ⟨by have := HI.out; omega⟩, ⟨cur7, HEN.out⟩, HB7⟩
        · obtain ⟨g3, rfl⟩ : ∃ g3, B3 = some ⟨g3, 0, none⟩ := by
            cases B3 with
            | none => exact absurd (C_nil_eq (Kd.R_reads' HR3.out).2.2) (fun e => hn3 (by rw [← HCL3.out, e]; rfl))
            | some ad =>
              obtain ⟨g3, rfl⟩ := Kd.R_head HR3.out
              exact ⟨g3, rfl⟩
          obtain ⟨cur30, hP30⟩ := PR_start (d := k106) (xs := x.f3) (w := w) HR3.out HCL3.out HCK3.out
          have HP30 := Aside0.mk hP30
          have h31 := Aside0.mk (R_and HR1.out hP30.1 (by decide))
          have h34 := Aside0.mk (R_and HR4.out hP30.1 (by decide))
          clear hP30 hn3
          go_wp2
          go_loopg [45] x.f3.length (fun kq v45 w' => ∃ k : Nat, v45 = .int .i64 k ∧ Aside0 (k + kq = x.f3.length) ∧ Aside0 (∃ cur3, PR k106 106 w w' wa.heap.size g3 x.f3.length b3 k x.f3 cur3) ∧ Aside0 (w'.heap[g]? = some (.cells cur7 91 (0, 0))) ∧ Aside0 (Kd.R (Kd.int .u32) 28 w' wa.heap.size (fun k => k ≠ g ∧ k ≠ g3) (.slice B1 x.f1.length b1) x.f1) ∧ Aside0 (Kd.R (Kd.int .u32) 28 w' wa.heap.size (fun k => k ≠ g ∧ k ≠ g3) (.slice B4 x.f4.length b4) x.f4) ∧ Aside0 (Kp g wa w') ∧ Aside0 (Below w.heap.size w w'))
          case atStart => exact ⟨0, rfl, ⟨by omega⟩, ⟨cur30, HP30.out⟩, HH7, h31, h34, HK7, HB7⟩
          case round =>
            obtain ⟨k, rfl, JI, JP, JH, J1, J4, JK, JB⟩ := hrel
            have hv3r : wr.cell? ⟨g, i * 5 + 3, none⟩ = some (.slice (some ⟨g3, 0, none⟩) x.f3.length b3) := by
              rw [blk_cell JH.out, ← blk_cell HH7.out]
              exact hv3
            clear hv3
            cases gk with
            | zero =>
              have hltN : decide (k < x.f3.length) = false := decide_eq_false (by have := JI.out; omega)
              have HEN : Aside0 (PR k91 91 w wr w.heap.size g l.length cap (i + 1) l cur7) := ⟨by
                obtain ⟨cur3, hp3⟩ := JP.out
                rw [show k = x.f3.length by have := JI.out; omega] at hp3
                have h3 : Kd.R k106 106 wr wa.heap.size (fun k => k ≠ g) (.slice (some ⟨g3, 0, none⟩) x.f3.length b3) x.f3 := R_ge (PR_end hp3) HGL.out
                exact HEND.out wr _ rfl (Kd.R_mono J1.out (fun _ h => h.1)) (Kd.R_mono J4.out (fun _ h => h.1)) h3 JH.out JK.out⟩
              go_wp2
              go_roundg k1
              case measure => omega
              case rel => exact ⟨i + 1, rfl, ⟨by have := HI.out; omega⟩, ⟨cur7, HEN.out⟩, JB⟩
            | succ k2 =>
              obtain ⟨cur3, hp3⟩ := JP.out
              have hkl : k < x.f3.length := by have := JI.out; omega
              obtain ⟨y, cs, hy, hseg, hK, hcell⟩ := PR_cell hp3 hkl
              obtain ⟨A5, c5, rfl, hl5, hg5⟩ := k106_open hK
              have hd5 := hcell 1 _ rfl
              have HGY := Aside0.mk (HG3.out y (List.mem_of_getElem? hy))
              have HY := Aside0.mk hy
              have HSY := Aside0.mk hseg
              have HP3 := Aside0.mk hp3
              have HC5 := Aside0.mk (fun (W : World) (hb : Below wr.heap.size wr W) => Kd.C_below (Kd.C_below hg5 JB.out) hb)
              have HX3 := Aside0.mk (show x.f3.length ≤ 1000000000000000 by have := HG3L.out; omega)
              have hltN : decide (k < x.f3.length) = true := decide_eq_true hkl
              have q1 : (0 ≤ (k : Int)) = True := eq_true (by omega)
              have q2 : ((k : Int) < (x.f3.length : Int)) = True := eq_true (by omega)
              have hkr : IntKind.i64.wrap ((k : Int) + 1) = ((k + 1 : Nat) : Int) := (i64_w _).trans (by unfold wrap64; have := HX3.out; omega)
              have hkr2 : wrap64 ((k : Int) + 1) = ((k + 1 : Nat) : Int) := by unfold wrap64; have := HX3.out; omega
              clear hy hseg hp3 hK hcell hl5 hg5
              go_wp2
              refine start_ (n := 17) (S := fun w' => (w'.cell? ⟨g, i * 5 + 3, none⟩ = some (.slice (some ⟨g3, 0, none⟩) x.f3.length b3) ∧ w'.cell? ⟨g3, k * 2 + 1, none⟩ = some (.slice A5 y.f1.length c5)) ∧ Below wr.heap.size wr w') (ds := [16]) #[false, false, false, false, false, false, false, false, false, false, false, false, false, false, false, false, false] (by kernel_rfl) rfl rfl ⟨⟨hv3r, hd5⟩, below_drew1 (Below.refl wr.heap.size wr)⟩ (fun hHeld => ?_)
              refine pure_ (i := 0) (N := some 48) (v := ?_) (a' := ?_) #[true, false, false, false, false, false, false, false, false, false, false, false, false, false, false, false, false] rfl rfl (by kernel_rfl) (fun _ _ _ h => h) (Or.inl ⟨by rfl, ?_⟩) ?_ ?_
              rotate_left
              · intro w'
                go_simp
                with_reducible rfl
              rotate_left
              · simp only [Act.put, List.setIfInBounds_toArray, List.set_cons_zero, List.set_cons_succ]
                rfl
              refine pure_ (i := 1) (N := some 49) (v := ?_) (a' := ?_) #[true, true, false, false, false, false, false, false, false, false, false, false, false, false, false, false, false] rfl rfl (by kernel_rfl) (fun _ _ _ h => h) (Or.inl ⟨by rfl, ?_⟩) ?_ ?_
              rotate_left
              · intro w'
                go_simp
                with_reducible rfl
              rotate_left
              · simp only [Act.put, List.setIfInBounds_toArray, List.set_cons_zero, List.set_cons_succ]
                rfl
              refine pure_ (i := 2) (N := some 50) (v := ?_) (a' := ?_) #[true, true, true, false, false, false, false, false, false, false, false, false, false, false, false, false, false] rfl rfl (by kernel_rfl) (fun _ _ _ h => h) (Or.inl ⟨by rfl, ?_⟩) ?_ ?_
              rotate_left
              · intro w'
                go_simp
                with_reducible rfl
              rotate_left
              · simp only [Act.put, List.setIfInBounds_toArray, List.set_cons_zero, List.set_cons_succ]
                rfl
              refine pure_ (i := 4) (N := some 52) (v := ?_) (a' := ?_) #[true, true, true, false, true, false, false, false, false, false, false, false, false, false, false, false, false] rfl rfl (by kernel_rfl) (fun _ _ _ h => h) (Or.inl ⟨by rfl, ?_⟩) ?_ ?_
              rotate_left
              · intro w'
                go_simp
                with_reducible rfl
              rotate_left
              · simp only [Act.put, List.setIfInBounds_toArray, List.set_cons_zero, List.set_cons_succ]
                rfl
              refine pure_ (i := 5) (N := some 53) (v := ?_) (a' := ?_) #[true, true, true, false, true, true, false, false, false, false, false, false, false, false, false, false, false] rfl rfl (by kernel_rfl) (fun _ _ _ h => h) (Or.inl ⟨by rfl, ?_⟩) ?_ ?_
              rotate_left
              · intro w'
                go_simp
                with_reducible rfl
              rotate_left
              · simp only [Act.put, List.setIfInBounds_toArray, List.set_cons_zero, List.set_cons_succ]
                rfl
              refine pure_ (i := 6) (N := some 54) (v := ?_) (a' := ?_) #[true, true, true, false, true, true, true, false, false, false, false, false, false, false, false, false, false] rfl rfl (by kernel_rfl) (fun _ _ _ h => h) (Or.inl ⟨by rfl, ?_⟩) ?_ ?_
              rotate_left
              · intro w'
                go_simp
                with_reducible rfl
              rotate_left
              · simp only [Act.put, List.setIfInBounds_toArray, List.set_cons_zero, List.set_cons_succ]
                rfl
              refine pure_ (i := 7) (N := some 55) (v := ?_) (a' := ?_) #[true, true, true, false, true, true, true, true, false, false, false, false, false, false, false, false, false] rfl rfl (by kernel_rfl) (fun _ _ _ h => h) (Or.inl ⟨by rfl, ?_⟩) ?_ ?_
              rotate_left
              · intro w'
                go_simp
                with_reducible rfl
              rotate_left
              · simp only [Act.put, List.setIfInBounds_toArray, List.set_cons_zero, List.set_cons_succ]
                rfl
              refine pure_ (i := 9) (N := some 57) (v := ?_) (a' := ?_) #[true, true, true, false, true, true, true, true, false, true, false, false, false, false, false, false, false] rfl rfl (by kernel_rfl) (fun _ _ _ h => h) (Or.inl ⟨by rfl, ?_⟩) ?_ ?_
              rotate_left
              · intro w'
                go_simp
                with_reducible rfl
              rotate_left
              · simp only [Act.put, List.setIfInBounds_toArray, List.set_cons_zero, List.set_cons_succ]
                rfl
              refine take_ (i := 3) (N := some 51) (v := (.slice (some ⟨g3, 0, none⟩) x.f3.length b3)) (a' := ?_) #[true, true, true, true, true, true, true, true, false, true, false, false, false, false, false, false, false] rfl rfl (by kernel_rfl) (fun _ _ _ h => h) (Or.inl ⟨by rfl, ?_⟩) hHeld ?_ ?_
              rotate_left
              rotate_left
              · simp only [Act.put, List.setIfInBounds_toArray, List.set_cons_zero, List.set_cons_succ]
                rfl
              rotate_left
              · rintro w' ⟨⟨s1, s2⟩, s5⟩
                go_simp
              refine take_ (i := 8) (N := some 56) (v := (.slice (some ⟨g3, 0, none⟩) x.f3.length b3)) (a' := ?_) #[true, true, true, true, true, true, true, true, true, true, false, false, false, false, false, false, false] rfl rfl (by kernel_rfl) (fun _ _ _ h => h) (Or.inl ⟨by rfl, ?_⟩) hHeld ?_ ?_
              rotate_left
              rotate_left
              · simp only [Act.put, List.setIfInBounds_toArray, List.set_cons_zero, List.set_cons_succ]
                rfl
              rotate_left
              · rintro w' ⟨⟨s1, s2⟩, s5⟩
                go_simp
              refine pure_ (i := 10) (N := some 58) (v := ?_) (a' := ?_) #[true, true, true, true, true, true, true, true, true, true, true, false, false, false, false, false, false] rfl rfl (by kernel_rfl) (fun _ _ _ h => h) (Or.inl ⟨by rfl, ?_⟩) ?_ ?_
              rotate_left
              · intro w'
                go_simp
                with_reducible rfl
              rotate_left
              · simp only [Act.put, List.setIfInBounds_toArray, List.set_cons_zero, List.set_cons_succ]
                rfl
              refine pure_ (i := 11) (N := some 59) (v := ?_) (a' := ?_) #[true, true, true, true, true, true, true, true, true, true, true, true, false, false, false, false, false] rfl rfl (by kernel_rfl) (fun _ _ _ h => h) (Or.inl ⟨by rfl, ?_⟩) ?_ ?_
              rotate_left
              · intro w'
                go_simp
                with_reducible rfl
              rotate_left
              · simp only [Act.put, List.setIfInBounds_toArray, List.set_cons_zero, List.set_cons_succ]
                rfl
              refine take_ (i := 12) (N := some 60) (v := (.slice A5 y.f1.length c5)) (a' := ?_) #[true, true, true, true, true, true, true, true, true, true, true, true, true, false, false, false, false] rfl rfl (by kernel_rfl) (fun _ _ _ h => h) (Or.inl ⟨by rfl, ?_⟩) hHeld ?_ ?_
              rotate_left
              rotate_left
              · simp only [Act.put, List.setIfInBounds_toArray, List.set_cons_zero, List.set_cons_succ]
                rfl
              rotate_left
              · rintro w' ⟨⟨s1, s2⟩, s5⟩
                go_simp
              refine one_ (i := 13) (N := some 61) #[true, true, true, true, true, true, true, true, true, true, true, true, true, true, false, false, false] rfl rfl (by kernel_rfl) (by decide) (fun K hK => ?_)
              refine goes_ Try.func55 (by kernel_rfl) rfl #[.slice A5 y.f1.length c5] (by rfl) rfl rfl (by first | rfl | (simp only [List.map_toArray, List.map_cons, List.map_nil]; rfl)) ?_
              refine (cloneByte_calls A5 c5 y.f1 _ (HC5.out _ hHeld.2) HGY.out).mono ?_
              rintro e w8 ⟨v5, rfl, ho, hb⟩
              obtain ⟨B5, b5, rfl⟩ := Kd.R_slice ho
              have HO5 := Aside0.mk (Kd.R_lower ho hHeld.2.size)
              refine ⟨_, rfl, hK.out _ _ (cells2_step hHeld hb) (fun hHeld => ?_)⟩
              clear ho hb
              clear hK K
              simp only [Act.put, List.setIfInBounds_toArray, List.set_cons_zero, List.set_cons_succ]
              refine pure_ (i := 14) (N := some 62) (v := ?_) (a' := ?_) #[true, true, true, true, true, true, true, true, true, true, true, true, true, true, true, false, false] rfl rfl (by kernel_rfl) (fun _ _ _ h => h) (Or.inl ⟨by rfl, ?_⟩) ?_ ?_
              rotate_left
              · intro w'
                go_simp
                with_reducible rfl
              rotate_left
              · simp only [Act.put, List.setIfInBounds_toArray, List.set_cons_zero, List.set_cons_succ]
                rfl
              refine pure_ (i := 15) (N := some 63) (v := ?_) (a' := ?_) #[true, true, true, true, true, true, true, true, true, true, true, true, true, true, true, true, false] rfl rfl (by kernel_rfl) (fun _ _ _ h => h) (Or.inl ⟨by rfl, ?_⟩) ?_ ?_
              rotate_left
              · intro w'
                go_simp
                with_reducible rfl
              rotate_left
              · simp only [Act.put, List.setIfInBounds_toArray, List.set_cons_zero, List.set_cons_succ]
                rfl
              refine last_ (i := 16) (N := none) #[true, true, true, true, true, true, true, true, true, true, true, true, true, true, true, true, true] rfl rfl (by kernel_rfl) (by decide) (fun K hK => ?_)
              have hh8 : w8.heap[g3]? = some (.cells cur3 106 (0, 0)) := (hHeld.2.block g3 (blk_lt HP3.out.1)).trans HP3.out.1
              have hd8 := hHeld.1.2
              have hf8 := blk_frozen hh8 (k * 2 + 1)
              refine skip_ (w1 := ?_) (by rfl) rfl ?_ ?_
              rotate_left
              · go_simp
                rfl
              refine hK.out _ _ ?_
              obtain ⟨cur9, hh9, hs9, ht9, hg9⟩ := put_row hh8 (.slice B5 y.f1.length b5) (show k * 2 + 1 < cur3.size by
                have h1 : cur3.size = b3 * 2 := HP3.out.2.2.2.2.2.1
                have h2 := HP3.out.2.2.2.1
                have h3 := JI.out
                omega)
              generalize w8.setCell ⟨g3, k * 2 + 1, none⟩ (.slice B5 y.f1.length b5) = w9 at hh9 hg9 ⊢
              clear hd8 hf8
              clear hK K
              refine done_ (n := 0) (by kernel_rfl) ?_
              have hgl3 : g3 < wr.heap.size := blk_lt HP3.out.1
              have hgw3 : wa.heap.size ≤ g3 := HP3.out.2.1
              have hne : g3 ≠ g := by have := HGL.out; omega
              have hgl := HGL.out
              have hgw := HGW.out
              have hwl : w.heap.size ≤ wa.heap.size := HB.out.size
              have hm9 : ∀ k', k' ≠ g3 → k' < wr.heap.size → w9.heap[k']? = wr.heap[k']? := fun k' h5 h6 => (hg9.block k' (Nat.lt_of_lt_of_le h6 hHeld.2.size) (fun e => h5 (by injection e))).trans (hHeld.2.block k' h6)
              have hr5 := Kd.R_grown (R_ge HO5.out hgl3) hg9 (fun k hk e => hk (by injection e))
              have hB8 := below_step JB.out hHeld.2
              have hB9 := Aside0.mk (hB8.grown hg9 (show w.heap.size ≤ w8.heap.size from hB8.size) (fun k hk => by injection hk with hk; omega))
              have hK9 := Aside0.mk (Kp_grown (Kp_below JK.out (show Below wr.heap.size wr w8 from hHeld.2)) hg9 (.inr hgw3))
              have hG9 := Aside0.mk ((hm9 g (fun e => hne e.symm) (blk_lt JH.out)).trans JH.out)
              have h91 := Aside0.mk (Kd.R_step J1.out (fun k' hk' hl => hm9 k' hk'.2 hl))
              have h94 := Aside0.mk (Kd.R_step J4.out (fun k' hk' hl => hm9 k' hk'.2 hl))
              have hp9 := Aside0.mk (PR_put HP3.out hh9 hs9 (fun j hj => by rw [ht9]; exact (seg_set _ 2 k 1 j _ (by decide)).trans (if_neg hj)) (fun z hz => by
                rw [HY.out] at hz
                obtain rfl := Option.some.inj hz
                rw [ht9, show seg (cur3.toList.set (k * 2 + 1) (.slice B5 y.f1.length b5)) k106.sz k = _ from seg2 _ _ _ _ _ HSY.out.symm]
                exact k106_mkM _ _ _ _ (Kd.R_lower hr5 JK.out.1)) hm9)
              clear hHeld hgl3 hgw3 hne hgl hgw hwl hm9 hr5 hB8 hh9 hs9 ht9 hg9 hh8
              go_wp2
              go_roundg k2
              case measure => omega
              case rel => exact ⟨k + 1, rfl, ⟨by have := JI.out; omega⟩, ⟨_, hp9.out⟩, hG9, h91, h94, hK9, hB9⟩
end Go.Proofs.Ytfpkakedlapmkaa.Q
end
section
set_option linter.unusedSimpArgs false
set_option linter.unusedVariables false
namespace Go.Proofs.Ytfpkakedlapmkaa.Q
open Go.RowKit Go.Proofs.YtfpkakedlapmkaaW.PrintWords Go.Proofs.YtfpkakedlapmkaaW.PrintLast Go.Proofs.YtfpkakedlapmkaaW.PrintMore
attribute [local go_sem] max2_int min2_int max_two min_two max_three min_three max_four min_four
def isP (s : ByteArray) (x : S106) : Bool := x.f0.toList == s.toList
theorem namedP_calls (s : ByteArray) (w : World) :
    Calls Try.prog 91 #[.string s] w fun e w' => ∃ gb, e = .returned (.func (.func 99) #[] #[.pointer (some ⟨gb, 0, none⟩)]) ∧ w.heap.size ≤ gb ∧ w'.heap[gb]? = some (.cells #[.string s] 9 (0, 0)) ∧ Below w.heap.size w w' := by
  have HB := Aside0.mk (Below.refl w.heap.size w)
  go_enter Try.func91, Try.ntmps91
  go_wp2_with (first
    | ((with_reducible refine gate_dst (N := 1) rfl ?_); refine box_event ?hg (N := 1) ?hd (cs := #[.string s]) (t := 9) ?hr ?_; (case hd => rfl); (case hg => rfl); (case hr => first | (go_simp; done) | (go_simp; rfl)); intro gb hg w1 hbox hb; have BK := Aside0.mk hbox; have HB := Aside0.mk hb; have GB := Aside0.mk (show w.heap.size ≤ gb from hg ▸ Nat.le_refl _); clear hbox hb hg))
  go_ret
  exact ⟨gb, rfl, GB.out, BK.out, HB.out⟩
set_option maxHeartbeats 1000000 in
theorem namedPC_calls (x : S106) (A1 : Option Addr) (c1 : Nat) (s : ByteArray) (gb : Nat) (w : World) (hh : w.heap[gb]? = some (.cells #[.string s] 9 (0, 0))) :
    Calls Try.prog 99 #[.agg #[.string x.f0, .slice A1 x.f1.length c1], .pointer (some ⟨gb, 0, none⟩)] w fun e w' => e = .returned (.bool (isP s x)) ∧ Below w.heap.size w w' := by
  have hu106 := Try.underlying106
  have hlt : gb < w.heap.size := by
    rw [Array.getElem?_eq_some_iff] at hh
    exact hh.1
  have HH := Aside0.mk hh
  have HLT := Aside0.mk hlt
  clear hh hlt
  go_enter Try.func99, Try.ntmps99
  go_wp2_with (first
    | ((with_reducible refine gate_dst (N := 2) rfl ?_); refine box_event ?hg (N := 2) ?hd (cs := #[.string x.f0, .slice A1 x.f1.length c1]) (t := 106) ?hr ?_; (case hd => rfl); (case hg => rfl); (case hr => first | (go_simp; done) | (go_simp; rfl)); intro ga hg w1 hbox hb; have BK := Aside0.mk hbox; have hz0 := (blk_cell BK.out 0).trans rfl; have hz1 := (blk_cell BK.out 1).trans rfl; have hf0 := blk_frozen BK.out 0; have hf1 := blk_frozen BK.out 1; have hz2 : w1.cell? ⟨gb, 0, none⟩ = some (.string s) := (hb.cell (p := ⟨gb, 0, none⟩) HLT.out).trans ((blk_cell HH.out 0).trans rfl); have HB := Aside0.mk hb; clear hbox hb hg))
  go_ret
  exact ⟨rfl, HB.out⟩
set_option maxHeartbeats 2000000 in
set_option maxRecDepth 100000 in
theorem indexProp_calls (s : ByteArray) (gb : Nat) (A : Option Addr) (c : Nat) (l : List S106) (w : World) (hC : Kd.C k106 w A l.length l) (hh : w.heap[gb]? = some (.cells #[.string s] 9 (0, 0))) :
    Calls Try.prog 98 #[.slice A l.length c, .func (.func 99) #[] #[.pointer (some ⟨gb, 0, none⟩)]] w fun e w' => e = .returned (.int .i64 (idxP (isP s) l)) ∧ Below w.heap.size w w' := by
  have hu106 := Try.underlying106
  have hlt := blk_lt hh
  have HC := Aside0.mk hC
  have HF := Aside0.mk (fun (x : S106) (A1 : Option Addr) (c1 : Nat) (W : World) (hb : Below w.heap.size w W)  => namedPC_calls x A1 c1 s gb W (by rw [hb.block gb hlt]; exact hh))
  clear hC hh
  go_enter Try.func98, Try.ntmps98
  go_wp2
  go_loopg [8] l.length (fun kq v8 w' => ∃ i : Int, v8 = .int .i64 i ∧ Aside0 (0 ≤ i ∧ i + kq = l.length) ∧ Aside0 (∀ j : Nat, j < i.toNat → (isP s) (l.getD j z106) = false) ∧ Aside0 (Below w.heap.size w w'))
  case atStart => exact ⟨0, rfl, ⟨by omega, by omega⟩, ⟨fun j hj => absurd hj (by simp)⟩, ⟨Below.refl _ _⟩⟩
  case round =>
    obtain ⟨i, rfl, HI, HZ, HB⟩ := hrel
    cases gk with
    | zero =>
      have hlt : decide (i < (l.length : Int)) = false := decide_eq_false (by have := HI.out; omega)
      go_wp2
      go_ret
      have hz := HZ.out
      have hi := HI.out
      refine ⟨?_, HB.out⟩
      rw [idxP_drop (isP s) z106 l i.toNat hz, List.drop_eq_nil_of_le (by omega)]
      rfl
    | succ k1 =>
      have hi := HI.out
      have hm := Kd.C_max HC.out
      have hlt : decide (i < (l.length : Int)) = true := decide_eq_true (by omega)
      have p1 : (0 ≤ i) = True := eq_true (by omega)
      have p2 : (i < (l.length : Int)) = True := eq_true (by omega)
      obtain ⟨ad, A1, c1, eA, hx0, hx1, hl1, hg1⟩ := at_T106 (Kd.C_below HC.out HB.out) i (by omega) (by omega)
      cases eA
      have HGD := Aside0.mk (show rd_T106 l i = l.getD i.toNat z106 from rfl)
      have HIN := Aside0.mk (show (isP s) (rd_T106 l i) = true → idxP (isP s) l = i from fun h => by
        rw [idxP_here (isP s) z106 l i.toNat HZ.out (by omega) h]
        omega)
      have hwr : IntKind.i64.wrap (i + 1) = i + 1 := (i64_w _).trans (by unfold wrap64; omega)
      have hwr2 : wrap64 (i + 1) = i + 1 := by unfold wrap64; omega
      clear hl1 hg1
      clear hi hm
      obtain ⟨b, hb0⟩ : ∃ b, b = (isP s) (rd_T106 l i) := ⟨_, rfl⟩
      have HBP := Aside0.mk hb0
      cases b with
      | true =>
        clear hb0
        go_wp2_with (first
          | (go_at_call 99; (with_reducible refine (HF.out (rd_T106 l i) A1 c1 _ HB.out ).mono ?_); rintro e w2 ⟨rfl, hb⟩; rw [← HBP.out]; have HB2 := Aside0.mk (below_step HB.out hb); clear hb))
        go_ret
        exact ⟨by rw [HIN.out HBP.out.symm]; rfl, HB2.out⟩
      | false =>
        clear hb0
        go_wp2_with (first
          | (go_at_call 99; (with_reducible refine (HF.out (rd_T106 l i) A1 c1 _ HB.out ).mono ?_); rintro e w2 ⟨rfl, hb⟩; rw [← HBP.out]; have HB2 := Aside0.mk (below_step HB.out hb); clear hb))
        go_roundg k1
        case measure => omega
        case rel =>
          have hi := HI.out
          refine ⟨i + 1, rfl, ⟨by omega, by omega⟩, ⟨fun j hj => ?_⟩, HB2⟩
          by_cases hji : j = i.toNat
          · subst hji
            rw [← HGD.out]
            exact HBP.out.symm
          · exact HZ.out j (by omega)
theorem containsProp_calls (s : ByteArray) (gb : Nat) (A : Option Addr) (c : Nat) (l : List S106) (w : World) (hC : Kd.C k106 w A l.length l) (hh : w.heap[gb]? = some (.cells #[.string s] 9 (0, 0))) :
    Calls Try.prog 90 #[.slice A l.length c, .func (.func 99) #[] #[.pointer (some ⟨gb, 0, none⟩)]] w fun e w' => e = .returned (.bool (l.any (isP s))) ∧ Below w.heap.size w w' := by
  have HIX := Aside0.mk (indexProp_calls s gb A c l w hC hh)
  have HAN := Aside0.mk (idxP_any (isP s) l)
  clear hC hh
  go_enter Try.func90, Try.ntmps90
  go_wp2_with (go_at_call 98; refine HIX.out.mono ?_; rintro e w1 ⟨rfl, hb⟩; have HB := Aside0.mk hb; clear hb)
  go_ret
  exact ⟨by rw [← HAN.out]; rfl, HB.out⟩
end Go.Proofs.Ytfpkakedlapmkaa.Q
end
section
namespace Go.Proofs.Ytfpkakedlapmkaa.Q
open Go.RowKit Go.Proofs.YtfpkakedlapmkaaW.PrintWords Go.Proofs.YtfpkakedlapmkaaW.PrintLast Go.Proofs.YtfpkakedlapmkaaW.PrintMore
set_option linter.unusedVariables false
set_option linter.unusedSimpArgs false

attribute [local go_sem] max2_int min2_int max_two min_two max_three min_three max_four min_four
/-! ### prop_Named: function 73 -/
mutual
def prop_Named.j0 : Nat → ByteArray → Bool → Option (Bool)
  | 0, _, _ => none
  | k + 1, x0, x11 => if x11 = true then (some false) else (prop_Named.l0 k x0 (x0.size : Int) 0)
def prop_Named.l0 : Nat → ByteArray → Int → Int → Option (Bool)
  | 0, _, _, _ => none
  | k + 1, x0, x13, x14 => if x14 < x13 then (if 0 ≤ x14 then (if x14 < (x0.size : Int) then (if (bt x0 x14) ≤ 32 then (prop_Named.j2 k x0 (bt x0 x14) x13 x14 true) else (if (bt x0 x14) > 126 then (prop_Named.j2 k x0 (bt x0 x14) x13 x14 true) else (if (bt x0 x14) ≥ 65 then (prop_Named.j2 k x0 (bt x0 x14) x13 x14 (decide ((bt x0 x14) ≤ 90))) else (prop_Named.j2 k x0 (bt x0 x14) x13 x14 false)))) else (none)) else (none)) else (some true)
def prop_Named.j2 : Nat → ByteArray → Int → Int → Int → Bool → Option (Bool)
  | 0, _, _, _, _, _ => none
  | k + 1, x0, x4, x13, x14, x20 => if x20 = true then (some false) else ((strings_IndexByte.f (⟨#[47, 92, 58, 91, 93, 64]⟩ : ByteArray) x4).bind fun t74001 => (if t74001 ≥ 0 then (some false) else (prop_Named.l0 k x0 x13 (wrap64 (x14 + 1)))))
end
def prop_Named.f (k : Nat) (a0 : ByteArray) : Option (Bool) := if a0.toList = ([] : List UInt8) then (prop_Named.j0 k a0 true) else (prop_Named.j0 k a0 (decide ((a0.size : Int) > 31)))
set_option maxHeartbeats 8000000 in
set_option maxRecDepth 100000 in
theorem prop_Named.calls (k : Nat) (a0 : ByteArray) (r : Bool) (w : World) (h : prop_Named.f k a0 = some r) :
    Calls Try.prog 73 #[.string a0] w fun e w' => e = .returned (.bool r) ∧ Below w.heap.size w w' := by
  have HB := Aside0.mk (Below.refl w.heap.size w)
  have H : (if a0.toList = ([] : List UInt8) then (prop_Named.j0 k a0 true) else (prop_Named.j0 k a0 (decide ((a0.size : Int) > 31)))) = some r := h
  clear h
  have HC2 := Aside0.mk H
  clear H
  go_enter Try.func73, Try.ntmps73
  go_upto_region 1 with (fail)
  go_cut [11] (fun v11 wc => ∃ (kq : Nat) (x11_1 : Bool), v11 = .bool x11_1 ∧ Aside0 (prop_Named.j0 kq a0 x11_1 = some r) ∧ Aside0 (kq ≤ k) ∧ Aside0 (Below w.heap.size w wc))
  case first =>
    have H := HC2.out
    clear HC2
    by_cases c3 : a0.toList = ([] : List UInt8)
    · rw [if_pos c3] at H
      have c3b0 : (a0.toList == ([] : List UInt8)) = true := beq_iff_eq.mpr c3
      have c3b1 : (a0.toList != ([] : List UInt8)) = false := bne_eq_false_iff_eq.mpr c3
      clear c3
      (first | rw [c3b0] | (simp only [i64_w, i32_w]; rw [c3b0]) | skip)
      have H' := Aside0.mk H
      clear H
      go_wp2
      go_meet
      case rel => exact ⟨_, (true), (by first | rfl | (simp; done) | (simp [*]; done)), H', ⟨by first | omega | exact Nat.le_refl _⟩, ⟨by repeat (first | (with_reducible first | exact HB.out | apply below_alloc | apply pw_below_drewN | apply below_drew1) | exact HB.out)⟩⟩
    · rw [if_neg c3] at H
      have c3b0 : (a0.toList == ([] : List UInt8)) = false := beq_eq_false_iff_ne.mpr c3
      have c3b1 : (a0.toList != ([] : List UInt8)) = true := bne_iff_ne.mpr c3
      (first | rw [c3b0] | (simp only [i64_w, i32_w]; rw [c3b0]) | skip)
      have H' := Aside0.mk H
      clear H
      go_wp2
      go_meet
      case rel => exact ⟨_, (decide ((a0.size : Int) > 31)), (by first | rfl | (simp; done) | (simp [*]; done)), H', ⟨by first | omega | exact Nat.le_refl _⟩, ⟨by repeat (first | (with_reducible first | exact HB.out | apply below_alloc | apply pw_below_drewN | apply below_drew1) | exact HB.out)⟩⟩
  case rest =>
    clear HC2
    try clear p2
    try clear c3
    try clear c3b0
    try clear c3b1
    obtain ⟨kq, x11_1, rfl, HA, HJ1, HB⟩ := hcut
    cases kq with
    | zero => exact absurd HA.out (by simp [prop_Named.j0])
    | succ kj1 =>
      have H := HA.out
      clear HA
      simp only [prop_Named.j0] at H
      by_cases c4 : x11_1 = true
      · subst c4
        have H1 : (some false) = some r := by rw [if_pos rfl] at H; exact H
        clear H
        have H := H1
        clear H1
        obtain rfl := Option.some.inj H
        go_wp2
        go_ret
        exact ⟨by first | rfl | (simp [errW_none, errW_some] <;> rfl) | (simp [*, errW_none, errW_some] <;> rfl), by repeat (first | (with_reducible first | exact HB.out | apply below_alloc | apply pw_below_drewN | apply below_drew1) | exact HB.out)⟩
      · replace c4 := Bool.eq_false_iff.mpr c4
        subst c4
        have H1 : (prop_Named.l0 kj1 a0 (a0.size : Int) 0) = some r := by rw [if_neg (show ¬ (false = true) by decide)] at H; exact H
        clear H
        have H := H1
        clear H1
        have H' := Aside0.mk H
        clear H
        go_wp2
        go_loopg [14] kj1 (fun kq v14 w' => ∃ (x14_2 : Int), v14 = .int .i64 x14_2 ∧ Aside0 (prop_Named.l0 kq a0 (a0.size : Int) x14_2 = some r) ∧ Aside0 (kq ≤ kj1) ∧ Aside0 (Below w.heap.size w w'))
        case atStart => exact ⟨(0), (by first | rfl | (simp; done) | (simp [*]; done)), H', ⟨Nat.le_refl _⟩, ⟨by repeat (first | (with_reducible first | exact HB.out | apply below_alloc | apply pw_below_drewN | apply below_drew1) | exact HB.out)⟩⟩
        case round =>
          clear H'
          try clear p2
          try clear c3
          try clear c3b0
          try clear c3b1
          try clear c4
          try clear p2
          obtain ⟨x14_2, rfl, HA, HK2, HB⟩ := hrel
          cases gk with
          | zero => exact absurd HA.out (by simp [prop_Named.l0])
          | succ k2 =>
            have H := HA.out
            clear HA
            simp only [prop_Named.l0] at H
            by_cases c5 : x14_2 < (a0.size : Int)
            · rw [if_pos c5] at H
              have c5b0 : decide (x14_2 < (a0.size : Int)) = true := decide_eq_true c5
              clear c5
              by_cases c6 : 0 ≤ x14_2
              · rw [if_pos c6] at H
                have c6b0 : decide (0 ≤ x14_2) = true := decide_eq_true c6
                clear c6
                by_cases c7 : x14_2 < (a0.size : Int)
                · rw [if_pos c7] at H
                  have c7b0 : decide (x14_2 < (a0.size : Int)) = true := decide_eq_true c7
                  clear c7
                  have HC9 := Aside0.mk H
                  clear H
                  have p8 : 0 ≤ (x14_2 : Int) := of_decide_eq_true (by first | (with_reducible assumption) | assumption)
                  have q8 : x14_2 < (a0.size : Int) := of_decide_eq_true (by first | (with_reducible assumption) | assumption)
                  have hx8 := bt_at a0 x14_2
                  replace p8 := eq_true p8
                  replace q8 := eq_true q8
                  go_upto_region 7 with (fail)
                  go_cut [20] (fun v20 wc => ∃ (kq : Nat) (x20_8 : Bool), v20 = .bool x20_8 ∧ Aside0 (prop_Named.j2 kq a0 (bt a0 x14_2) (a0.size : Int) x14_2 x20_8 = some r) ∧ Aside0 (kq ≤ k2) ∧ Aside0 (Below w.heap.size w wc))
                  case first =>
                    have H := HC9.out
                    clear HC9
                    by_cases c10 : (bt a0 x14_2) ≤ 32
                    · rw [if_pos c10] at H
                      have c10b0 : decide ((bt a0 x14_2) ≤ 32) = true := decide_eq_true c10
                      clear c10
                      (first | rw [c10b0] | (simp only [i64_w, i32_w]; rw [c10b0]) | skip)
                      have H' := Aside0.mk H
                      clear H
                      go_wp2
                      go_meet
                      case rel => exact ⟨_, (true), (by first | rfl | (simp; done) | (simp [*]; done)), H', ⟨by have := HJ1.out; have := HK2.out; first | omega | exact Nat.le_refl _⟩, ⟨by repeat (first | (with_reducible first | exact HB.out | apply below_alloc | apply pw_below_drewN | apply below_drew1) | exact HB.out)⟩⟩
                    · rw [if_neg c10] at H
                      have c10b0 : decide ((bt a0 x14_2) ≤ 32) = false := decide_eq_false c10
                      clear c10
                      (first | rw [c10b0] | (simp only [i64_w, i32_w]; rw [c10b0]) | skip)
                      by_cases c11 : (bt a0 x14_2) > 126
                      · rw [if_pos c11] at H
                        have c11b0 : decide (126 < (bt a0 x14_2)) = true := decide_eq_true c11
                        clear c11
                        have H' := Aside0.mk H
                        clear H
                        go_wp2
                        go_meet
                        case rel => exact ⟨_, (true), (by first | rfl | (simp; done) | (simp [*]; done)), H', ⟨by have := HJ1.out; have := HK2.out; first | omega | exact Nat.le_refl _⟩, ⟨by repeat (first | (with_reducible first | exact HB.out | apply below_alloc | apply pw_below_drewN | apply below_drew1) | exact HB.out)⟩⟩
                      · rw [if_neg c11] at H
                        have c11b0 : decide (126 < (bt a0 x14_2)) = false := decide_eq_false c11
                        clear c11
                        by_cases c12 : (bt a0 x14_2) ≥ 65
                        · rw [if_pos c12] at H
                          have c12b0 : decide (65 ≤ (bt a0 x14_2)) = true := decide_eq_true c12
                          clear c12
                          have H' := Aside0.mk H
                          clear H
                          go_wp2
                          go_meet
                          case rel => exact ⟨_, (decide ((bt a0 x14_2) ≤ 90)), (by first | rfl | (simp; done) | (simp [*]; done)), H', ⟨by have := HJ1.out; have := HK2.out; first | omega | exact Nat.le_refl _⟩, ⟨by repeat (first | (with_reducible first | exact HB.out | apply below_alloc | apply pw_below_drewN | apply below_drew1) | exact HB.out)⟩⟩
                        · rw [if_neg c12] at H
                          have c12b0 : decide (65 ≤ (bt a0 x14_2)) = false := decide_eq_false c12
                          clear c12
                          have H' := Aside0.mk H
                          clear H
                          go_wp2
                          go_meet
                          case rel => exact ⟨_, (false), (by first | rfl | (simp; done) | (simp [*]; done)), H', ⟨by have := HJ1.out; have := HK2.out; first | omega | exact Nat.le_refl _⟩, ⟨by repeat (first | (with_reducible first | exact HB.out | apply below_alloc | apply pw_below_drewN | apply below_drew1) | exact HB.out)⟩⟩
                  case rest =>
                    clear HC9
                    try clear c1
                    try clear p2
                    try clear c3
                    try clear c3b0
                    try clear c3b1
                    try clear c4
                    try clear c5
                    try clear c5b0
                    try clear c6
                    try clear c6b0
                    try clear c7
                    try clear c7b0
                    try clear p8
                    try clear q8
                    try clear hx8
                    try clear c10
                    try clear c10b0
                    try clear c11
                    try clear c11b0
                    try clear c12
                    try clear c12b0
                    try clear p2
                    try clear p8
                    try clear q8
                    obtain ⟨kq, x20_8, rfl, HA, HJ8, HB⟩ := hcut
                    cases kq with
                    | zero => exact absurd HA.out (by simp [prop_Named.j2])
                    | succ kj8 =>
                      have H := HA.out
                      clear HA
                      simp only [prop_Named.j2] at H
                      by_cases c13 : x20_8 = true
                      · subst c13
                        have H1 : (some false) = some r := by rw [if_pos rfl] at H; exact H
                        clear H
                        have H := H1
                        clear H1
                        obtain rfl := Option.some.inj H
                        go_wp2
                        go_ret
                        exact ⟨by first | rfl | (simp [errW_none, errW_some] <;> rfl) | (simp [*, errW_none, errW_some] <;> rfl), by repeat (first | (with_reducible first | exact HB.out | apply below_alloc | apply pw_below_drewN | apply below_drew1) | exact HB.out)⟩
                      · replace c13 := Bool.eq_false_iff.mpr c13
                        subst c13
                        have H1 : ((strings_IndexByte.f (⟨#[47, 92, 58, 91, 93, 64]⟩ : ByteArray) (bt a0 x14_2)).bind fun t74001 => (if t74001 ≥ 0 then (some false) else (prop_Named.l0 kj8 a0 (a0.size : Int) (wrap64 (x14_2 + 1))))) = some r := by rw [if_neg (show ¬ (false = true) by decide)] at H; exact H
                        clear H
                        have H := H1
                        clear H1
                        replace H := Option.bind_eq_some_iff.mp H
                        obtain ⟨t74001, A140, H⟩ := H
                        replace H : (if t74001 ≥ 0 then (some false) else (prop_Named.l0 kj8 a0 (a0.size : Int) (wrap64 (x14_2 + 1)))) = some r := H
                        have A14 := Aside0.mk A140
                        clear A140
                        by_cases c15 : t74001 ≥ 0
                        · rw [if_pos c15] at H
                          have c15b0 : decide (0 ≤ t74001) = true := decide_eq_true c15
                          clear c15
                          obtain rfl := Option.some.inj H
                          go_wp2_with (first | ((with_reducible refine gate_callee (f := 92) rfl ?_); refine goesL_ (some 37) rfl rfl Try.func92 (by kernel_rfl) rfl #[.string (⟨#[47, 92, 58, 91, 93, 64]⟩ : ByteArray), .int .u8 (bt a0 x14_2)] rfl (by (try simp only [List.map_toArray, List.map_cons, List.map_nil]); first | done | rfl | (simp only [List.length_drop, List.length_take]; rfl)) ?_; (with_reducible refine (strings_IndexByte.calls (⟨#[47, 92, 58, 91, 93, 64]⟩ : ByteArray) (bt a0 x14_2) t74001 _ A14.out).mono ?_); rintro e w16 ⟨rfl, hb⟩; refine ⟨_, rfl, ?_⟩; have n0_ := Aside0.mk (below_step (by repeat (first | (with_reducible first | exact HB.out | apply below_alloc | apply pw_below_drewN | apply below_drew1) | exact HB.out)) hb); clear HB; have HB := n0_; clear n0_; (try clear hb); (try clear hb2); (try clear hk); (try clear hi)))
                          go_ret
                          exact ⟨by first | rfl | (simp [errW_none, errW_some] <;> rfl) | (simp [*, errW_none, errW_some] <;> rfl), by repeat (first | (with_reducible first | exact HB.out | apply below_alloc | apply pw_below_drewN | apply below_drew1) | exact HB.out)⟩
                        · rw [if_neg c15] at H
                          have c15b0 : decide (0 ≤ t74001) = false := decide_eq_false c15
                          clear c15
                          have H' := Aside0.mk H
                          clear H
                          go_wp2_with (first | ((with_reducible refine gate_callee (f := 92) rfl ?_); refine goesL_ (some 37) rfl rfl Try.func92 (by kernel_rfl) rfl #[.string (⟨#[47, 92, 58, 91, 93, 64]⟩ : ByteArray), .int .u8 (bt a0 x14_2)] rfl (by (try simp only [List.map_toArray, List.map_cons, List.map_nil]); first | done | rfl | (simp only [List.length_drop, List.length_take]; rfl)) ?_; (with_reducible refine (strings_IndexByte.calls (⟨#[47, 92, 58, 91, 93, 64]⟩ : ByteArray) (bt a0 x14_2) t74001 _ A14.out).mono ?_); rintro e w17 ⟨rfl, hb⟩; refine ⟨_, rfl, ?_⟩; have n0_ := Aside0.mk (below_step (by repeat (first | (with_reducible first | exact HB.out | apply below_alloc | apply pw_below_drewN | apply below_drew1) | exact HB.out)) hb); clear HB; have HB := n0_; clear n0_; (try clear hb); (try clear hb2); (try clear hk); (try clear hi)))
                          go_roundg kj8
                          case measure => have := HJ1.out; have := HK2.out; have := HJ8.out; omega
                          case rel => exact ⟨(wrap64 (x14_2 + 1)), (by first | rfl | (simp; done) | (simp [*]; done)), H', ⟨by have := HJ1.out; have := HK2.out; have := HJ8.out; omega⟩, ⟨by repeat (first | (with_reducible first | exact HB.out | apply below_alloc | apply pw_below_drewN | apply below_drew1) | exact HB.out)⟩⟩
                · rw [if_neg c7] at H
                  exact absurd H (by simp)
              · rw [if_neg c6] at H
                exact absurd H (by simp)
            · rw [if_neg c5] at H
              have c5b0 : decide (x14_2 < (a0.size : Int)) = false := decide_eq_false c5
              clear c5
              obtain rfl := Option.some.inj H
              go_wp2
              go_ret
              exact ⟨by first | rfl | (simp [errW_none, errW_some] <;> rfl) | (simp [*, errW_none, errW_some] <;> rfl), by repeat (first | (with_reducible first | exact HB.out | apply below_alloc | apply pw_below_drewN | apply below_drew1) | exact HB.out)⟩

end Go.Proofs.Ytfpkakedlapmkaa.Q
end
section
namespace Go.Proofs.Ytfpkakedlapmkaa.Q
open Go.RowKit Go.Proofs.YtfpkakedlapmkaaW.PrintWords Go.Proofs.YtfpkakedlapmkaaW.PrintLast Go.Proofs.YtfpkakedlapmkaaW.PrintMore
set_option linter.unusedVariables false
set_option linter.unusedSimpArgs false

attribute [local go_sem] max2_int min2_int max_two min_two max_three min_three max_four min_four
/-! ### tinderref05_Named: function 82 -/
mutual
def tinderref05_Named.j0 : Nat → ByteArray → Bool → Option (Bool)
  | 0, _, _ => none
  | k + 1, x0, x13 => if x13 = true then (some false) else (tinderref05_Named.l0 k x0 0)
def tinderref05_Named.l0 : Nat → ByteArray → Int → Option (Bool)
  | 0, _, _ => none
  | k + 1, x0, x3 => if x3 < (x0.size : Int) then (if 0 ≤ x3 then (if (bt x0 x3) < 33 then (tinderref05_Named.j2 k x0 x3 (bt x0 x3) true) else (if (bt x0 x3) > 126 then (tinderref05_Named.j2 k x0 x3 (bt x0 x3) true) else (if (bt x0 x3) ≥ 65 then (tinderref05_Named.j2 k x0 x3 (bt x0 x3) (decide ((bt x0 x3) ≤ 90))) else (tinderref05_Named.j2 k x0 x3 (bt x0 x3) false)))) else (none)) else (some true)
def tinderref05_Named.j2 : Nat → ByteArray → Int → Int → Bool → Option (Bool)
  | 0, _, _, _, _ => none
  | k + 1, x0, x3, x4, x36 => if x36 = true then (some false) else (tinderref05_Named.l1 k x0 x3 x4 0)
def tinderref05_Named.l1 : Nat → ByteArray → Int → Int → Int → Option (Bool)
  | 0, _, _, _, _ => none
  | k + 1, x0, x3, x4, x5 => if x5 < 6 then (if 0 ≤ x5 then (if x4 = (bt (⟨#[47, 92, 58, 91, 93, 64]⟩ : ByteArray) x5) then (some false) else (tinderref05_Named.l1 k x0 x3 x4 (wrap64 (x5 + 1)))) else (none)) else (tinderref05_Named.l0 k x0 (wrap64 (x3 + 1)))
end
def tinderref05_Named.f (k : Nat) (a0 : ByteArray) : Option (Bool) := if (a0.size : Int) < 1 then (tinderref05_Named.j0 k a0 true) else (tinderref05_Named.j0 k a0 (decide ((a0.size : Int) > 31)))

end Go.Proofs.Ytfpkakedlapmkaa.Q
end
section
set_option linter.unusedSimpArgs false
set_option linter.unusedVariables false
namespace Go.Proofs.Ytfpkakedlapmkaa.Q
open Go.RowKit Go.Proofs.YtfpkakedlapmkaaW.PrintWords Go.Proofs.YtfpkakedlapmkaaW.PrintLast
theorem bytes_at (s : ByteArray) (i : Int) (h0 : 0 ≤ i) (h1 : i < s.size) : (bytesOf s).drop i.toNat = bt s i :: (bytesOf s).drop (i + 1).toNat := by
  have hl : i.toNat < (bytesOf s).length := by rw [bytesOf_length]; omega
  rw [List.drop_eq_getElem_cons hl, show (i + 1).toNat = i.toNat + 1 by omega, ← rd_bytesOf]
  simp [rd, List.getD_eq_getElem?_getD, List.getElem?_eq_getElem hl]
theorem empty_iff (s : ByteArray) : s.toList = ([] : List UInt8) ↔ s.size = 0 := by
  rw [ByteArray.toList_eq, ← List.length_eq_zero_iff, data_length]
def badB (c : Int) : Bool := decide (c = 47) || decide (c = 92) || decide (c = 58) || decide (c = 91) || decide (c = 93) || decide (c = 64)
def okC (c : Int) : Bool := decide (33 ≤ c) && decide (c ≤ 126) && !(decide (65 ≤ c) && decide (c ≤ 90)) && !badB c
def namedF (s : ByteArray) : Bool := decide (1 ≤ s.size) && decide (s.size ≤ 31) && (bytesOf s).all okC
theorem bad_all : ((List.range 256).all fun (c : Nat) => decide (0 ≤ Lib.indexByte (⟨#[47, 92, 58, 91, 93, 64]⟩ : ByteArray).data.toList ((c : Int).toNat.toUInt8)) == badB (c : Int)) = true := by kernel_rfl
theorem bad_idx (c : Int) (h : 0 ≤ c ∧ c ≤ 255) : decide (0 ≤ Lib.indexByte (⟨#[47, 92, 58, 91, 93, 64]⟩ : ByteArray).data.toList c.toNat.toUInt8) = badB c := by
  have h1 := List.all_eq_true.1 bad_all c.toNat (List.mem_range.2 (by omega))
  rw [beq_iff_eq, show ((c.toNat : Nat) : Int) = c by omega] at h1
  exact h1
theorem named_go (s : ByteArray) (hs : s.size ≤ 31) : ∀ (d k : Nat) (i : Int), 0 ≤ i → i + d = s.size → 2 * d + 2 ≤ k → prop_Named.l0 k s s.size i = some (((bytesOf s).drop i.toNat).all okC)
  | 0, k, i, h0, h1, hk => by
    obtain ⟨k, rfl⟩ : ∃ m, k = m + 1 := ⟨k - 1, by omega⟩
    rw [prop_Named.l0, if_neg (by omega), List.drop_eq_nil_of_le (by rw [bytesOf_length]; omega)]
    rfl
  | d + 1, k, i, h0, h1, hk => by
    obtain ⟨k, rfl⟩ : ∃ m, k = m + 1 + 1 := ⟨k - 2, by omega⟩
    have hb := bt_range s i
    have ih := named_go s hs d k (i + 1) (by omega) (by omega) (by omega)
    have hw : wrap64 (i + 1) = i + 1 := by unfold wrap64; omega
    rw [prop_Named.l0, if_pos (by omega), if_pos h0, if_pos (by omega), bytes_at s i h0 (by omega), List.all_cons]
    have ht : prop_Named.j2 (k + 1) s (bt s i) s.size i true = some false := by rw [prop_Named.j2, if_pos rfl]
    have hf : prop_Named.j2 (k + 1) s (bt s i) s.size i false = some (!badB (bt s i) && ((bytesOf s).drop (i + 1).toNat).all okC) := by
      rw [prop_Named.j2, if_neg (by decide), strings_IndexByte.f, Option.bind_some, hw, ih, ← bad_idx (bt s i) hb]
      by_cases hx : 0 ≤ Lib.indexByte (⟨#[47, 92, 58, 91, 93, 64]⟩ : ByteArray).data.toList (bt s i).toNat.toUInt8
      · rw [if_pos hx]; simp [hx]
      · rw [if_neg hx]; simp [hx]
    rw [show okC (bt s i) = (decide (33 ≤ bt s i) && decide (bt s i ≤ 126) && !(decide (65 ≤ bt s i) && decide (bt s i ≤ 90)) && !badB (bt s i)) from rfl]
    by_cases h2 : bt s i ≤ 32
    · rw [if_pos h2, ht]
      simp [show ¬ 33 ≤ bt s i by omega]
    · rw [if_neg h2]
      by_cases h3 : bt s i > 126
      · rw [if_pos h3, ht]
        simp [show ¬ bt s i ≤ 126 by omega]
      · rw [if_neg h3]
        by_cases h4 : bt s i ≥ 65
        · rw [if_pos h4]
          by_cases h5 : bt s i ≤ 90
          · rw [decide_eq_true h5, ht]
            simp [h5, show 65 ≤ bt s i by omega]
          · rw [decide_eq_false h5, hf]
            simp [h5, show 33 ≤ bt s i by omega, show bt s i ≤ 126 by omega]
        · rw [if_neg h4, hf]
          simp [show ¬ 65 ≤ bt s i by omega, show 33 ≤ bt s i by omega, show bt s i ≤ 126 by omega]
theorem named_eq (k : Nat) (hk : 100 ≤ k) (s : ByteArray) : prop_Named.f k s = some (namedF s) := by
  obtain ⟨k, rfl⟩ : ∃ m, k = m + 1 := ⟨k - 1, by omega⟩
  unfold prop_Named.f namedF
  by_cases h0 : s.size = 0
  · rw [if_pos ((empty_iff s).2 h0), prop_Named.j0, if_pos rfl]
    simp [h0]
  · rw [if_neg (fun h => h0 ((empty_iff s).1 h)), prop_Named.j0]
    by_cases h1 : (s.size : Int) > 31
    · rw [decide_eq_true h1, if_pos rfl]
      simp [show ¬ s.size ≤ 31 by omega]
    · rw [decide_eq_false h1, if_neg (by decide), named_go s (by omega) s.size k 0 (Int.le_refl 0) (by omega) (by omega)]
      simp [show 1 ≤ s.size by omega, show s.size ≤ 31 by omega]
end Go.Proofs.Ytfpkakedlapmkaa.Q
end
