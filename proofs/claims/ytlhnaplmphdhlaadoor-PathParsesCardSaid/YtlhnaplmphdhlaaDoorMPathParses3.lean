/- Contracts of Go functions and plain facts, of several texts, one behind the other; no condition. -/
import Derived.Test.YtlhnaplmphdhlaaDoorMPathParses1
import Derived.Test.YtlhnaplmphdhlaaDoorMPathParses2
section
namespace Go.Proofs.YtlhnaplmphdhlaaDoor.Q
open Go.RowKit Go.Proofs.YtlhnaplmphdhlaaDoorW.PrintWords Go.Proofs.YtlhnaplmphdhlaaDoorW.PrintLast Go.Proofs.YtlhnaplmphdhlaaDoorW.PrintMore
set_option linter.unusedVariables false
set_option linter.unusedSimpArgs false

attribute [local go_sem] max2_int min2_int max_two min_two max_three min_three max_four min_four
/-! ### tinderref07_step: function 62 -/
def tinderref07_step.j0 : Nat → ByteArray → Int → ByteArray → ByteArray → Option (ByteArray × List Int × ByteArray × Bool)
  | 0, _, _, _, _ => none
  | k + 1, x0, x5, x63003000, x63003002 => if 0 ≤ x5 then (if x5 ≤ (x0.size : Int) then ((tinderref07_Place.f k (x0.extract 0 (x5 : Int).toNat) 0 64).bind fun t63004 => (if t63004 < ((x0.extract 0 (x5 : Int).toNat).size : Int) then (if 0 ≤ (wrap64 (t63004 + 1)) then (if (wrap64 (t63004 + 1)) ≤ ((x0.extract 0 (x5 : Int).toNat).size : Int) then ((tinderref05_ParseUnit.f ((x0.extract 0 (x5 : Int).toNat).extract ((wrap64 (t63004 + 1)) : Int).toNat (x0.extract 0 (x5 : Int).toNat).size)).bind fun bt63005 => (if bt63005.2 = 0 then (if 0 ≤ t63004 then (if t63004 ≤ ((x0.extract 0 (x5 : Int).toNat).size : Int) then ((tinderref05_Named.f k ((x0.extract 0 (x5 : Int).toNat).extract 0 (t63004 : Int).toNat)).bind fun t63009 => (some ((x0.extract 0 (x5 : Int).toNat).extract 0 (t63004 : Int).toNat, bt63005.1, x63003002, t63009))) else (none)) else (none)) else (some ((⟨#[]⟩ : ByteArray), ([] : List Int), (⟨#[]⟩ : ByteArray), false)))) else (none)) else (none)) else (if 0 ≤ t63004 then (if t63004 ≤ ((x0.extract 0 (x5 : Int).toNat).size : Int) then ((tinderref05_Named.f k ((x0.extract 0 (x5 : Int).toNat).extract 0 (t63004 : Int).toNat)).bind fun t63010 => (some ((x0.extract 0 (x5 : Int).toNat).extract 0 (t63004 : Int).toNat, ([] : List Int), x63003002, t63010))) else (none)) else (none)))) else (none)) else (none)
def tinderref07_step.f (k : Nat) (a0 : ByteArray) : Option (ByteArray × List Int × ByteArray × Bool) := (tinderref07_Place.f k a0 0 58).bind fun t63003 => (if t63003 < (a0.size : Int) then (if 0 ≤ (wrap64 (t63003 + 1)) then (if (wrap64 (t63003 + 1)) ≤ (a0.size : Int) then (tinderref07_step.j0 k a0 t63003 (⟨#[]⟩ : ByteArray) (a0.extract ((wrap64 (t63003 + 1)) : Int).toNat a0.size)) else (none)) else (none)) else (tinderref07_step.j0 k a0 t63003 (⟨#[]⟩ : ByteArray) (⟨#[]⟩ : ByteArray)))
theorem tinderref07_step.mono_l : ∀ k, (∀ y0 y1 y2 y3, LeO (tinderref07_step.j0 k y0 y1 y2 y3) (tinderref07_step.j0 (k + 1) y0 y1 y2 y3))
  | 0 => fun _ _ _ _ r h => by simp [tinderref07_step.j0] at h
  | k + 1 => by
    have ih0 := tinderref07_step.mono_l k
    · intro y0 y1 y2 y3
      unfold tinderref07_step.j0
      repeat' first
      | (with_reducible exact ih0 _ _ _ _)
      | (with_reducible exact tinderref05_Named.mono _ _)
      | (with_reducible exact tinderref07_Place.mono _ _ _ _)
      | (with_reducible exact LeO.refl _)
      | (with_reducible exact LeO.none _)
      | (with_reducible refine LeO.ite ?_ ?_)
      | (with_reducible refine LeO.bind ?_ (fun _ => ?_))
      | exact ih0 _ _ _ _
      | exact tinderref05_Named.mono _ _
      | exact tinderref07_Place.mono _ _ _ _
      | exact LeO.none _
      | refine LeO.ite ?_ ?_
      | refine LeO.bind ?_ (fun _ => ?_)
theorem tinderref07_step.mono : ∀ a0 k, LeO (tinderref07_step.f k a0) (tinderref07_step.f (k + 1) a0) := by
  intro a0 k
  have ih0 := tinderref07_step.mono_l k
  unfold tinderref07_step.f
  repeat' first
      | (with_reducible exact ih0 _ _ _ _)
      | (with_reducible exact tinderref05_Named.mono _ _)
      | (with_reducible exact tinderref07_Place.mono _ _ _ _)
      | (with_reducible exact LeO.refl _)
      | (with_reducible exact LeO.none _)
      | (with_reducible refine LeO.ite ?_ ?_)
      | (with_reducible refine LeO.bind ?_ (fun _ => ?_))
      | exact ih0 _ _ _ _
      | exact tinderref05_Named.mono _ _
      | exact tinderref07_Place.mono _ _ _ _
      | exact LeO.none _
      | refine LeO.ite ?_ ?_
      | refine LeO.bind ?_ (fun _ => ?_)
set_option maxHeartbeats 8000000 in
set_option maxRecDepth 100000 in
theorem tinderref07_step.calls (k : Nat) (a0 : ByteArray) (r1 : ByteArray) (r2 : List Int) (r3 : ByteArray) (r4 : Bool) (w : World) (h : tinderref07_step.f k a0 = some (r1, r2, r3, r4)) :
    Calls Tryd.prog 62 #[.string a0] w fun e w' => ∃ v1_ : Value, e = .returned (.tuple #[.agg #[.string r1, v1_, .string r3], .bool r4]) ∧ Kd.R (Kd.int .u32) 24 w' w.heap.size (fun _ => True) v1_ r2 ∧ Below w.heap.size w w' := by
  have hu81 := Tryd.underlying81
  have HB := Aside0.mk (Below.refl w.heap.size w)
  have H : ((tinderref07_Place.f k a0 0 58).bind fun t63003 => (if t63003 < (a0.size : Int) then (if 0 ≤ (wrap64 (t63003 + 1)) then (if (wrap64 (t63003 + 1)) ≤ (a0.size : Int) then (tinderref07_step.j0 k a0 t63003 (⟨#[]⟩ : ByteArray) (a0.extract ((wrap64 (t63003 + 1)) : Int).toNat a0.size)) else (none)) else (none)) else (tinderref07_step.j0 k a0 t63003 (⟨#[]⟩ : ByteArray) (⟨#[]⟩ : ByteArray)))) = some (r1, r2, r3, r4) := h
  clear h
  replace H := Option.bind_eq_some_iff.mp H
  obtain ⟨t63003, A20, H⟩ := H
  replace H : (if t63003 < (a0.size : Int) then (if 0 ≤ (wrap64 (t63003 + 1)) then (if (wrap64 (t63003 + 1)) ≤ (a0.size : Int) then (tinderref07_step.j0 k a0 t63003 (⟨#[]⟩ : ByteArray) (a0.extract ((wrap64 (t63003 + 1)) : Int).toNat a0.size)) else (none)) else (none)) else (tinderref07_step.j0 k a0 t63003 (⟨#[]⟩ : ByteArray) (⟨#[]⟩ : ByteArray))) = some (r1, r2, r3, r4) := H
  have A2 := Aside0.mk A20
  clear A20
  have HC3 := Aside0.mk H
  clear H
  go_enter Tryd.func62, Tryd.ntmps62
  go_upto_if 14 with (first | ((with_reducible refine gate_dst (N := 2) rfl ?_); refine box_event ?hg (N := 2) ?hd (cs := #[.string (⟨#[]⟩ : ByteArray), .slice none 0 0, .string (⟨#[]⟩ : ByteArray)]) (t := 81) ?hr ?_; (case hd => rfl); (case hg => rfl); (case hr => first | (go_simp; done) | (go_simp; rfl)); intro gb63001 hg w4 hbox hb; have n0_ := Aside0.mk (below_step (by repeat (first | (with_reducible first | exact HB.out | apply below_alloc | apply pw_below_drewN | apply below_drew1) | exact HB.out)) hb); have n1_ := Aside0.mk (hbox); have n2_ := Aside0.mk ((by rw [hg]; exact (below_size (by repeat (first | (with_reducible first | exact HB.out | apply below_alloc | apply pw_below_drewN | apply below_drew1) | exact HB.out))) : w.heap.size ≤ gb63001)); have n3_ := Aside0.mk ((by rw [hg]; exact (below_size (by repeat (first | (with_reducible first | exact HB.out | apply below_alloc | apply pw_below_drewN | apply below_drew1) | exact HB.out))) : w.heap.size ≤ gb63001)); clear HB; have HB := n0_; have BK63001 := n1_; have GW63001 := n2_; have GE63001 := n3_; clear n0_ n1_ n2_ n3_; clear hb hbox hg) | ((with_reducible refine gate_dst (N := 4) rfl ?_); refine box_event ?hg (N := 4) ?hd (cs := #[.string (⟨#[]⟩ : ByteArray), .slice none 0 0, .string (⟨#[]⟩ : ByteArray)]) (t := 81) ?hr ?_; (case hd => rfl); (case hg => rfl); (case hr => first | (go_simp; done) | (go_simp; rfl)); intro gb63002 hg w5 hbox hb; have n0_ := Aside0.mk (blk_below (g := gb63001) (o := .cells #[.string (⟨#[]⟩ : ByteArray), .slice none 0 0, .string (⟨#[]⟩ : ByteArray)] 81 (0, 0)) (by (with_reducible repeat (first | refine blk_drewN ?_ _ | refine blk_drew ?_ | refine blk_alloc ?_ _)); exact BK63001.out) hb); have n1_ := Aside0.mk (below_step (by repeat (first | (with_reducible first | exact HB.out | apply below_alloc | apply pw_below_drewN | apply below_drew1 | refine below_set ?_ GE63001.out) | exact HB.out)) hb); have n2_ := Aside0.mk (hbox); have n3_ := Aside0.mk ((by rw [hg]; exact (below_size (by repeat (first | (with_reducible first | exact HB.out | apply below_alloc | apply pw_below_drewN | apply below_drew1 | refine below_set ?_ GE63001.out) | exact HB.out))) : w.heap.size ≤ gb63002)); have n4_ := Aside0.mk ((by rw [hg]; exact (below_size (by repeat (first | (with_reducible first | exact HB.out | apply below_alloc | apply pw_below_drewN | apply below_drew1 | refine below_set ?_ GE63001.out) | exact HB.out))) : w.heap.size ≤ gb63002)); have n5_ := Aside0.mk ((by rw [hg]; exact Nat.ne_of_lt (blk_lt (g := gb63001) (o := .cells #[.string (⟨#[]⟩ : ByteArray), .slice none 0 0, .string (⟨#[]⟩ : ByteArray)] 81 (0, 0)) (by (with_reducible repeat (first | refine blk_drewN ?_ _ | refine blk_drew ?_ | refine blk_alloc ?_ _)); exact BK63001.out)) : gb63001 ≠ gb63002)); have n6_ := Aside0.mk ((by rw [hg]; exact Nat.ne_of_gt (blk_lt (g := gb63001) (o := .cells #[.string (⟨#[]⟩ : ByteArray), .slice none 0 0, .string (⟨#[]⟩ : ByteArray)] 81 (0, 0)) (by (with_reducible repeat (first | refine blk_drewN ?_ _ | refine blk_drew ?_ | refine blk_alloc ?_ _)); exact BK63001.out)) : gb63002 ≠ gb63001)); clear BK63001; clear HB; have BK63001 := n0_; have HB := n1_; have BK63002 := n2_; have GW63002 := n3_; have GE63002 := n4_; have NB63001_63002 := n5_; have NB63002_63001 := n6_; clear n0_ n1_ n2_ n3_ n4_ n5_ n6_; clear hb hbox hg) | ((with_reducible refine gate_callee (f := 61) rfl ?_); refine goesL_ (some 10) rfl rfl Tryd.func61 (by kernel_rfl) rfl #[.string a0, .int .i64 0, .int .u8 58] rfl (by (try simp only [List.map_toArray, List.map_cons, List.map_nil]); first | done | rfl | (simp only [List.length_drop, List.length_take]; rfl)) ?_; (with_reducible refine (tinderref07_Place.calls k a0 0 58 t63003 _ A2.out).mono ?_); rintro e w' ⟨rfl, ⟨nd, rfl⟩⟩; refine ⟨_, rfl, ?_⟩))
  (try simp only [Act.put, List.setIfInBounds_toArray, List.set_cons_zero, List.set_cons_succ])
  go_cut [] (fun wc => ∃ (kq : Nat) (x63003002_2 : ByteArray), Aside0 (tinderref07_step.j0 kq a0 t63003 (⟨#[]⟩ : ByteArray) x63003002_2 = some (r1, r2, r3, r4)) ∧ Aside0 (kq ≤ k) ∧ Aside0 (wc.heap[gb63001]? = some (.cells #[.string (⟨#[]⟩ : ByteArray), (.slice none 0 0), .string (⟨#[]⟩ : ByteArray)] 81 (0, 0))) ∧ Aside0 (wc.heap[gb63002]? = some (.cells #[.string (⟨#[]⟩ : ByteArray), (.slice none 0 0), .string x63003002_2] 81 (0, 0))) ∧ Aside0 (Below w.heap.size w wc))
  case first =>
    have H := HC3.out
    clear HC3
    by_cases c6 : t63003 < (a0.size : Int)
    · rw [if_pos c6] at H
      have c6b0 : decide (t63003 < (a0.size : Int)) = true := decide_eq_true c6
      clear c6
      (first | rw [c6b0] | (simp only [i64_w, i32_w]; rw [c6b0]) | skip)
      obtain ⟨ji7, hji7⟩ : ∃ j_ : Int, (wrap64 (t63003 + 1)) = j_ := ⟨_, rfl⟩
      replace H : (if 0 ≤ (ji7) then (if (ji7) ≤ (a0.size : Int) then (tinderref07_step.j0 k a0 t63003 (⟨#[]⟩ : ByteArray) (a0.extract ((ji7) : Int).toNat a0.size)) else (none)) else (none)) = some (r1, r2, r3, r4) := by first | (rw [hji7] at H; exact H) | (simp only [hji7] at H ⊢; exact H)
      have hji7w : (IntKind.i64.wrap (t63003 + 1)) = ji7 := (i64_w _).trans hji7
      by_cases c8 : 0 ≤ (ji7)
      · rw [if_pos c8] at H
        have c8b0 := eq_true c8
        have c8b1 : decide (0 ≤ (ji7)) = true := decide_eq_true c8
        clear c8
        by_cases c9 : (ji7) ≤ (a0.size : Int)
        · rw [if_pos c9] at H
          have c9b0 := eq_true c9
          have c9b1 : decide ((ji7) ≤ (a0.size : Int)) = true := decide_eq_true c9
          clear c9
          have H' := Aside0.mk H
          clear H
          have hnb10 := NB63002_63001.out
          have hnc10 := NB63001_63002.out
          have hcz11_0 : w5.cell? ⟨gb63002, 0, none⟩ = some (.string (⟨#[]⟩ : ByteArray)) := (blk_cell BK63002.out 0).trans rfl
          have hcz11_1 : w5.cell? ⟨gb63002, 1, none⟩ = some (.slice none 0 0) := (blk_cell BK63002.out 1).trans rfl
          have hcz11_2 : w5.cell? ⟨gb63002, 2, none⟩ = some (.string (⟨#[]⟩ : ByteArray)) := (blk_cell BK63002.out 2).trans rfl
          have hfz11_0 := blk_frozen BK63002.out 0
          have hfz11_1 := blk_frozen BK63002.out 1
          have hfz11_2 := blk_frozen BK63002.out 2
          go_wp2
          go_meet
          case rel => exact ⟨_, (a0.extract ((ji7) : Int).toNat a0.size), H', ⟨by first | omega | exact Nat.le_refl _⟩, ⟨by (with_reducible repeat (first | refine blk_drewN ?_ _ | refine blk_drew ?_ | refine blk_alloc ?_ _)); refine blk_far ?_ NB63001_63002.out _; (with_reducible repeat (first | refine blk_drewN ?_ _ | refine blk_drew ?_ | refine blk_alloc ?_ _)); exact BK63001.out⟩, ⟨by (with_reducible repeat (first | refine blk_drewN ?_ _ | refine blk_drew ?_ | refine blk_alloc ?_ _)); refine blk_put (cs := #[.string (⟨#[]⟩ : ByteArray), .slice none 0 0, .string (⟨#[]⟩ : ByteArray)]) ?_ 2 _ rfl; (with_reducible repeat (first | refine blk_drewN ?_ _ | refine blk_drew ?_ | refine blk_alloc ?_ _)); exact BK63002.out⟩, ⟨by repeat (first | (with_reducible first | exact HB.out | apply below_alloc | apply pw_below_drewN | apply below_drew1 | refine below_set ?_ GE63001.out | refine below_set ?_ GE63002.out) | exact HB.out)⟩⟩
        · rw [if_neg c9] at H
          exact absurd H (by simp)
      · rw [if_neg c8] at H
        exact absurd H (by simp)
    · rw [if_neg c6] at H
      have c6b0 : decide (t63003 < (a0.size : Int)) = false := decide_eq_false c6
      clear c6
      (first | rw [c6b0] | (simp only [i64_w, i32_w]; rw [c6b0]) | skip)
      have H' := Aside0.mk H
      clear H
      go_wp2
      go_meet
      case rel => exact ⟨_, ((⟨#[]⟩ : ByteArray)), H', ⟨by first | omega | exact Nat.le_refl _⟩, ⟨by (with_reducible repeat (first | refine blk_drewN ?_ _ | refine blk_drew ?_ | refine blk_alloc ?_ _)); exact BK63001.out⟩, ⟨by (with_reducible repeat (first | refine blk_drewN ?_ _ | refine blk_drew ?_ | refine blk_alloc ?_ _)); exact BK63002.out⟩, ⟨by repeat (first | (with_reducible first | exact HB.out | apply below_alloc | apply pw_below_drewN | apply below_drew1 | refine below_set ?_ GE63001.out | refine below_set ?_ GE63002.out) | exact HB.out)⟩⟩
  case rest =>
    clear HC3
    try clear c1
    try clear p2
    try clear c6
    try clear c6b0
    try clear p6
    try clear c8
    try clear c8b0
    try clear c8b1
    try clear c9
    try clear c9b0
    try clear c9b1
    try clear c10
    try clear hcz11_0
    try clear hcz11_1
    try clear hcz11_2
    try clear hfz11_0
    try clear hfz11_1
    try clear hfz11_2
    obtain ⟨kq, x63003002_2, HA, HJ2, BK63001, BK63002, HB⟩ := hcut
    cases kq with
    | zero => exact absurd HA.out (by simp [tinderref07_step.j0])
    | succ kj2 =>
      have H := HA.out
      clear HA
      simp only [tinderref07_step.j0] at H
      by_cases c12 : 0 ≤ t63003
      · rw [if_pos c12] at H
        have c12b0 := eq_true c12
        have c12b1 : decide (0 ≤ t63003) = true := decide_eq_true c12
        clear c12
        by_cases c13 : t63003 ≤ (a0.size : Int)
        · rw [if_pos c13] at H
          have c13b0 := eq_true c13
          have c13b1 : decide (t63003 ≤ (a0.size : Int)) = true := decide_eq_true c13
          clear c13
          replace H := Option.bind_eq_some_iff.mp H
          obtain ⟨t63004, A140, H⟩ := H
          replace H : (if t63004 < ((a0.extract 0 (t63003 : Int).toNat).size : Int) then (if 0 ≤ (wrap64 (t63004 + 1)) then (if (wrap64 (t63004 + 1)) ≤ ((a0.extract 0 (t63003 : Int).toNat).size : Int) then ((tinderref05_ParseUnit.f ((a0.extract 0 (t63003 : Int).toNat).extract ((wrap64 (t63004 + 1)) : Int).toNat (a0.extract 0 (t63003 : Int).toNat).size)).bind fun bt63005 => (if bt63005.2 = 0 then (if 0 ≤ t63004 then (if t63004 ≤ ((a0.extract 0 (t63003 : Int).toNat).size : Int) then ((tinderref05_Named.f kj2 ((a0.extract 0 (t63003 : Int).toNat).extract 0 (t63004 : Int).toNat)).bind fun t63009 => (some ((a0.extract 0 (t63003 : Int).toNat).extract 0 (t63004 : Int).toNat, bt63005.1, x63003002_2, t63009))) else (none)) else (none)) else (some ((⟨#[]⟩ : ByteArray), ([] : List Int), (⟨#[]⟩ : ByteArray), false)))) else (none)) else (none)) else (if 0 ≤ t63004 then (if t63004 ≤ ((a0.extract 0 (t63003 : Int).toNat).size : Int) then ((tinderref05_Named.f kj2 ((a0.extract 0 (t63003 : Int).toNat).extract 0 (t63004 : Int).toNat)).bind fun t63010 => (some ((a0.extract 0 (t63003 : Int).toNat).extract 0 (t63004 : Int).toNat, ([] : List Int), x63003002_2, t63010))) else (none)) else (none))) = some (r1, r2, r3, r4) := H
          have A14 := Aside0.mk A140
          clear A140
          by_cases c15 : t63004 < ((a0.extract 0 (t63003 : Int).toNat).size : Int)
          · rw [if_pos c15] at H
            have c15n : decide (t63004 < max t63003 0) = true := decide_eq_true (by have h12 := of_eq_true c12b0; have h13 := of_eq_true c13b0; have h14 := c15; rw [ByteArray.size_extract] at h14; omega)
            have c15b0 : decide (t63004 < ((a0.extract 0 (t63003 : Int).toNat).size : Int)) = true := decide_eq_true c15
            clear c15
            obtain ⟨ji16, hji16⟩ : ∃ j_ : Int, (wrap64 (t63004 + 1)) = j_ := ⟨_, rfl⟩
            replace H : (if 0 ≤ (ji16) then (if (ji16) ≤ ((a0.extract 0 (t63003 : Int).toNat).size : Int) then ((tinderref05_ParseUnit.f ((a0.extract 0 (t63003 : Int).toNat).extract ((ji16) : Int).toNat (a0.extract 0 (t63003 : Int).toNat).size)).bind fun bt63005 => (if bt63005.2 = 0 then (if 0 ≤ t63004 then (if t63004 ≤ ((a0.extract 0 (t63003 : Int).toNat).size : Int) then ((tinderref05_Named.f kj2 ((a0.extract 0 (t63003 : Int).toNat).extract 0 (t63004 : Int).toNat)).bind fun t63009 => (some ((a0.extract 0 (t63003 : Int).toNat).extract 0 (t63004 : Int).toNat, bt63005.1, x63003002_2, t63009))) else (none)) else (none)) else (some ((⟨#[]⟩ : ByteArray), ([] : List Int), (⟨#[]⟩ : ByteArray), false)))) else (none)) else (none)) = some (r1, r2, r3, r4) := by first | (rw [hji16] at H; exact H) | (simp only [hji16] at H ⊢; exact H)
            (try rw [hji16] at A14)
            have hji16w : (IntKind.i64.wrap (t63004 + 1)) = ji16 := (i64_w _).trans hji16
            by_cases c17 : 0 ≤ (ji16)
            · rw [if_pos c17] at H
              have c17b0 := eq_true c17
              have c17b1 : decide (0 ≤ (ji16)) = true := decide_eq_true c17
              clear c17
              by_cases c18 : (ji16) ≤ ((a0.extract 0 (t63003 : Int).toNat).size : Int)
              · rw [if_pos c18] at H
                have c18n : ((ji16) ≤ max t63003 0) = True := eq_true (by have h12 := of_eq_true c12b0; have h13 := of_eq_true c13b0; have h14 := c18; rw [ByteArray.size_extract] at h14; omega)
                have c18b0 := eq_true c18
                have c18b1 : decide ((ji16) ≤ ((a0.extract 0 (t63003 : Int).toNat).size : Int)) = true := decide_eq_true c18
                clear c18
                replace H := Option.bind_eq_some_iff.mp H
                obtain ⟨⟨t63005, t63006⟩, A190, H⟩ := H
                replace H : (if t63006 = 0 then (if 0 ≤ t63004 then (if t63004 ≤ ((a0.extract 0 (t63003 : Int).toNat).size : Int) then ((tinderref05_Named.f kj2 ((a0.extract 0 (t63003 : Int).toNat).extract 0 (t63004 : Int).toNat)).bind fun t63009 => (some ((a0.extract 0 (t63003 : Int).toNat).extract 0 (t63004 : Int).toNat, t63005, x63003002_2, t63009))) else (none)) else (none)) else (some ((⟨#[]⟩ : ByteArray), ([] : List Int), (⟨#[]⟩ : ByteArray), false))) = some (r1, r2, r3, r4) := H
                have A19 := Aside0.mk A190
                clear A190
                by_cases c20 : t63006 = 0
                · rw [if_pos c20] at H
                  have c20b0 : (t63006 == 0) = true := beq_iff_eq.mpr c20
                  have c20b1 : (t63006 != 0) = false := bne_eq_false_iff_eq.mpr c20
                  clear c20
                  by_cases c21 : 0 ≤ t63004
                  · rw [if_pos c21] at H
                    have c21b0 := eq_true c21
                    have c21b1 : decide (0 ≤ t63004) = true := decide_eq_true c21
                    clear c21
                    by_cases c22 : t63004 ≤ ((a0.extract 0 (t63003 : Int).toNat).size : Int)
                    · rw [if_pos c22] at H
                      have c22n : (t63004 ≤ max t63003 0) = True := eq_true (by have h12 := of_eq_true c12b0; have h13 := of_eq_true c13b0; have h14 := c22; rw [ByteArray.size_extract] at h14; omega)
                      have c22b0 := eq_true c22
                      have c22b1 : decide (t63004 ≤ ((a0.extract 0 (t63003 : Int).toNat).size : Int)) = true := decide_eq_true c22
                      clear c22
                      replace H := Option.bind_eq_some_iff.mp H
                      obtain ⟨t63009, A230, H⟩ := H
                      replace H : (some ((a0.extract 0 (t63003 : Int).toNat).extract 0 (t63004 : Int).toNat, t63005, x63003002_2, t63009)) = some (r1, r2, r3, r4) := H
                      have A23 := Aside0.mk A230
                      clear A230
                      simp only [Option.some.injEq, Prod.mk.injEq] at H
                      obtain ⟨rfl, rfl, rfl, rfl⟩ := H
                      try go_wp2_with (first | ((with_reducible refine gate_callee (f := 61) rfl ?_); refine goesL_ (some 24) rfl rfl Tryd.func61 (by kernel_rfl) rfl #[.string (a0.extract 0 (t63003 : Int).toNat), .int .i64 0, .int .u8 64] rfl (by (try simp only [List.map_toArray, List.map_cons, List.map_nil]); first | done | rfl | (simp only [List.length_drop, List.length_take]; rfl)) ?_; (with_reducible refine (tinderref07_Place.calls kj2 (a0.extract 0 (t63003 : Int).toNat) 0 64 t63004 _ A14.out).mono ?_); rintro e w' ⟨rfl, ⟨nd, rfl⟩⟩; refine ⟨_, rfl, ?_⟩; (try (rw [drewN_self wc]; generalize hq_ : World.drewN wc _ = wc; have n0_ : Aside0 (wc.heap[gb63001]? = some (.cells #[.string (⟨#[]⟩ : ByteArray), .slice none 0 0, .string (⟨#[]⟩ : ByteArray)] 81 (0, 0))) := ⟨by rw [← hq_]; exact (by (with_reducible repeat (first | refine blk_drewN ?_ _ | refine blk_drew ?_ | refine blk_alloc ?_ _)); exact BK63001.out)⟩; have n1_ : Aside0 (wc.heap[gb63002]? = some (.cells #[.string (⟨#[]⟩ : ByteArray), .slice none 0 0, .string x63003002_2] 81 (0, 0))) := ⟨by rw [← hq_]; exact (by (with_reducible repeat (first | refine blk_drewN ?_ _ | refine blk_drew ?_ | refine blk_alloc ?_ _)); exact BK63002.out)⟩; have n2_ : Aside0 (Below w.heap.size w wc) := ⟨by rw [← hq_]; exact (by repeat (first | (with_reducible first | exact HB.out | apply below_alloc | apply pw_below_drewN | apply below_drew1 | refine below_set ?_ GE63001.out | refine below_set ?_ GE63002.out) | exact HB.out))⟩; clear BK63001 BK63002 HB hq_; have BK63001 := n0_; have BK63002 := n1_; have HB := n2_; clear n0_ n1_ n2_))) | ((with_reducible refine gate_callee (f := 36) rfl ?_); refine goesL_ (some 34) rfl rfl Tryd.func36 (by kernel_rfl) rfl #[.string ((a0.extract 0 (t63003 : Int).toNat).extract ((ji16) : Int).toNat (t63003 : Int).toNat)] rfl (by (try simp only [List.map_toArray, List.map_cons, List.map_nil]); first | done | (simp only [hji16]; rfl) | rfl | (simp only [List.length_drop, List.length_take]; rfl)) ?_; (first | rw [show (a0.extract 0 (t63003 : Int).toNat).extract (ji16 : Int).toNat (t63003 : Int).toNat = (a0.extract 0 (t63003 : Int).toNat).extract (ji16 : Int).toNat (a0.extract 0 (t63003 : Int).toNat).size from by have h12 := of_eq_true c12b0; have h13 := of_eq_true c13b0; rw [ByteArray.size_extract]; congr 1; omega] | skip); (with_reducible refine (tinderref05_ParseUnit.calls ((a0.extract 0 (t63003 : Int).toNat).extract ((ji16) : Int).toNat (a0.extract 0 (t63003 : Int).toNat).size) t63005 t63006 _ A19.out).mono ?_); rintro e w24 ⟨v63007, rfl, ho0, hb⟩; refine ⟨_, rfl, ?_⟩; have n0_ := Aside0.mk (Kd.R_lower ho0 (below_size (by repeat (first | (with_reducible first | exact HB.out | apply below_alloc | apply pw_below_drewN | apply below_drew1 | refine below_set ?_ GE63001.out | refine below_set ?_ GE63002.out) | exact HB.out)))); have n1_ := Aside0.mk (blk_below (g := gb63001) (o := .cells #[.string (⟨#[]⟩ : ByteArray), .slice none 0 0, .string (⟨#[]⟩ : ByteArray)] 81 (0, 0)) (by (with_reducible repeat (first | refine blk_drewN ?_ _ | refine blk_drew ?_ | refine blk_alloc ?_ _)); exact BK63001.out) hb); have n2_ := Aside0.mk (blk_below (g := gb63002) (o := .cells #[.string (⟨#[]⟩ : ByteArray), .slice none 0 0, .string x63003002_2] 81 (0, 0)) (by (with_reducible repeat (first | refine blk_drewN ?_ _ | refine blk_drew ?_ | refine blk_alloc ?_ _)); exact BK63002.out) hb); have n3_ := Aside0.mk (below_step (by repeat (first | (with_reducible first | exact HB.out | apply below_alloc | apply pw_below_drewN | apply below_drew1 | refine below_set ?_ GE63001.out | refine below_set ?_ GE63002.out) | exact HB.out)) hb); clear BK63001; clear BK63002; clear HB; have HO63008 := n0_; have BK63001 := n1_; have BK63002 := n2_; have HB := n3_; clear n0_ n1_ n2_ n3_; (try clear hb); (try clear hb2); (try clear hk); (try clear hi); (try clear ho0); obtain ⟨Ao25, co25, eo25⟩ := Kd.R_slice HO63008.out; subst eo25; have hnb26 := NB63002_63001.out; have hnc26 := NB63001_63002.out; have hcz27_0 : w24.cell? ⟨gb63002, 0, none⟩ = some (.string (⟨#[]⟩ : ByteArray)) := (blk_cell BK63002.out 0).trans rfl; have hcz27_1 : w24.cell? ⟨gb63002, 1, none⟩ = some (.slice none 0 0) := (blk_cell BK63002.out 1).trans rfl; have hcz27_2 : w24.cell? ⟨gb63002, 2, none⟩ = some (.string x63003002_2) := (blk_cell BK63002.out 2).trans rfl; have hfz27_0 := blk_frozen BK63002.out 0; have hfz27_1 := blk_frozen BK63002.out 1; have hfz27_2 := blk_frozen BK63002.out 2))
                      have n0_ : Aside0 (Kd.R (Kd.int .u32) 24 ((w24.setCell ⟨gb63002, 1, none⟩ (.slice Ao25 t63005.length co25)).setCell ⟨gb63002, 0, none⟩ (.string ((a0.extract 0 (t63003 : Int).toNat).extract 0 (t63004 : Int).toNat))) w.heap.size (fun _ => True) (.slice Ao25 t63005.length co25) t63005) := ⟨by (with_reducible repeat (first | apply Kd.R_alloc | apply Kd.R_drewN | apply Kd.R_drew)); exact Kd.R_mono (Kd.R_far (p := ⟨gb63002, 0, none⟩) (Kd.R_far (p := ⟨gb63002, 1, none⟩) (Kd.R_types HO63008.out BK63002.out (by decide)) (fun _ hk => hk.2) (.slice Ao25 t63005.length co25)) (fun _ hk => hk.2) (.string ((a0.extract 0 (t63003 : Int).toNat).extract 0 (t63004 : Int).toNat))) (fun _ hk => trivial)⟩
                      have n1_ : Aside0 (((w24.setCell ⟨gb63002, 1, none⟩ (.slice Ao25 t63005.length co25)).setCell ⟨gb63002, 0, none⟩ (.string ((a0.extract 0 (t63003 : Int).toNat).extract 0 (t63004 : Int).toNat))).heap[gb63001]? = some (.cells #[.string (⟨#[]⟩ : ByteArray), .slice none 0 0, .string (⟨#[]⟩ : ByteArray)] 81 (0, 0))) := ⟨by (with_reducible repeat (first | refine blk_drewN ?_ _ | refine blk_drew ?_ | refine blk_alloc ?_ _)); refine blk_far ?_ NB63001_63002.out _; (with_reducible repeat (first | refine blk_drewN ?_ _ | refine blk_drew ?_ | refine blk_alloc ?_ _)); refine blk_far ?_ NB63001_63002.out _; (with_reducible repeat (first | refine blk_drewN ?_ _ | refine blk_drew ?_ | refine blk_alloc ?_ _)); exact BK63001.out⟩
                      have n2_ : Aside0 (((w24.setCell ⟨gb63002, 1, none⟩ (.slice Ao25 t63005.length co25)).setCell ⟨gb63002, 0, none⟩ (.string ((a0.extract 0 (t63003 : Int).toNat).extract 0 (t63004 : Int).toNat))).heap[gb63002]? = some (.cells #[.string ((a0.extract 0 (t63003 : Int).toNat).extract 0 (t63004 : Int).toNat), .slice Ao25 t63005.length co25, .string x63003002_2] 81 (0, 0))) := ⟨by (with_reducible repeat (first | refine blk_drewN ?_ _ | refine blk_drew ?_ | refine blk_alloc ?_ _)); refine blk_put (cs := #[.string (⟨#[]⟩ : ByteArray), .slice Ao25 t63005.length co25, .string x63003002_2]) ?_ 0 _ rfl; (with_reducible repeat (first | refine blk_drewN ?_ _ | refine blk_drew ?_ | refine blk_alloc ?_ _)); refine blk_put (cs := #[.string (⟨#[]⟩ : ByteArray), .slice none 0 0, .string x63003002_2]) ?_ 1 _ rfl; (with_reducible repeat (first | refine blk_drewN ?_ _ | refine blk_drew ?_ | refine blk_alloc ?_ _)); exact BK63002.out⟩
                      have n3_ : Aside0 (Below w.heap.size w ((w24.setCell ⟨gb63002, 1, none⟩ (.slice Ao25 t63005.length co25)).setCell ⟨gb63002, 0, none⟩ (.string ((a0.extract 0 (t63003 : Int).toNat).extract 0 (t63004 : Int).toNat)))) := ⟨by repeat (first | (with_reducible first | exact HB.out | apply below_alloc | apply pw_below_drewN | apply below_drew1 | refine below_set ?_ GE63001.out | refine below_set ?_ GE63002.out) | exact HB.out)⟩
                      (try clear HO63008)
                      (try clear BK63001)
                      (try clear BK63002)
                      (try clear HB)
                      generalize ((w24.setCell ⟨gb63002, 1, none⟩ (.slice Ao25 t63005.length co25)).setCell ⟨gb63002, 0, none⟩ (.string ((a0.extract 0 (t63003 : Int).toNat).extract 0 (t63004 : Int).toNat))) = w28 at n0_ n1_ n2_ n3_ ⊢
                      have HO63008 := n0_
                      have BK63001 := n1_
                      have BK63002 := n2_
                      have HB := n3_
                      clear n0_ n1_ n2_ n3_
                      have n0_ := Aside0.mk (Kd.R_drew HO63008.out)
                      have n1_ := Aside0.mk (blk_drew BK63001.out)
                      have n2_ := Aside0.mk (blk_drew BK63002.out)
                      have n3_ := Aside0.mk (below_drew1 HB.out)
                      clear HO63008
                      clear BK63001
                      clear BK63002
                      clear HB
                      have HO63008 := n0_
                      have BK63001 := n1_
                      have BK63002 := n2_
                      have HB := n3_
                      clear n0_ n1_ n2_ n3_
                      refine start_ (n := 6) (S := fun w' => w'.cell? ⟨gb63002, 0, none⟩ = some (.string ((a0.extract 0 (t63003 : Int).toNat).extract 0 (t63004 : Int).toNat)) ∧ w'.cell? ⟨gb63002, 1, none⟩ = some (.slice Ao25 t63005.length co25) ∧ w'.cell? ⟨gb63002, 2, none⟩ = some (.string x63003002_2)) (ds := []) #[false, false, false, false, false, false] (by kernel_rfl) rfl rfl ⟨(blk_cell BK63002.out 0).trans rfl, (blk_cell BK63002.out 1).trans rfl, (blk_cell BK63002.out 2).trans rfl⟩ (fun hHeld => ?_)
                      generalize w28.drew = w29 at HO63008 BK63001 BK63002 HB hHeld ⊢
                      refine pure_ (i := 1) (N := some 47) (v := ?_) (a' := ?_) #[false, true, false, false, false, false] rfl rfl (by kernel_rfl) (fun _ _ _ h => h) (Or.inl ⟨by rfl, ?_⟩) ?_ ?_
                      rotate_left
                      · intro w'
                        go_simp
                        with_reducible rfl
                      rotate_left
                      · simp only [Act.put, List.setIfInBounds_toArray, List.set_cons_zero, List.set_cons_succ, i64_w, i32_w]
                        rfl
                      refine take_ (i := 0) (N := some 46) (v := ?_) (a' := ?_) #[true, true, false, false, false, false] rfl rfl (by kernel_rfl) (fun _ _ _ h => h) (Or.inl ⟨by rfl, ?_⟩) hHeld ?_ ?_
                      rotate_left
                      · rintro w' ⟨s0, s1, s2⟩
                        go_simp
                        with_reducible rfl
                      rotate_left
                      · simp only [Act.put, List.setIfInBounds_toArray, List.set_cons_zero, List.set_cons_succ, i64_w, i32_w]
                        rfl
                      refine take_ (i := 2) (N := some 48) (v := ?_) (a' := ?_) #[true, true, true, false, false, false] rfl rfl (by kernel_rfl) (fun _ _ _ h => h) (Or.inl ⟨by rfl, ?_⟩) hHeld ?_ ?_
                      rotate_left
                      · rintro w' ⟨s0, s1, s2⟩
                        go_simp
                        with_reducible rfl
                      rotate_left
                      · simp only [Act.put, List.setIfInBounds_toArray, List.set_cons_zero, List.set_cons_succ, i64_w, i32_w]
                        rfl
                      refine one_ (i := 3) (N := some 49) #[true, true, true, true, false, false] rfl rfl (by kernel_rfl) (by decide) (fun K hK => ?_)
                      refine goes_ Tryd.func16 (by kernel_rfl) rfl #[.string ((a0.extract 0 (t63003 : Int).toNat).extract 0 (t63004 : Int).toNat)] (by rfl) rfl rfl (by (try simp only [List.map_toArray, List.map_cons, List.map_nil]); first | done | rfl | (simp only [List.length_drop, List.length_take]; rfl)) ?_
                      with_reducible refine (tinderref05_Named.calls kj2 ((a0.extract 0 (t63003 : Int).toNat).extract 0 (t63004 : Int).toNat) t63009 _ A23.out).mono ?_
                      rintro e w' ⟨rfl, ⟨nd, rfl⟩⟩
                      refine ⟨_, rfl, ?_⟩
                      refine hK.out _ _ ⟨(blk_cell BK63002.out 0).trans rfl, (blk_cell BK63002.out 1).trans rfl, (blk_cell BK63002.out 2).trans rfl⟩ (fun hHeld => ?_)
                      clear hK K
                      refine norm_ (a' := ?_) ?_ ?_
                      rotate_left
                      · show Act.put _ (some 49) _ = _
                        simp only [Act.put, List.setIfInBounds_toArray, List.set_cons_zero, List.set_cons_succ, i64_w, i32_w]
                        rfl
                      refine one_ (i := 4) (N := none) #[true, true, true, true, true, false] rfl rfl (by kernel_rfl) (by decide) (fun K hK => ?_)
                      have hs30 : w29.cell? ⟨gb63001, 0, none⟩ = some (.string (⟨#[]⟩ : ByteArray)) := (blk_cell BK63001.out 0).trans rfl
                      have hfs30 := blk_frozen BK63001.out 0
                      have hns30_1 := NB63002_63001.out
                      have hms30_1 := NB63001_63002.out
                      have hs31 : w29.cell? ⟨gb63001, 1, none⟩ = some (.slice none 0 0) := (blk_cell BK63001.out 1).trans rfl
                      have hfs31 := blk_frozen BK63001.out 1
                      have hns31_1 := NB63002_63001.out
                      have hms31_1 := NB63001_63002.out
                      have hs32 : w29.cell? ⟨gb63001, 2, none⟩ = some (.string (⟨#[]⟩ : ByteArray)) := (blk_cell BK63001.out 2).trans rfl
                      have hfs32 := blk_frozen BK63001.out 2
                      have hns32_1 := NB63002_63001.out
                      have hms32_1 := NB63001_63002.out
                      refine skip_ (w1 := ?_) (by rfl) rfl ?_ ?_
                      rotate_left
                      · go_simp
                        rfl
                      refine hK.out _ _ ⟨((cell_far (p := ⟨gb63001, _, none⟩) NB63002_63001.out _).trans (((cell_far (p := ⟨gb63001, _, none⟩) NB63002_63001.out _).trans (((cell_far (p := ⟨gb63001, _, none⟩) NB63002_63001.out _).trans (hHeld.1)))))), ((cell_far (p := ⟨gb63001, _, none⟩) NB63002_63001.out _).trans (((cell_far (p := ⟨gb63001, _, none⟩) NB63002_63001.out _).trans (((cell_far (p := ⟨gb63001, _, none⟩) NB63002_63001.out _).trans (hHeld.2.1)))))), ((cell_far (p := ⟨gb63001, _, none⟩) NB63002_63001.out _).trans (((cell_far (p := ⟨gb63001, _, none⟩) NB63002_63001.out _).trans (((cell_far (p := ⟨gb63001, _, none⟩) NB63002_63001.out _).trans (hHeld.2.2))))))⟩ (fun hHeld => ?_)
                      clear hK K
                      refine pure_ (i := 5) (N := some 3) (v := ?_) (a' := ?_) #[true, true, true, true, true, true] rfl rfl (by kernel_rfl) (fun _ _ _ h => h) (Or.inl ⟨by rfl, ?_⟩) ?_ ?_
                      rotate_left
                      · intro w'
                        go_simp
                        with_reducible rfl
                      rotate_left
                      · simp only [Act.put, List.setIfInBounds_toArray, List.set_cons_zero, List.set_cons_succ, i64_w, i32_w]
                        rfl
                      refine done_ (by kernel_rfl) ?_
                      try go_wp2
                      refine bodyPost_ret (results_ct rfl _ _ gb63001 81 #[.string ((a0.extract 0 (t63003 : Int).toNat).extract 0 (t63004 : Int).toNat), .slice Ao25 t63005.length co25, .string x63003002_2] (0, 0) _ rfl (by (with_reducible repeat (first | refine blk_drewN ?_ _ | refine blk_drew ?_ | refine blk_alloc ?_ _)); refine blk_put (cs := #[.string ((a0.extract 0 (t63003 : Int).toNat).extract 0 (t63004 : Int).toNat), .slice Ao25 t63005.length co25, .string (⟨#[]⟩ : ByteArray)]) ?_ 2 _ rfl; (with_reducible repeat (first | refine blk_drewN ?_ _ | refine blk_drew ?_ | refine blk_alloc ?_ _)); refine blk_put (cs := #[.string ((a0.extract 0 (t63003 : Int).toNat).extract 0 (t63004 : Int).toNat), .slice none 0 0, .string (⟨#[]⟩ : ByteArray)]) ?_ 1 _ rfl; (with_reducible repeat (first | refine blk_drewN ?_ _ | refine blk_drew ?_ | refine blk_alloc ?_ _)); refine blk_put (cs := #[.string (⟨#[]⟩ : ByteArray), .slice none 0 0, .string (⟨#[]⟩ : ByteArray)]) ?_ 0 _ rfl; (with_reducible repeat (first | refine blk_drewN ?_ _ | refine blk_drew ?_ | refine blk_alloc ?_ _)); exact BK63001.out) Tryd.underlying81 rfl (by kernel_rfl)) rfl ?_
                      exact ⟨_, by first | rfl | (simp [errW_none, errW_some] <;> rfl) | (simp only [← hji16]; first | rfl | (simp [errW_none, errW_some] <;> rfl)) | (simp [*, errW_none, errW_some] <;> rfl), by (with_reducible repeat (first | apply Kd.R_alloc | apply Kd.R_drewN | apply Kd.R_drew)); exact Kd.R_mono (Kd.R_far (p := ⟨gb63001, 2, none⟩) (Kd.R_far (p := ⟨gb63001, 1, none⟩) (Kd.R_far (p := ⟨gb63001, 0, none⟩) (Kd.R_types HO63008.out BK63001.out (by decide)) (fun _ hk => hk.2) (.string ((a0.extract 0 (t63003 : Int).toNat).extract 0 (t63004 : Int).toNat))) (fun _ hk => hk.2) (.slice Ao25 t63005.length co25)) (fun _ hk => hk.2) (.string x63003002_2)) (fun _ hk => trivial), by repeat (first | (with_reducible first | exact HB.out | apply below_alloc | apply pw_below_drewN | apply below_drew1 | refine below_set ?_ GE63001.out | refine below_set ?_ GE63002.out) | exact HB.out)⟩
                    · rw [if_neg c22] at H
                      exact absurd H (by simp)
                  · rw [if_neg c21] at H
                    exact absurd H (by simp)
                · rw [if_neg c20] at H
                  have c20b0 : (t63006 == 0) = false := beq_eq_false_iff_ne.mpr c20
                  have c20b1 : (t63006 != 0) = true := bne_iff_ne.mpr c20
                  simp only [Option.some.injEq, Prod.mk.injEq] at H
                  obtain ⟨rfl, rfl, rfl, rfl⟩ := H
                  go_wp2_with (first | ((with_reducible refine gate_callee (f := 61) rfl ?_); refine goesL_ (some 24) rfl rfl Tryd.func61 (by kernel_rfl) rfl #[.string (a0.extract 0 (t63003 : Int).toNat), .int .i64 0, .int .u8 64] rfl (by (try simp only [List.map_toArray, List.map_cons, List.map_nil]); first | done | rfl | (simp only [List.length_drop, List.length_take]; rfl)) ?_; (with_reducible refine (tinderref07_Place.calls kj2 (a0.extract 0 (t63003 : Int).toNat) 0 64 t63004 _ A14.out).mono ?_); rintro e w' ⟨rfl, ⟨nd, rfl⟩⟩; refine ⟨_, rfl, ?_⟩; (try (rw [drewN_self wc]; generalize hq_ : World.drewN wc _ = wc; have n0_ : Aside0 (wc.heap[gb63001]? = some (.cells #[.string (⟨#[]⟩ : ByteArray), .slice none 0 0, .string (⟨#[]⟩ : ByteArray)] 81 (0, 0))) := ⟨by rw [← hq_]; exact (by (with_reducible repeat (first | refine blk_drewN ?_ _ | refine blk_drew ?_ | refine blk_alloc ?_ _)); exact BK63001.out)⟩; have n1_ : Aside0 (wc.heap[gb63002]? = some (.cells #[.string (⟨#[]⟩ : ByteArray), .slice none 0 0, .string x63003002_2] 81 (0, 0))) := ⟨by rw [← hq_]; exact (by (with_reducible repeat (first | refine blk_drewN ?_ _ | refine blk_drew ?_ | refine blk_alloc ?_ _)); exact BK63002.out)⟩; have n2_ : Aside0 (Below w.heap.size w wc) := ⟨by rw [← hq_]; exact (by repeat (first | (with_reducible first | exact HB.out | apply below_alloc | apply pw_below_drewN | apply below_drew1 | refine below_set ?_ GE63001.out | refine below_set ?_ GE63002.out) | exact HB.out))⟩; clear BK63001 BK63002 HB hq_; have BK63001 := n0_; have BK63002 := n1_; have HB := n2_; clear n0_ n1_ n2_))) | ((with_reducible refine gate_callee (f := 36) rfl ?_); refine goesL_ (some 34) rfl rfl Tryd.func36 (by kernel_rfl) rfl #[.string ((a0.extract 0 (t63003 : Int).toNat).extract ((ji16) : Int).toNat (t63003 : Int).toNat)] rfl (by (try simp only [List.map_toArray, List.map_cons, List.map_nil]); first | done | (simp only [hji16]; rfl) | rfl | (simp only [List.length_drop, List.length_take]; rfl)) ?_; (first | rw [show (a0.extract 0 (t63003 : Int).toNat).extract (ji16 : Int).toNat (t63003 : Int).toNat = (a0.extract 0 (t63003 : Int).toNat).extract (ji16 : Int).toNat (a0.extract 0 (t63003 : Int).toNat).size from by have h12 := of_eq_true c12b0; have h13 := of_eq_true c13b0; rw [ByteArray.size_extract]; congr 1; omega] | skip); (with_reducible refine (tinderref05_ParseUnit.calls ((a0.extract 0 (t63003 : Int).toNat).extract ((ji16) : Int).toNat (a0.extract 0 (t63003 : Int).toNat).size) t63005 t63006 _ A19.out).mono ?_); rintro e w33 ⟨v63007, rfl, ho0, hb⟩; refine ⟨_, rfl, ?_⟩; have n0_ := Aside0.mk (Kd.R_lower ho0 (below_size (by repeat (first | (with_reducible first | exact HB.out | apply below_alloc | apply pw_below_drewN | apply below_drew1 | refine below_set ?_ GE63001.out | refine below_set ?_ GE63002.out) | exact HB.out)))); have n1_ := Aside0.mk (blk_below (g := gb63001) (o := .cells #[.string (⟨#[]⟩ : ByteArray), .slice none 0 0, .string (⟨#[]⟩ : ByteArray)] 81 (0, 0)) (by (with_reducible repeat (first | refine blk_drewN ?_ _ | refine blk_drew ?_ | refine blk_alloc ?_ _)); exact BK63001.out) hb); have n2_ := Aside0.mk (blk_below (g := gb63002) (o := .cells #[.string (⟨#[]⟩ : ByteArray), .slice none 0 0, .string x63003002_2] 81 (0, 0)) (by (with_reducible repeat (first | refine blk_drewN ?_ _ | refine blk_drew ?_ | refine blk_alloc ?_ _)); exact BK63002.out) hb); have n3_ := Aside0.mk (below_step (by repeat (first | (with_reducible first | exact HB.out | apply below_alloc | apply pw_below_drewN | apply below_drew1 | refine below_set ?_ GE63001.out | refine below_set ?_ GE63002.out) | exact HB.out)) hb); clear BK63001; clear BK63002; clear HB; have HO63008 := n0_; have BK63001 := n1_; have BK63002 := n2_; have HB := n3_; clear n0_ n1_ n2_ n3_; (try clear hb); (try clear hb2); (try clear hk); (try clear hi); (try clear ho0); have hnb34 := NB63001_63002.out; have hnc34 := NB63002_63001.out; have hcz35_0 : w33.cell? ⟨gb63001, 0, none⟩ = some (.string (⟨#[]⟩ : ByteArray)) := (blk_cell BK63001.out 0).trans rfl; have hcz35_1 : w33.cell? ⟨gb63001, 1, none⟩ = some (.slice none 0 0) := (blk_cell BK63001.out 1).trans rfl; have hcz35_2 : w33.cell? ⟨gb63001, 2, none⟩ = some (.string (⟨#[]⟩ : ByteArray)) := (blk_cell BK63001.out 2).trans rfl; have hfz35_0 := blk_frozen BK63001.out 0; have hfz35_1 := blk_frozen BK63001.out 1; have hfz35_2 := blk_frozen BK63001.out 2))
                  refine bodyPost_ret (results_ct rfl _ _ gb63001 81 #[.string (⟨#[]⟩ : ByteArray), .slice none 0 0, .string (⟨#[]⟩ : ByteArray)] (0, 0) _ rfl (by (with_reducible repeat (first | refine blk_drewN ?_ _ | refine blk_drew ?_ | refine blk_alloc ?_ _)); refine blk_put (cs := #[.string (⟨#[]⟩ : ByteArray), .slice none 0 0, .string (⟨#[]⟩ : ByteArray)]) ?_ 2 _ rfl; (with_reducible repeat (first | refine blk_drewN ?_ _ | refine blk_drew ?_ | refine blk_alloc ?_ _)); refine blk_put (cs := #[.string (⟨#[]⟩ : ByteArray), .slice none 0 0, .string (⟨#[]⟩ : ByteArray)]) ?_ 1 _ rfl; (with_reducible repeat (first | refine blk_drewN ?_ _ | refine blk_drew ?_ | refine blk_alloc ?_ _)); refine blk_put (cs := #[.string (⟨#[]⟩ : ByteArray), .slice none 0 0, .string (⟨#[]⟩ : ByteArray)]) ?_ 0 _ rfl; (with_reducible repeat (first | refine blk_drewN ?_ _ | refine blk_drew ?_ | refine blk_alloc ?_ _)); exact BK63001.out) Tryd.underlying81 rfl (by kernel_rfl)) rfl ?_
                  exact ⟨_, by first | rfl | (simp [errW_none, errW_some] <;> rfl) | (simp only [← hji16]; first | rfl | (simp [errW_none, errW_some] <;> rfl)) | (simp [*, errW_none, errW_some] <;> rfl), by first | exact Kd.R_nil _ _ _ _ _ | exact Kd.N_nil _ _ _ _ _ | exact Kd.V_nil _ _ _ _ _ | exact Kd.Q_nil _ _ _ _ _ | exact Kd.S_nil _ _ _ _ _, by repeat (first | (with_reducible first | exact HB.out | apply below_alloc | apply pw_below_drewN | apply below_drew1 | refine below_set ?_ GE63001.out | refine below_set ?_ GE63002.out) | exact HB.out)⟩
              · rw [if_neg c18] at H
                exact absurd H (by simp)
            · rw [if_neg c17] at H
              exact absurd H (by simp)
          · rw [if_neg c15] at H
            have c15n : decide (t63004 < max t63003 0) = false := decide_eq_false (by have h12 := of_eq_true c12b0; have h13 := of_eq_true c13b0; have h14 := c15; rw [ByteArray.size_extract] at h14; omega)
            have c15b0 : decide (t63004 < ((a0.extract 0 (t63003 : Int).toNat).size : Int)) = false := decide_eq_false c15
            clear c15
            by_cases c36 : 0 ≤ t63004
            · rw [if_pos c36] at H
              have c36b0 := eq_true c36
              have c36b1 : decide (0 ≤ t63004) = true := decide_eq_true c36
              clear c36
              by_cases c37 : t63004 ≤ ((a0.extract 0 (t63003 : Int).toNat).size : Int)
              · rw [if_pos c37] at H
                have c37n : (t63004 ≤ max t63003 0) = True := eq_true (by have h12 := of_eq_true c12b0; have h13 := of_eq_true c13b0; have h14 := c37; rw [ByteArray.size_extract] at h14; omega)
                have c37b0 := eq_true c37
                have c37b1 : decide (t63004 ≤ ((a0.extract 0 (t63003 : Int).toNat).size : Int)) = true := decide_eq_true c37
                clear c37
                replace H := Option.bind_eq_some_iff.mp H
                obtain ⟨t63010, A380, H⟩ := H
                replace H : (some ((a0.extract 0 (t63003 : Int).toNat).extract 0 (t63004 : Int).toNat, ([] : List Int), x63003002_2, t63010)) = some (r1, r2, r3, r4) := H
                have A38 := Aside0.mk A380
                clear A380
                simp only [Option.some.injEq, Prod.mk.injEq] at H
                obtain ⟨rfl, rfl, rfl, rfl⟩ := H
                try go_wp2_with (first | ((with_reducible refine gate_callee (f := 61) rfl ?_); refine goesL_ (some 24) rfl rfl Tryd.func61 (by kernel_rfl) rfl #[.string (a0.extract 0 (t63003 : Int).toNat), .int .i64 0, .int .u8 64] rfl (by (try simp only [List.map_toArray, List.map_cons, List.map_nil]); first | done | rfl | (simp only [List.length_drop, List.length_take]; rfl)) ?_; (with_reducible refine (tinderref07_Place.calls kj2 (a0.extract 0 (t63003 : Int).toNat) 0 64 t63004 _ A14.out).mono ?_); rintro e w' ⟨rfl, ⟨nd, rfl⟩⟩; refine ⟨_, rfl, ?_⟩; (try (rw [drewN_self wc]; generalize hq_ : World.drewN wc _ = wc; have n0_ : Aside0 (wc.heap[gb63001]? = some (.cells #[.string (⟨#[]⟩ : ByteArray), .slice none 0 0, .string (⟨#[]⟩ : ByteArray)] 81 (0, 0))) := ⟨by rw [← hq_]; exact (by (with_reducible repeat (first | refine blk_drewN ?_ _ | refine blk_drew ?_ | refine blk_alloc ?_ _)); exact BK63001.out)⟩; have n1_ : Aside0 (wc.heap[gb63002]? = some (.cells #[.string (⟨#[]⟩ : ByteArray), .slice none 0 0, .string x63003002_2] 81 (0, 0))) := ⟨by rw [← hq_]; exact (by (with_reducible repeat (first | refine blk_drewN ?_ _ | refine blk_drew ?_ | refine blk_alloc ?_ _)); exact BK63002.out)⟩; have n2_ : Aside0 (Below w.heap.size w wc) := ⟨by rw [← hq_]; exact (by repeat (first | (with_reducible first | exact HB.out | apply below_alloc | apply pw_below_drewN | apply below_drew1 | refine below_set ?_ GE63001.out | refine below_set ?_ GE63002.out) | exact HB.out))⟩; clear BK63001 BK63002 HB hq_; have BK63001 := n0_; have BK63002 := n1_; have HB := n2_; clear n0_ n1_ n2_)); have hnb39 := NB63002_63001.out; have hnc39 := NB63001_63002.out; have hcz40_0 : wc.cell? ⟨gb63002, 0, none⟩ = some (.string (⟨#[]⟩ : ByteArray)) := (blk_cell BK63002.out 0).trans rfl; have hcz40_1 : wc.cell? ⟨gb63002, 1, none⟩ = some (.slice none 0 0) := (blk_cell BK63002.out 1).trans rfl; have hcz40_2 : wc.cell? ⟨gb63002, 2, none⟩ = some (.string x63003002_2) := (blk_cell BK63002.out 2).trans rfl; have hfz40_0 := blk_frozen BK63002.out 0; have hfz40_1 := blk_frozen BK63002.out 1; have hfz40_2 := blk_frozen BK63002.out 2))
                have n0_ : Aside0 ((wc.setCell ⟨gb63002, 0, none⟩ (.string ((a0.extract 0 (t63003 : Int).toNat).extract 0 (t63004 : Int).toNat))).heap[gb63001]? = some (.cells #[.string (⟨#[]⟩ : ByteArray), .slice none 0 0, .string (⟨#[]⟩ : ByteArray)] 81 (0, 0))) := ⟨by (with_reducible repeat (first | refine blk_drewN ?_ _ | refine blk_drew ?_ | refine blk_alloc ?_ _)); refine blk_far ?_ NB63001_63002.out _; (with_reducible repeat (first | refine blk_drewN ?_ _ | refine blk_drew ?_ | refine blk_alloc ?_ _)); exact BK63001.out⟩
                have n1_ : Aside0 ((wc.setCell ⟨gb63002, 0, none⟩ (.string ((a0.extract 0 (t63003 : Int).toNat).extract 0 (t63004 : Int).toNat))).heap[gb63002]? = some (.cells #[.string ((a0.extract 0 (t63003 : Int).toNat).extract 0 (t63004 : Int).toNat), .slice none 0 0, .string x63003002_2] 81 (0, 0))) := ⟨by (with_reducible repeat (first | refine blk_drewN ?_ _ | refine blk_drew ?_ | refine blk_alloc ?_ _)); refine blk_put (cs := #[.string (⟨#[]⟩ : ByteArray), .slice none 0 0, .string x63003002_2]) ?_ 0 _ rfl; (with_reducible repeat (first | refine blk_drewN ?_ _ | refine blk_drew ?_ | refine blk_alloc ?_ _)); exact BK63002.out⟩
                have n2_ : Aside0 (Below w.heap.size w (wc.setCell ⟨gb63002, 0, none⟩ (.string ((a0.extract 0 (t63003 : Int).toNat).extract 0 (t63004 : Int).toNat)))) := ⟨by repeat (first | (with_reducible first | exact HB.out | apply below_alloc | apply pw_below_drewN | apply below_drew1 | refine below_set ?_ GE63001.out | refine below_set ?_ GE63002.out) | exact HB.out)⟩
                (try clear BK63001)
                (try clear BK63002)
                (try clear HB)
                generalize (wc.setCell ⟨gb63002, 0, none⟩ (.string ((a0.extract 0 (t63003 : Int).toNat).extract 0 (t63004 : Int).toNat))) = w41 at n0_ n1_ n2_ ⊢
                have BK63001 := n0_
                have BK63002 := n1_
                have HB := n2_
                clear n0_ n1_ n2_
                have n0_ := Aside0.mk (blk_drew BK63001.out)
                have n1_ := Aside0.mk (blk_drew BK63002.out)
                have n2_ := Aside0.mk (below_drew1 HB.out)
                clear BK63001
                clear BK63002
                clear HB
                have BK63001 := n0_
                have BK63002 := n1_
                have HB := n2_
                clear n0_ n1_ n2_
                refine start_ (n := 6) (S := fun w' => w'.cell? ⟨gb63002, 0, none⟩ = some (.string ((a0.extract 0 (t63003 : Int).toNat).extract 0 (t63004 : Int).toNat)) ∧ w'.cell? ⟨gb63002, 1, none⟩ = some (.slice none 0 0) ∧ w'.cell? ⟨gb63002, 2, none⟩ = some (.string x63003002_2)) (ds := []) #[false, false, false, false, false, false] (by kernel_rfl) rfl rfl ⟨(blk_cell BK63002.out 0).trans rfl, (blk_cell BK63002.out 1).trans rfl, (blk_cell BK63002.out 2).trans rfl⟩ (fun hHeld => ?_)
                generalize w41.drew = w42 at BK63001 BK63002 HB hHeld ⊢
                refine pure_ (i := 1) (N := some 47) (v := ?_) (a' := ?_) #[false, true, false, false, false, false] rfl rfl (by kernel_rfl) (fun _ _ _ h => h) (Or.inl ⟨by rfl, ?_⟩) ?_ ?_
                rotate_left
                · intro w'
                  go_simp
                  with_reducible rfl
                rotate_left
                · simp only [Act.put, List.setIfInBounds_toArray, List.set_cons_zero, List.set_cons_succ, i64_w, i32_w]
                  rfl
                refine take_ (i := 0) (N := some 46) (v := ?_) (a' := ?_) #[true, true, false, false, false, false] rfl rfl (by kernel_rfl) (fun _ _ _ h => h) (Or.inl ⟨by rfl, ?_⟩) hHeld ?_ ?_
                rotate_left
                · rintro w' ⟨s0, s1, s2⟩
                  go_simp
                  with_reducible rfl
                rotate_left
                · simp only [Act.put, List.setIfInBounds_toArray, List.set_cons_zero, List.set_cons_succ, i64_w, i32_w]
                  rfl
                refine take_ (i := 2) (N := some 48) (v := ?_) (a' := ?_) #[true, true, true, false, false, false] rfl rfl (by kernel_rfl) (fun _ _ _ h => h) (Or.inl ⟨by rfl, ?_⟩) hHeld ?_ ?_
                rotate_left
                · rintro w' ⟨s0, s1, s2⟩
                  go_simp
                  with_reducible rfl
                rotate_left
                · simp only [Act.put, List.setIfInBounds_toArray, List.set_cons_zero, List.set_cons_succ, i64_w, i32_w]
                  rfl
                refine one_ (i := 3) (N := some 49) #[true, true, true, true, false, false] rfl rfl (by kernel_rfl) (by decide) (fun K hK => ?_)
                refine goes_ Tryd.func16 (by kernel_rfl) rfl #[.string ((a0.extract 0 (t63003 : Int).toNat).extract 0 (t63004 : Int).toNat)] (by rfl) rfl rfl (by (try simp only [List.map_toArray, List.map_cons, List.map_nil]); first | done | rfl | (simp only [List.length_drop, List.length_take]; rfl)) ?_
                with_reducible refine (tinderref05_Named.calls kj2 ((a0.extract 0 (t63003 : Int).toNat).extract 0 (t63004 : Int).toNat) t63010 _ A38.out).mono ?_
                rintro e w' ⟨rfl, ⟨nd, rfl⟩⟩
                refine ⟨_, rfl, ?_⟩
                refine hK.out _ _ ⟨(blk_cell BK63002.out 0).trans rfl, (blk_cell BK63002.out 1).trans rfl, (blk_cell BK63002.out 2).trans rfl⟩ (fun hHeld => ?_)
                clear hK K
                refine norm_ (a' := ?_) ?_ ?_
                rotate_left
                · show Act.put _ (some 49) _ = _
                  simp only [Act.put, List.setIfInBounds_toArray, List.set_cons_zero, List.set_cons_succ, i64_w, i32_w]
                  rfl
                refine one_ (i := 4) (N := none) #[true, true, true, true, true, false] rfl rfl (by kernel_rfl) (by decide) (fun K hK => ?_)
                have hs43 : w42.cell? ⟨gb63001, 0, none⟩ = some (.string (⟨#[]⟩ : ByteArray)) := (blk_cell BK63001.out 0).trans rfl
                have hfs43 := blk_frozen BK63001.out 0
                have hns43_1 := NB63002_63001.out
                have hms43_1 := NB63001_63002.out
                have hs44 : w42.cell? ⟨gb63001, 1, none⟩ = some (.slice none 0 0) := (blk_cell BK63001.out 1).trans rfl
                have hfs44 := blk_frozen BK63001.out 1
                have hns44_1 := NB63002_63001.out
                have hms44_1 := NB63001_63002.out
                have hs45 : w42.cell? ⟨gb63001, 2, none⟩ = some (.string (⟨#[]⟩ : ByteArray)) := (blk_cell BK63001.out 2).trans rfl
                have hfs45 := blk_frozen BK63001.out 2
                have hns45_1 := NB63002_63001.out
                have hms45_1 := NB63001_63002.out
                refine skip_ (w1 := ?_) (by rfl) rfl ?_ ?_
                rotate_left
                · go_simp
                  rfl
                refine hK.out _ _ ⟨((cell_far (p := ⟨gb63001, _, none⟩) NB63002_63001.out _).trans (((cell_far (p := ⟨gb63001, _, none⟩) NB63002_63001.out _).trans (((cell_far (p := ⟨gb63001, _, none⟩) NB63002_63001.out _).trans (hHeld.1)))))), ((cell_far (p := ⟨gb63001, _, none⟩) NB63002_63001.out _).trans (((cell_far (p := ⟨gb63001, _, none⟩) NB63002_63001.out _).trans (((cell_far (p := ⟨gb63001, _, none⟩) NB63002_63001.out _).trans (hHeld.2.1)))))), ((cell_far (p := ⟨gb63001, _, none⟩) NB63002_63001.out _).trans (((cell_far (p := ⟨gb63001, _, none⟩) NB63002_63001.out _).trans (((cell_far (p := ⟨gb63001, _, none⟩) NB63002_63001.out _).trans (hHeld.2.2))))))⟩ (fun hHeld => ?_)
                clear hK K
                refine pure_ (i := 5) (N := some 3) (v := ?_) (a' := ?_) #[true, true, true, true, true, true] rfl rfl (by kernel_rfl) (fun _ _ _ h => h) (Or.inl ⟨by rfl, ?_⟩) ?_ ?_
                rotate_left
                · intro w'
                  go_simp
                  with_reducible rfl
                rotate_left
                · simp only [Act.put, List.setIfInBounds_toArray, List.set_cons_zero, List.set_cons_succ, i64_w, i32_w]
                  rfl
                refine done_ (by kernel_rfl) ?_
                try go_wp2
                refine bodyPost_ret (results_ct rfl _ _ gb63001 81 #[.string ((a0.extract 0 (t63003 : Int).toNat).extract 0 (t63004 : Int).toNat), .slice none 0 0, .string x63003002_2] (0, 0) _ rfl (by (with_reducible repeat (first | refine blk_drewN ?_ _ | refine blk_drew ?_ | refine blk_alloc ?_ _)); refine blk_put (cs := #[.string ((a0.extract 0 (t63003 : Int).toNat).extract 0 (t63004 : Int).toNat), .slice none 0 0, .string (⟨#[]⟩ : ByteArray)]) ?_ 2 _ rfl; (with_reducible repeat (first | refine blk_drewN ?_ _ | refine blk_drew ?_ | refine blk_alloc ?_ _)); refine blk_put (cs := #[.string ((a0.extract 0 (t63003 : Int).toNat).extract 0 (t63004 : Int).toNat), .slice none 0 0, .string (⟨#[]⟩ : ByteArray)]) ?_ 1 _ rfl; (with_reducible repeat (first | refine blk_drewN ?_ _ | refine blk_drew ?_ | refine blk_alloc ?_ _)); refine blk_put (cs := #[.string (⟨#[]⟩ : ByteArray), .slice none 0 0, .string (⟨#[]⟩ : ByteArray)]) ?_ 0 _ rfl; (with_reducible repeat (first | refine blk_drewN ?_ _ | refine blk_drew ?_ | refine blk_alloc ?_ _)); exact BK63001.out) Tryd.underlying81 rfl (by kernel_rfl)) rfl ?_
                exact ⟨_, by first | rfl | (simp [errW_none, errW_some] <;> rfl) | (simp [*, errW_none, errW_some] <;> rfl), by first | exact Kd.R_nil _ _ _ _ _ | exact Kd.N_nil _ _ _ _ _ | exact Kd.V_nil _ _ _ _ _ | exact Kd.Q_nil _ _ _ _ _ | exact Kd.S_nil _ _ _ _ _, by repeat (first | (with_reducible first | exact HB.out | apply below_alloc | apply pw_below_drewN | apply below_drew1 | refine below_set ?_ GE63001.out | refine below_set ?_ GE63002.out) | exact HB.out)⟩
              · rw [if_neg c37] at H
                exact absurd H (by simp)
            · rw [if_neg c36] at H
              exact absurd H (by simp)
        · rw [if_neg c13] at H
          exact absurd H (by simp)
      · rw [if_neg c12] at H
        exact absurd H (by simp)

end Go.Proofs.YtlhnaplmphdhlaaDoor.Q
end
section
namespace Go.Proofs.YtlhnaplmphdhlaaDoor.Q
open Go.RowKit Go.Proofs.YtlhnaplmphdhlaaDoorW.PrintWords Go.Proofs.YtlhnaplmphdhlaaDoorW.PrintLast Go.Proofs.YtlhnaplmphdhlaaDoorW.PrintMore
set_option linter.unusedVariables false
set_option linter.unusedSimpArgs false

attribute [local go_sem] max2_int min2_int max_two min_two max_three min_three max_four min_four
/-! ### tinderref07_Parse: function 41 -/
mutual
def tinderref07_Parse.j0 : Nat → ByteArray → List (S81) → Bool → Option ((List (S81)) × Int)
  | 0, _, _, _ => none
  | k + 1, x0, x4, x20 => if x20 = true then (some (([] : List (S81)), 15)) else (tinderref07_Parse.l0 k x0 x4 0)
def tinderref07_Parse.l0 : Nat → ByteArray → List (S81) → Int → Option ((List (S81)) × Int)
  | 0, _, _, _ => none
  | k + 1, x0, x4, x5 => if x5 < (x0.size : Int) then ((tinderref07_Place.f k x0 (wrap64 (x5 + 1)) 47).bind fun t42001 => (if 0 ≤ (wrap64 (x5 + 1)) then (if (wrap64 (x5 + 1)) ≤ t42001 then (if t42001 ≤ (x0.size : Int) then ((tinderref07_step.f k (x0.extract ((wrap64 (x5 + 1)) : Int).toNat (t42001 : Int).toNat)).bind fun bt42002 => (if bt42002.2.2.2 = true then (if x4.length < 2513169434916 then (tinderref07_Parse.l0 k x0 (x4 ++ [(⟨bt42002.1, bt42002.2.1, bt42002.2.2.1⟩ : S81)]) t42001) else (none)) else (some (([] : List (S81)), 15)))) else (none)) else (none)) else (none))) else (some (x4, 0))
end
def tinderref07_Parse.f (k : Nat) (a0 : ByteArray) : Option ((List (S81)) × Int) := if (a0.size : Int) > 256 then (some (([] : List (S81)), 3)) else (if a0.toList = ([47] : List UInt8) then (some (([] : List (S81)), 0)) else (if a0.toList = ([] : List UInt8) then (tinderref07_Parse.j0 k a0 ([] : List (S81)) true) else (if 0 < (a0.size : Int) then (tinderref07_Parse.j0 k a0 ([] : List (S81)) ((bt a0 0) != 47)) else (none))))
theorem tinderref07_Parse.mono_l : ∀ k, (∀ y0 y1 y2, LeO (tinderref07_Parse.j0 k y0 y1 y2) (tinderref07_Parse.j0 (k + 1) y0 y1 y2)) ∧ (∀ y0 y1 y2, LeO (tinderref07_Parse.l0 k y0 y1 y2) (tinderref07_Parse.l0 (k + 1) y0 y1 y2))
  | 0 => ⟨fun _ _ _ r h => by simp [tinderref07_Parse.j0] at h, fun _ _ _ r h => by simp [tinderref07_Parse.l0] at h⟩
  | k + 1 => by
    obtain ⟨ih0, ih1⟩ := tinderref07_Parse.mono_l k
    refine ⟨?_, ?_⟩
    · intro y0 y1 y2
      unfold tinderref07_Parse.j0
      repeat' first
      | (with_reducible exact ih0 _ _ _)
      | (with_reducible exact ih1 _ _ _)
      | (with_reducible exact tinderref07_Place.mono _ _ _ _)
      | (with_reducible exact tinderref07_step.mono _ _)
      | (with_reducible exact LeO.refl _)
      | (with_reducible exact LeO.none _)
      | (with_reducible refine LeO.ite ?_ ?_)
      | (with_reducible refine LeO.bind ?_ (fun _ => ?_))
      | exact ih0 _ _ _
      | exact ih1 _ _ _
      | exact tinderref07_Place.mono _ _ _ _
      | exact tinderref07_step.mono _ _
      | exact LeO.none _
      | refine LeO.ite ?_ ?_
      | refine LeO.bind ?_ (fun _ => ?_)
    · intro y0 y1 y2
      unfold tinderref07_Parse.l0
      repeat' first
      | (with_reducible exact ih0 _ _ _)
      | (with_reducible exact ih1 _ _ _)
      | (with_reducible exact tinderref07_Place.mono _ _ _ _)
      | (with_reducible exact tinderref07_step.mono _ _)
      | (with_reducible exact LeO.refl _)
      | (with_reducible exact LeO.none _)
      | (with_reducible refine LeO.ite ?_ ?_)
      | (with_reducible refine LeO.bind ?_ (fun _ => ?_))
      | exact ih0 _ _ _
      | exact ih1 _ _ _
      | exact tinderref07_Place.mono _ _ _ _
      | exact tinderref07_step.mono _ _
      | exact LeO.none _
      | refine LeO.ite ?_ ?_
      | refine LeO.bind ?_ (fun _ => ?_)
theorem tinderref07_Parse.mono : ∀ a0 k, LeO (tinderref07_Parse.f k a0) (tinderref07_Parse.f (k + 1) a0) := by
  intro a0 k
  obtain ⟨ih0, ih1⟩ := tinderref07_Parse.mono_l k
  unfold tinderref07_Parse.f
  repeat' first
      | (with_reducible exact ih0 _ _ _)
      | (with_reducible exact ih1 _ _ _)
      | (with_reducible exact tinderref07_Place.mono _ _ _ _)
      | (with_reducible exact tinderref07_step.mono _ _)
      | (with_reducible exact LeO.refl _)
      | (with_reducible exact LeO.none _)
      | (with_reducible refine LeO.ite ?_ ?_)
      | (with_reducible refine LeO.bind ?_ (fun _ => ?_))
      | exact ih0 _ _ _
      | exact ih1 _ _ _
      | exact tinderref07_Place.mono _ _ _ _
      | exact tinderref07_step.mono _ _
      | exact LeO.none _
      | refine LeO.ite ?_ ?_
      | refine LeO.bind ?_ (fun _ => ?_)
set_option maxHeartbeats 8000000 in
set_option maxRecDepth 100000 in
theorem tinderref07_Parse.calls (k : Nat) (a0 : ByteArray) (r1 : List (S81)) (r2 : Int) (w : World) (h : tinderref07_Parse.f k a0 = some (r1, r2)) :
    Calls Tryd.prog 41 #[.string a0] w fun e w' => ∃ v0_ : Value, e = .returned (.tuple #[v0_, .int .i64 r2]) ∧ Kd.S k81 81 w' w.heap.size (fun _ => True) v0_ r1 ∧ Below w.heap.size w w' := by
  have hu81 := Tryd.underlying81
  have HB := Aside0.mk (Below.refl w.heap.size w)
  have H : (if (a0.size : Int) > 256 then (some (([] : List (S81)), 3)) else (if a0.toList = ([47] : List UInt8) then (some (([] : List (S81)), 0)) else (if a0.toList = ([] : List UInt8) then (tinderref07_Parse.j0 k a0 ([] : List (S81)) true) else (if 0 < (a0.size : Int) then (tinderref07_Parse.j0 k a0 ([] : List (S81)) ((bt a0 0) != 47)) else (none))))) = some (r1, r2) := h
  clear h
  by_cases c2 : (a0.size : Int) > 256
  · rw [if_pos c2] at H
    have c2b0 : decide (256 < (a0.size : Int)) = true := decide_eq_true c2
    have c2b1 : decide (256 < a0.size) = true := decide_eq_true (by omega)
    clear c2
    simp only [Option.some.injEq, Prod.mk.injEq] at H
    obtain ⟨rfl, rfl⟩ := H
    go_enter Tryd.func41, Tryd.ntmps41
    go_wp2
    go_ret2
    exact ⟨_, by first | rfl | (simp [errW_none, errW_some] <;> rfl) | (simp [*, errW_none, errW_some] <;> rfl), by first | exact Kd.S_nil _ _ _ _ _ | exact Kd.N_nil _ _ _ _ _ | exact Kd.V_nil _ _ _ _ _ | exact Kd.Q_nil _ _ _ _ _ | exact Kd.R_nil _ _ _ _ _, by repeat (first | (with_reducible first | exact HB.out | apply below_alloc | apply pw_below_drewN | apply below_drew1) | exact HB.out)⟩
  · rw [if_neg c2] at H
    have c2b0 : decide (256 < (a0.size : Int)) = false := decide_eq_false c2
    have c2b1 : decide (256 < a0.size) = false := decide_eq_false (by omega)
    clear c2
    by_cases c3 : a0.toList = ([47] : List UInt8)
    · rw [if_pos c3] at H
      have c3b0 : (a0.toList == ([47] : List UInt8)) = true := beq_iff_eq.mpr c3
      have c3b1 : (a0.toList != ([47] : List UInt8)) = false := bne_eq_false_iff_eq.mpr c3
      clear c3
      simp only [Option.some.injEq, Prod.mk.injEq] at H
      obtain ⟨rfl, rfl⟩ := H
      go_enter Tryd.func41, Tryd.ntmps41
      go_wp2
      go_ret2
      exact ⟨_, by first | rfl | (simp [errW_none, errW_some] <;> rfl) | (simp [*, errW_none, errW_some] <;> rfl), by first | exact Kd.S_nil _ _ _ _ _ | exact Kd.N_nil _ _ _ _ _ | exact Kd.V_nil _ _ _ _ _ | exact Kd.Q_nil _ _ _ _ _ | exact Kd.R_nil _ _ _ _ _, by repeat (first | (with_reducible first | exact HB.out | apply below_alloc | apply pw_below_drewN | apply below_drew1) | exact HB.out)⟩
    · rw [if_neg c3] at H
      have c3b0 : (a0.toList == ([47] : List UInt8)) = false := beq_eq_false_iff_ne.mpr c3
      have c3b1 : (a0.toList != ([47] : List UInt8)) = true := bne_iff_ne.mpr c3
      have HC4 := Aside0.mk H
      clear H
      go_enter Tryd.func41, Tryd.ntmps41
      go_upto_region 6 with (fail)
      go_cut [20] (fun v20 wc => ∃ (kq : Nat) (x20_3 : Bool), v20 = .bool x20_3 ∧ Aside0 (tinderref07_Parse.j0 kq a0 ([] : List (S81)) x20_3 = some (r1, r2)) ∧ Aside0 (kq ≤ k) ∧ Aside0 (Kd.S k81 81 wc w.heap.size (fun _ => True) (.slice none 0 0) ([] : List (S81))) ∧ Aside0 (Below w.heap.size w wc))
      case first =>
        have H := HC4.out
        clear HC4
        by_cases c5 : a0.toList = ([] : List UInt8)
        · rw [if_pos c5] at H
          have c5b0 : (a0.toList == ([] : List UInt8)) = true := beq_iff_eq.mpr c5
          have c5b1 : (a0.toList != ([] : List UInt8)) = false := bne_eq_false_iff_eq.mpr c5
          clear c5
          (first | rw [c5b0] | (simp only [i64_w, i32_w]; rw [c5b0]) | skip)
          have H' := Aside0.mk H
          clear H
          go_wp2
          go_meet
          case rel => exact ⟨_, (true), (by first | rfl | (simp; done) | (simp [*]; done)), H', ⟨by first | omega | exact Nat.le_refl _⟩, ⟨by first | exact Kd.S_nil _ _ _ _ _ | exact Kd.N_nil _ _ _ _ _ | exact Kd.V_nil _ _ _ _ _ | exact Kd.Q_nil _ _ _ _ _ | exact Kd.R_nil _ _ _ _ _⟩, ⟨by repeat (first | (with_reducible first | exact HB.out | apply below_alloc | apply pw_below_drewN | apply below_drew1) | exact HB.out)⟩⟩
        · rw [if_neg c5] at H
          have c5b0 : (a0.toList == ([] : List UInt8)) = false := beq_eq_false_iff_ne.mpr c5
          have c5b1 : (a0.toList != ([] : List UInt8)) = true := bne_iff_ne.mpr c5
          (first | rw [c5b0] | (simp only [i64_w, i32_w]; rw [c5b0]) | skip)
          by_cases c6 : 0 < (a0.size : Int)
          · rw [if_pos c6] at H
            have c6b0 : decide (0 < (a0.size : Int)) = true := decide_eq_true c6
            have c6b1 : decide (0 < a0.size) = true := decide_eq_true (by omega)
            clear c6
            have H' := Aside0.mk H
            clear H
            have p7 : 0 ≤ (0 : Int) := (by omega)
            have q7 : 0 < a0.size := (by have : (0 : Int) < (a0.size : Int) := of_decide_eq_true (by first | (with_reducible assumption) | assumption); omega)
            have hx7 : ∀ h : 0 < a0.size, ((a0[0]'h).toNat : Int) = bt a0 0 := bt_at a0 0
            clear p7
            have qi7 : (0 < (a0.size : Int)) = True := eq_true (of_decide_eq_true (by first | (with_reducible assumption) | assumption))
            replace q7 := eq_true q7
            go_wp2
            go_meet
            case rel => exact ⟨_, (((bt a0 0) != 47)), (by first | rfl | (simp; done) | (simp [*]; done)), H', ⟨by first | omega | exact Nat.le_refl _⟩, ⟨by first | exact Kd.S_nil _ _ _ _ _ | exact Kd.N_nil _ _ _ _ _ | exact Kd.V_nil _ _ _ _ _ | exact Kd.Q_nil _ _ _ _ _ | exact Kd.R_nil _ _ _ _ _⟩, ⟨by repeat (first | (with_reducible first | exact HB.out | apply below_alloc | apply pw_below_drewN | apply below_drew1) | exact HB.out)⟩⟩
          · rw [if_neg c6] at H
            exact absurd H (by simp)
      case rest =>
        clear HC4
        try clear c2
        try clear c2b0
        try clear c2b1
        try clear p2
        try clear c3
        try clear c3b0
        try clear c3b1
        try clear c4
        try clear c5
        try clear c5b0
        try clear c5b1
        try clear c6
        try clear c6b0
        try clear c6b1
        try clear p7
        try clear q7
        try clear hx7
        try clear qi7
        try clear p7
        try clear q7
        obtain ⟨kq, x20_3, rfl, HA, HJ3, HO_4, HB⟩ := hcut
        cases kq with
        | zero => exact absurd HA.out (by simp [tinderref07_Parse.j0])
        | succ kj3 =>
          have H := HA.out
          clear HA
          simp only [tinderref07_Parse.j0] at H
          by_cases c8 : x20_3 = true
          · subst c8
            have H1 : (some (([] : List (S81)), 15)) = some (r1, r2) := by rw [if_pos rfl] at H; exact H
            clear H
            have H := H1
            clear H1
            simp only [Option.some.injEq, Prod.mk.injEq] at H
            obtain ⟨rfl, rfl⟩ := H
            go_wp2
            go_ret2
            exact ⟨_, by first | rfl | (simp [errW_none, errW_some] <;> rfl) | (simp [*, errW_none, errW_some] <;> rfl), by first | exact Kd.S_nil _ _ _ _ _ | exact Kd.N_nil _ _ _ _ _ | exact Kd.V_nil _ _ _ _ _ | exact Kd.Q_nil _ _ _ _ _ | exact Kd.R_nil _ _ _ _ _, by repeat (first | (with_reducible first | exact HB.out | apply below_alloc | apply pw_below_drewN | apply below_drew1) | exact HB.out)⟩
          · replace c8 := Bool.eq_false_iff.mpr c8
            subst c8
            have H1 : (tinderref07_Parse.l0 kj3 a0 ([] : List (S81)) 0) = some (r1, r2) := by rw [if_neg (show ¬ (false = true) by decide)] at H; exact H
            clear H
            have H := H1
            clear H1
            have H' := Aside0.mk H
            clear H
            go_wp2
            go_loopg [4, 5] kj3 (fun kq v4 v5 w' => ∃ (x4_2 : List (S81)) (x5_2 : Int), v5 = .int .i64 x5_2 ∧ Aside0 (tinderref07_Parse.l0 kq a0 x4_2 x5_2 = some (r1, r2)) ∧ Aside0 (kq ≤ kj3) ∧ Aside0 (Kd.S k81 81 w' w.heap.size (fun _ => True) v4 x4_2) ∧ Aside0 (Below w.heap.size w w'))
            case atStart => exact ⟨(([] : List (S81))), (0), (by first | rfl | (simp; done) | (simp [*]; done)), H', ⟨Nat.le_refl _⟩, ⟨by (with_reducible repeat (first | apply Kd.S_alloc | apply Kd.S_drewN | apply Kd.S_drew)); exact HO_4.out⟩, ⟨by repeat (first | (with_reducible first | exact HB.out | apply below_alloc | apply pw_below_drewN | apply below_drew1) | exact HB.out)⟩⟩
            case round =>
              clear H'
              try clear c2
              try clear c2b0
              try clear c2b1
              try clear p2
              try clear c3
              try clear c3b0
              try clear c3b1
              try clear c4
              try clear c5
              try clear c5b0
              try clear c5b1
              try clear c6
              try clear c6b0
              try clear c6b1
              try clear p7
              try clear q7
              try clear hx7
              try clear qi7
              try clear c8
              try clear p2
              try clear p7
              try clear q7
              obtain ⟨x4_2, x5_2, rfl, HA, HK2, HO_4, HB⟩ := hrel
              cases gk with
              | zero => exact absurd HA.out (by simp [tinderref07_Parse.l0])
              | succ k2 =>
                have H := HA.out
                clear HA
                simp only [tinderref07_Parse.l0] at H
                by_cases c9 : x5_2 < (a0.size : Int)
                · rw [if_pos c9] at H
                  have c9b0 : decide (x5_2 < (a0.size : Int)) = true := decide_eq_true c9
                  clear c9
                  replace H := Option.bind_eq_some_iff.mp H
                  obtain ⟨t42001, A100, H⟩ := H
                  replace H : (if 0 ≤ (wrap64 (x5_2 + 1)) then (if (wrap64 (x5_2 + 1)) ≤ t42001 then (if t42001 ≤ (a0.size : Int) then ((tinderref07_step.f k2 (a0.extract ((wrap64 (x5_2 + 1)) : Int).toNat (t42001 : Int).toNat)).bind fun bt42002 => (if bt42002.2.2.2 = true then (if x4_2.length < 2513169434916 then (tinderref07_Parse.l0 k2 a0 (x4_2 ++ [(⟨bt42002.1, bt42002.2.1, bt42002.2.2.1⟩ : S81)]) t42001) else (none)) else (some (([] : List (S81)), 15)))) else (none)) else (none)) else (none)) = some (r1, r2) := H
                  have A10 := Aside0.mk A100
                  clear A100
                  obtain ⟨ji11, hji11⟩ : ∃ j_ : Int, (wrap64 (x5_2 + 1)) = j_ := ⟨_, rfl⟩
                  replace H : (if 0 ≤ (ji11) then (if (ji11) ≤ t42001 then (if t42001 ≤ (a0.size : Int) then ((tinderref07_step.f k2 (a0.extract ((ji11) : Int).toNat (t42001 : Int).toNat)).bind fun bt42002 => (if bt42002.2.2.2 = true then (if x4_2.length < 2513169434916 then (tinderref07_Parse.l0 k2 a0 (x4_2 ++ [(⟨bt42002.1, bt42002.2.1, bt42002.2.2.1⟩ : S81)]) t42001) else (none)) else (some (([] : List (S81)), 15)))) else (none)) else (none)) else (none)) = some (r1, r2) := by first | (rw [hji11] at H; exact H) | (simp only [hji11] at H ⊢; exact H)
                  (try rw [hji11] at A10)
                  have hji11w : (IntKind.i64.wrap (x5_2 + 1)) = ji11 := (i64_w _).trans hji11
                  by_cases c12 : 0 ≤ (ji11)
                  · rw [if_pos c12] at H
                    have c12b0 := eq_true c12
                    have c12b1 : decide (0 ≤ (ji11)) = true := decide_eq_true c12
                    clear c12
                    by_cases c13 : (ji11) ≤ t42001
                    · rw [if_pos c13] at H
                      have c13b0 := eq_true c13
                      have c13b1 : decide ((ji11) ≤ t42001) = true := decide_eq_true c13
                      clear c13
                      by_cases c14 : t42001 ≤ (a0.size : Int)
                      · rw [if_pos c14] at H
                        have c14b0 := eq_true c14
                        have c14b1 : decide (t42001 ≤ (a0.size : Int)) = true := decide_eq_true c14
                        clear c14
                        replace H := Option.bind_eq_some_iff.mp H
                        obtain ⟨⟨t42002, t42003, t42006, t42007⟩, A150, H⟩ := H
                        replace H : (if t42007 = true then (if x4_2.length < 2513169434916 then (tinderref07_Parse.l0 k2 a0 (x4_2 ++ [(⟨t42002, t42003, t42006⟩ : S81)]) t42001) else (none)) else (some (([] : List (S81)), 15))) = some (r1, r2) := H
                        have A15 := Aside0.mk A150
                        clear A150
                        by_cases c16 : t42007 = true
                        · subst c16
                          have H1 : (if x4_2.length < 2513169434916 then (tinderref07_Parse.l0 k2 a0 (x4_2 ++ [(⟨t42002, t42003, t42006⟩ : S81)]) t42001) else (none)) = some (r1, r2) := by rw [if_pos rfl] at H; exact H
                          clear H
                          have H := H1
                          clear H1
                          by_cases c17 : x4_2.length < 2513169434916
                          · rw [if_pos c17] at H
                            have LMc17 := Aside0.mk c17
                            clear c17
                            obtain ⟨y42009, hy42009⟩ : ∃ y_ : List (S81), y_ = (x4_2 ++ [(⟨t42002, t42003, t42006⟩ : S81)]) := ⟨_, rfl⟩
                            replace H : (tinderref07_Parse.l0 k2 a0 y42009 t42001) = some (r1, r2) := by first | (rw [hy42009]; with_reducible exact H) | (have H2_ := (Option.bind_some _ _).symm.trans H; rw [hy42009]; with_reducible exact H2_) | (have H2_ := (Option.bind_some _ _).symm.trans H; with_reducible exact H2_) | with_reducible exact H | (rw [hy42009]; exact H) | exact H
                            have Ny42009 := Aside0.mk hy42009
                            clear hy42009
                            have H' := Aside0.mk H
                            clear H
                            go_wp2_with (first | ((with_reducible refine gate_callee (f := 61) rfl ?_); refine goesL_ (some 28) rfl rfl Tryd.func61 (by kernel_rfl) rfl #[.string a0, .int .i64 ji11, .int .u8 47] rfl (by (try simp only [List.map_toArray, List.map_cons, List.map_nil]); first | done | (simp only [hji11]; rfl) | rfl | (simp only [List.length_drop, List.length_take]; rfl)) ?_; (with_reducible refine (tinderref07_Place.calls k2 a0 ji11 47 t42001 _ A10.out).mono ?_); rintro e w' ⟨rfl, ⟨nd, rfl⟩⟩; refine ⟨_, rfl, ?_⟩; (try (rw [drewN_self wr]; generalize hq_ : World.drewN wr _ = wr; have n0_ : Aside0 (Kd.S k81 81 wr w.heap.size (fun _ => True) u4 x4_2) := ⟨by rw [← hq_]; exact (by (with_reducible repeat (first | apply Kd.S_alloc | apply Kd.S_drewN | apply Kd.S_drew)); exact HO_4.out)⟩; have n1_ : Aside0 (Below w.heap.size w wr) := ⟨by rw [← hq_]; exact (by repeat (first | (with_reducible first | exact HB.out | apply below_alloc | apply pw_below_drewN | apply below_drew1) | exact HB.out))⟩; clear HO_4 HB hq_; have HO_4 := n0_; have HB := n1_; clear n0_ n1_))) | ((with_reducible refine gate_callee (f := 62) rfl ?_); refine goesL_ (some 35) rfl rfl Tryd.func62 (by kernel_rfl) rfl #[.string (a0.extract ((ji11) : Int).toNat (t42001 : Int).toNat)] rfl (by (try simp only [List.map_toArray, List.map_cons, List.map_nil]); first | done | (simp only [hji11]; rfl) | rfl | (simp only [List.length_drop, List.length_take]; rfl)) ?_; (with_reducible refine (tinderref07_step.calls k2 (a0.extract ((ji11) : Int).toNat (t42001 : Int).toNat) t42002 t42003 t42006 true _ A15.out).mono ?_); rintro e w18 ⟨v42004, rfl, ho0, hb⟩; refine ⟨_, rfl, ?_⟩; have n0_ := Aside0.mk (Kd.S_elder' (by (with_reducible repeat (first | apply Kd.S_alloc | apply Kd.S_drewN | apply Kd.S_drew)); exact HO_4.out) (Kd.R_base ho0) hb); have n1_ := Aside0.mk (Kd.R_lower ho0 (below_size (by repeat (first | (with_reducible first | exact HB.out | apply below_alloc | apply pw_below_drewN | apply below_drew1) | exact HB.out)))); have n2_ := Aside0.mk (below_step (by repeat (first | (with_reducible first | exact HB.out | apply below_alloc | apply pw_below_drewN | apply below_drew1) | exact HB.out)) hb); clear HO_4; clear HB; have HO_4 := n0_; have HO42005 := n1_; have HB := n2_; clear n0_ n1_ n2_; (try clear hb); (try clear hb2); (try clear hk); (try clear hi); (try clear ho0)) | ((with_reducible refine gate_dst (N := 7) rfl ?_); refine box_event ?hg (N := 7) ?hd (cs := #[.string (⟨#[]⟩ : ByteArray), .slice none 0 0, .string (⟨#[]⟩ : ByteArray)]) (t := 81) ?hr ?_; (case hd => rfl); (case hg => rfl); (case hr => first | (go_simp; done) | (go_simp; rfl)); intro gb42008 hg w19 hbox hb; have n0_ := Aside0.mk (Kd.S_below (Kd.S_elderB (by (with_reducible repeat (first | apply Kd.S_alloc | apply Kd.S_drewN | apply Kd.S_drew)); exact HO_4.out) gb42008 (Nat.le_of_eq hg.symm)) hb); have n1_ := Aside0.mk (Kd.R_below (by (with_reducible repeat (first | apply Kd.R_alloc | apply Kd.R_drewN | apply Kd.R_drew)); exact HO42005.out) hb); have n2_ := Aside0.mk (below_step (by repeat (first | (with_reducible first | exact HB.out | apply below_alloc | apply pw_below_drewN | apply below_drew1) | exact HB.out)) hb); have n3_ := Aside0.mk (hbox); have n4_ := Aside0.mk ((by rw [hg]; exact (below_size (by repeat (first | (with_reducible first | exact HB.out | apply below_alloc | apply pw_below_drewN | apply below_drew1) | exact HB.out))) : w.heap.size ≤ gb42008)); have n5_ := Aside0.mk ((by rw [hg]; exact (below_size (by repeat (first | (with_reducible first | exact HB.out | apply below_alloc | apply pw_below_drewN | apply below_drew1) | exact HB.out))) : w.heap.size ≤ gb42008)); clear HO_4; clear HO42005; clear HB; have HO_4 := n0_; have HO42005 := n1_; have HB := n2_; have BK42008 := n3_; have GW42008 := n4_; have GE42008 := n5_; clear n0_ n1_ n2_ n3_ n4_ n5_; clear hb hbox hg; have hcz20_0 : w19.cell? ⟨gb42008, 0, none⟩ = some (.string (⟨#[]⟩ : ByteArray)) := (blk_cell BK42008.out 0).trans rfl; have hcz20_1 : w19.cell? ⟨gb42008, 1, none⟩ = some (.slice none 0 0) := (blk_cell BK42008.out 1).trans rfl; have hcz20_2 : w19.cell? ⟨gb42008, 2, none⟩ = some (.string (⟨#[]⟩ : ByteArray)) := (blk_cell BK42008.out 2).trans rfl; have hfz20_0 := blk_frozen BK42008.out 0; have hfz20_1 := blk_frozen BK42008.out 1; have hfz20_2 := blk_frozen BK42008.out 2; obtain ⟨Ao21, co21, eo21⟩ := Kd.R_slice HO42005.out; subst eo21) | ((with_reducible refine gate_store (t := 81) (p := 7) rfl ?_); refine store_event (t := 81) (p := 7) (v := ?vo_w22) (w1 := (((w19.setCell ⟨gb42008, 0, none⟩ (.string t42002)).setCell ⟨gb42008, 1, none⟩ (.slice Ao21 t42003.length co21)).setCell ⟨gb42008, 2, none⟩ (.string t42006))) ?hg ?ho ?hn ?hr ?_; (case ho => rfl); (case hg => rfl); (case hn => rfl); (case hr => first | (go_simp; done) | (go_simp; rfl)); intro w22 hw; have n0_ : Aside0 (Kd.S k81 81 w22 w.heap.size (fun k_ => some k_ ≠ (.slice Ao21 t42003.length co21 : Value).ownBlock ∧ k_ ≠ gb42008) u4 x4_2) := ⟨(by rw [hw]; exact (by (with_reducible repeat (first | apply Kd.S_alloc | apply Kd.S_drewN | apply Kd.S_drew)); exact Kd.S_mono (Kd.S_far (p := ⟨gb42008, 2, none⟩) (Kd.S_far (p := ⟨gb42008, 1, none⟩) (Kd.S_far (p := ⟨gb42008, 0, none⟩) (Kd.S_mono HO_4.out (fun k_ hk => (⟨hk, hk.2⟩ : _ ∧ k_ ≠ gb42008))) (fun _ hk => hk.2) (.string t42002)) (fun _ hk => hk.2) (.slice Ao21 t42003.length co21)) (fun _ hk => hk.2) (.string t42006)) (fun _ hk => ⟨hk.1.1.2, hk.1.2⟩)))⟩; have n1_ : Aside0 (Kd.R (Kd.int .u32) 24 w22 w.heap.size (fun _ => True) (.slice Ao21 t42003.length co21) t42003) := ⟨(by rw [hw]; exact (by (with_reducible repeat (first | apply Kd.R_alloc | apply Kd.R_drewN | apply Kd.R_drew)); exact Kd.R_mono (Kd.R_far (p := ⟨gb42008, 2, none⟩) (Kd.R_far (p := ⟨gb42008, 1, none⟩) (Kd.R_far (p := ⟨gb42008, 0, none⟩) (Kd.R_types HO42005.out BK42008.out (by decide)) (fun _ hk => hk.2) (.string t42002)) (fun _ hk => hk.2) (.slice Ao21 t42003.length co21)) (fun _ hk => hk.2) (.string t42006)) (fun _ hk => trivial)))⟩; have n2_ : Aside0 (w22.heap[gb42008]? = some (.cells #[.string t42002, .slice Ao21 t42003.length co21, .string t42006] 81 (0, 0))) := ⟨(by rw [hw]; exact (by (with_reducible repeat (first | refine blk_drewN ?_ _ | refine blk_drew ?_ | refine blk_alloc ?_ _)); refine blk_put (cs := #[.string t42002, .slice Ao21 t42003.length co21, .string (⟨#[]⟩ : ByteArray)]) ?_ 2 _ rfl; (with_reducible repeat (first | refine blk_drewN ?_ _ | refine blk_drew ?_ | refine blk_alloc ?_ _)); refine blk_put (cs := #[.string t42002, .slice none 0 0, .string (⟨#[]⟩ : ByteArray)]) ?_ 1 _ rfl; (with_reducible repeat (first | refine blk_drewN ?_ _ | refine blk_drew ?_ | refine blk_alloc ?_ _)); refine blk_put (cs := #[.string (⟨#[]⟩ : ByteArray), .slice none 0 0, .string (⟨#[]⟩ : ByteArray)]) ?_ 0 _ rfl; (with_reducible repeat (first | refine blk_drewN ?_ _ | refine blk_drew ?_ | refine blk_alloc ?_ _)); exact BK42008.out))⟩; have n3_ : Aside0 (Below w.heap.size w w22) := ⟨(by rw [hw]; exact (by repeat (first | (with_reducible first | exact HB.out | apply below_alloc | apply pw_below_drewN | apply below_drew1 | refine below_set ?_ GE42008.out) | exact HB.out)))⟩; clear hw; clear HO_4; clear HO42005; clear BK42008; clear HB; have HO_4 := n0_; have HO42005 := n1_; have BK42008 := n2_; have HB := n3_; clear n0_ n1_ n2_ n3_; have hcz23_0 : w22.cell? ⟨gb42008, 0, none⟩ = some (.string t42002) := (blk_cell BK42008.out 0).trans rfl; have hcz23_1 : w22.cell? ⟨gb42008, 1, none⟩ = some (.slice Ao21 t42003.length co21) := (blk_cell BK42008.out 1).trans rfl; have hcz23_2 : w22.cell? ⟨gb42008, 2, none⟩ = some (.string t42006) := (blk_cell BK42008.out 2).trans rfl; have hfz23_0 := blk_frozen BK42008.out 0; have hfz23_1 := blk_frozen BK42008.out 1; have hfz23_2 := blk_frozen BK42008.out 2) | ((with_reducible refine gate_builtin (b := .append) (xs := #[.tmp 40, .tmp 42]) rfl ?_); at_builtin; refine Kd.S_append k81 (w0 := w) w.heap.size rfl (.tmp 40) (.tmp 42) 54 81 (.agg #[(.string ⟨#[]⟩), (.slice none 0 0), (.string ⟨#[]⟩)]) 56 rfl Tryd.underlying54 info81 rfl (by decide) (by omega) u4 x4_2 (⟨t42002, t42003, t42006⟩ : S81) [.string t42002, .slice Ao21 t42003.length co21, .string t42006] (fun k_ => k_ ≠ gb42008) (fun k_ => some k_ = (.slice Ao21 t42003.length co21 : Value).ownBlock) rfl rfl ?aP (fun k_ hk_ => ((Kd.R_mono (ok' := fun k_ => ((fun k_ => k_ ≠ gb42008)) k_ ∧ some k_ ≠ (u4 : Value).ownBlock) (Kd.R_types (Kd.R_apart' (HO42005.out) (Kd.S_typed HO_4.out) (by decide)) BK42008.out (by decide)) (fun k_ hk => ⟨hk.2, hk.1.2⟩))).1 k_ hk_.symm) ?aF ?aO ?aB ?aS ?aL ?_; (case aP => exact k81_mkM _ _ _ (⟨t42002, t42003, t42006⟩ : S81) (Kd.R_mono (Kd.R_tight rfl (Kd.R_mono (ok' := fun k_ => ((fun k_ => k_ ≠ gb42008)) k_ ∧ some k_ ≠ (u4 : Value).ownBlock) (Kd.R_types (Kd.R_apart' (HO42005.out) (Kd.S_typed HO_4.out) (by decide)) BK42008.out (by decide)) (fun k_ hk => ⟨hk.2, hk.1.2⟩))) (fun _ h_ => h_))); (case aB => exact (by repeat (first | (with_reducible first | exact HB.out | apply below_alloc | apply pw_below_drewN | apply below_drew1 | refine below_set ?_ GE42008.out) | exact HB.out))); (case aF => exact (fun k_ hk => Kd.freshB (g := gb42008) (o := .cells #[.string t42002, .slice Ao21 t42003.length co21, .string t42006] 81 (0, 0)) (by (with_reducible repeat (first | refine blk_drewN ?_ _ | refine blk_drew ?_ | refine blk_alloc ?_ _)); exact BK42008.out) k_ hk)); (case aO => exact (by (with_reducible repeat (first | apply Kd.S_alloc | apply Kd.S_drewN | apply Kd.S_drew)); exact Kd.S_mono HO_4.out (fun k_ hk => ⟨hk.2, fun e_ => hk.1 e_⟩))); (case aS => exact (below_size (by repeat (first | (with_reducible first | exact HB.out | apply below_alloc | apply pw_below_drewN | apply below_drew1 | refine below_set ?_ GE42008.out) | exact HB.out)))); (case aL => have := LMc17.out; omega); intro v42010 w24 ho hb hg hat; rw [← Ny42009.out] at ho; have n0_ := Aside0.mk (blk_grown (g := gb42008) (o := .cells #[.string t42002, .slice Ao21 t42003.length co21, .string t42006] 81 (0, 0)) (by (with_reducible repeat (first | refine blk_drewN ?_ _ | refine blk_drew ?_ | refine blk_alloc ?_ _)); exact BK42008.out) hg (Kd.S_away HO_4.out (fun _ hk => hk.2))); have n1_ := Aside0.mk (hb); have n2_ := Aside0.mk (ho); clear BK42008; clear HB; clear HO_4; clear HO42005; have BK42008 := n0_; have HB := n1_; have HO42011 := n2_; clear n0_ n1_ n2_; clear ho hb hg hat))
                            go_roundg k2
                            case measure => have := HJ3.out; have := HK2.out; omega
                            case rel => exact ⟨(y42009), (t42001), (by first | rfl | (simp; done) | (simp [*]; done)), H', ⟨by have := HJ3.out; have := HK2.out; omega⟩, ⟨by (with_reducible repeat (first | apply Kd.S_alloc | apply Kd.S_drewN | apply Kd.S_drew)); exact Kd.S_mono HO42011.out (fun _ hk => trivial)⟩, ⟨by repeat (first | (with_reducible first | exact HB.out | apply below_alloc | apply pw_below_drewN | apply below_drew1 | refine below_set ?_ GE42008.out) | exact HB.out)⟩⟩
                          · rw [if_neg c17] at H
                            exact absurd H (by simp)
                        · replace c16 := Bool.eq_false_iff.mpr c16
                          subst c16
                          have H1 : (some (([] : List (S81)), 15)) = some (r1, r2) := by rw [if_neg (show ¬ (false = true) by decide)] at H; exact H
                          clear H
                          have H := H1
                          clear H1
                          simp only [Option.some.injEq, Prod.mk.injEq] at H
                          obtain ⟨rfl, rfl⟩ := H
                          go_wp2_with (first | ((with_reducible refine gate_callee (f := 61) rfl ?_); refine goesL_ (some 28) rfl rfl Tryd.func61 (by kernel_rfl) rfl #[.string a0, .int .i64 ji11, .int .u8 47] rfl (by (try simp only [List.map_toArray, List.map_cons, List.map_nil]); first | done | (simp only [hji11]; rfl) | rfl | (simp only [List.length_drop, List.length_take]; rfl)) ?_; (with_reducible refine (tinderref07_Place.calls k2 a0 ji11 47 t42001 _ A10.out).mono ?_); rintro e w' ⟨rfl, ⟨nd, rfl⟩⟩; refine ⟨_, rfl, ?_⟩; (try (rw [drewN_self wr]; generalize hq_ : World.drewN wr _ = wr; have n0_ : Aside0 (Kd.S k81 81 wr w.heap.size (fun _ => True) u4 x4_2) := ⟨by rw [← hq_]; exact (by (with_reducible repeat (first | apply Kd.S_alloc | apply Kd.S_drewN | apply Kd.S_drew)); exact HO_4.out)⟩; have n1_ : Aside0 (Below w.heap.size w wr) := ⟨by rw [← hq_]; exact (by repeat (first | (with_reducible first | exact HB.out | apply below_alloc | apply pw_below_drewN | apply below_drew1) | exact HB.out))⟩; clear HO_4 HB hq_; have HO_4 := n0_; have HB := n1_; clear n0_ n1_))) | ((with_reducible refine gate_callee (f := 62) rfl ?_); refine goesL_ (some 35) rfl rfl Tryd.func62 (by kernel_rfl) rfl #[.string (a0.extract ((ji11) : Int).toNat (t42001 : Int).toNat)] rfl (by (try simp only [List.map_toArray, List.map_cons, List.map_nil]); first | done | (simp only [hji11]; rfl) | rfl | (simp only [List.length_drop, List.length_take]; rfl)) ?_; (with_reducible refine (tinderref07_step.calls k2 (a0.extract ((ji11) : Int).toNat (t42001 : Int).toNat) t42002 t42003 t42006 false _ A15.out).mono ?_); rintro e w25 ⟨v42004, rfl, ho0, hb⟩; refine ⟨_, rfl, ?_⟩; have n0_ := Aside0.mk (Kd.S_elder' (by (with_reducible repeat (first | apply Kd.S_alloc | apply Kd.S_drewN | apply Kd.S_drew)); exact HO_4.out) (Kd.R_base ho0) hb); have n1_ := Aside0.mk (Kd.R_lower ho0 (below_size (by repeat (first | (with_reducible first | exact HB.out | apply below_alloc | apply pw_below_drewN | apply below_drew1) | exact HB.out)))); have n2_ := Aside0.mk (below_step (by repeat (first | (with_reducible first | exact HB.out | apply below_alloc | apply pw_below_drewN | apply below_drew1) | exact HB.out)) hb); clear HO_4; clear HB; have HO_4 := n0_; have HO42005 := n1_; have HB := n2_; clear n0_ n1_ n2_; (try clear hb); (try clear hb2); (try clear hk); (try clear hi); (try clear ho0)) | ((with_reducible refine gate_dst (N := 7) rfl ?_); refine box_event ?hg (N := 7) ?hd (cs := #[.string (⟨#[]⟩ : ByteArray), .slice none 0 0, .string (⟨#[]⟩ : ByteArray)]) (t := 81) ?hr ?_; (case hd => rfl); (case hg => rfl); (case hr => first | (go_simp; done) | (go_simp; rfl)); intro gb42008 hg w26 hbox hb; have n0_ := Aside0.mk (Kd.S_below (Kd.S_elderB (by (with_reducible repeat (first | apply Kd.S_alloc | apply Kd.S_drewN | apply Kd.S_drew)); exact HO_4.out) gb42008 (Nat.le_of_eq hg.symm)) hb); have n1_ := Aside0.mk (Kd.R_below (by (with_reducible repeat (first | apply Kd.R_alloc | apply Kd.R_drewN | apply Kd.R_drew)); exact HO42005.out) hb); have n2_ := Aside0.mk (below_step (by repeat (first | (with_reducible first | exact HB.out | apply below_alloc | apply pw_below_drewN | apply below_drew1) | exact HB.out)) hb); have n3_ := Aside0.mk (hbox); have n4_ := Aside0.mk ((by rw [hg]; exact (below_size (by repeat (first | (with_reducible first | exact HB.out | apply below_alloc | apply pw_below_drewN | apply below_drew1) | exact HB.out))) : w.heap.size ≤ gb42008)); have n5_ := Aside0.mk ((by rw [hg]; exact (below_size (by repeat (first | (with_reducible first | exact HB.out | apply below_alloc | apply pw_below_drewN | apply below_drew1) | exact HB.out))) : w.heap.size ≤ gb42008)); clear HO_4; clear HO42005; clear HB; have HO_4 := n0_; have HO42005 := n1_; have HB := n2_; have BK42008 := n3_; have GW42008 := n4_; have GE42008 := n5_; clear n0_ n1_ n2_ n3_ n4_ n5_; clear hb hbox hg; have hcz27_0 : w26.cell? ⟨gb42008, 0, none⟩ = some (.string (⟨#[]⟩ : ByteArray)) := (blk_cell BK42008.out 0).trans rfl; have hcz27_1 : w26.cell? ⟨gb42008, 1, none⟩ = some (.slice none 0 0) := (blk_cell BK42008.out 1).trans rfl; have hcz27_2 : w26.cell? ⟨gb42008, 2, none⟩ = some (.string (⟨#[]⟩ : ByteArray)) := (blk_cell BK42008.out 2).trans rfl; have hfz27_0 := blk_frozen BK42008.out 0; have hfz27_1 := blk_frozen BK42008.out 1; have hfz27_2 := blk_frozen BK42008.out 2; obtain ⟨Ao28, co28, eo28⟩ := Kd.R_slice HO42005.out; subst eo28))
                          go_ret2
                          exact ⟨_, by first | rfl | (simp [errW_none, errW_some] <;> rfl) | (simp only [← hji11]; first | rfl | (simp [errW_none, errW_some] <;> rfl)) | (simp [*, errW_none, errW_some] <;> rfl), by first | exact Kd.S_nil _ _ _ _ _ | exact Kd.N_nil _ _ _ _ _ | exact Kd.V_nil _ _ _ _ _ | exact Kd.Q_nil _ _ _ _ _ | exact Kd.R_nil _ _ _ _ _, by repeat (first | (with_reducible first | exact HB.out | apply below_alloc | apply pw_below_drewN | apply below_drew1 | refine below_set ?_ GE42008.out) | exact HB.out)⟩
                      · rw [if_neg c14] at H
                        exact absurd H (by simp)
                    · rw [if_neg c13] at H
                      exact absurd H (by simp)
                  · rw [if_neg c12] at H
                    exact absurd H (by simp)
                · rw [if_neg c9] at H
                  have c9b0 : decide (x5_2 < (a0.size : Int)) = false := decide_eq_false c9
                  clear c9
                  simp only [Option.some.injEq, Prod.mk.injEq] at H
                  obtain ⟨rfl, rfl⟩ := H
                  go_wp2
                  go_ret2
                  exact ⟨_, by first | rfl | (simp [errW_none, errW_some] <;> rfl) | (simp [*, errW_none, errW_some] <;> rfl), by (with_reducible repeat (first | apply Kd.S_alloc | apply Kd.S_drewN | apply Kd.S_drew)); exact HO_4.out, by repeat (first | (with_reducible first | exact HB.out | apply below_alloc | apply pw_below_drewN | apply below_drew1) | exact HB.out)⟩

end Go.Proofs.YtlhnaplmphdhlaaDoor.Q
end
section
namespace Go.Proofs.YtlhnaplmphdhlaaDoor.Q
open Go.RowKit Go.Proofs.YtlhnaplmphdhlaaDoorW.PrintWords Go.Proofs.YtlhnaplmphdhlaaDoorW.PrintLast Go.Proofs.YtlhnaplmphdhlaaDoorW.PrintMore
set_option linter.unusedVariables false
set_option linter.unusedSimpArgs false

attribute [local go_sem] max2_int min2_int max_two min_two max_three min_three max_four min_four
/-! ### tinderref03_Same: function 28 -/
def tinderref03_Same.l0 : Nat → List Int → List Int → Int → Option (Bool)
  | 0, _, _, _ => none
  | k + 1, x0, x1, x5 => if x5 < (x0.length : Int) then (if 0 ≤ x5 then (if x5 < (x1.length : Int) then (if (rd x0 x5) = (rd x1 x5) then (tinderref03_Same.l0 k x0 x1 (wrap64 (x5 + 1))) else (some false)) else (none)) else (none)) else (some true)
def tinderref03_Same.f (k : Nat) (l0 : List Int) (l1 : List Int) : Option (Bool) := if (l0.length : Int) = (l1.length : Int) then (tinderref03_Same.l0 k l0 l1 0) else (some false)
theorem tinderref03_Same.mono_l : ∀ k, (∀ y0 y1 y2, LeO (tinderref03_Same.l0 k y0 y1 y2) (tinderref03_Same.l0 (k + 1) y0 y1 y2))
  | 0 => fun _ _ _ r h => by simp [tinderref03_Same.l0] at h
  | k + 1 => by
    have ih0 := tinderref03_Same.mono_l k
    · intro y0 y1 y2
      unfold tinderref03_Same.l0
      repeat' first
      | (with_reducible exact ih0 _ _ _)
      | (with_reducible exact LeO.refl _)
      | (with_reducible exact LeO.none _)
      | (with_reducible refine LeO.ite ?_ ?_)
      | (with_reducible refine LeO.bind ?_ (fun _ => ?_))
      | exact ih0 _ _ _
      | exact LeO.none _
      | refine LeO.ite ?_ ?_
      | refine LeO.bind ?_ (fun _ => ?_)
theorem tinderref03_Same.mono : ∀ a0 a1 k, LeO (tinderref03_Same.f k a0 a1) (tinderref03_Same.f (k + 1) a0 a1) := by
  intro a0 a1 k
  have ih0 := tinderref03_Same.mono_l k
  unfold tinderref03_Same.f
  repeat' first
      | (with_reducible exact ih0 _ _ _)
      | (with_reducible exact LeO.refl _)
      | (with_reducible exact LeO.none _)
      | (with_reducible refine LeO.ite ?_ ?_)
      | (with_reducible refine LeO.bind ?_ (fun _ => ?_))
      | exact ih0 _ _ _
      | exact LeO.none _
      | refine LeO.ite ?_ ?_
      | refine LeO.bind ?_ (fun _ => ?_)
set_option maxHeartbeats 8000000 in
set_option maxRecDepth 100000 in
theorem tinderref03_Same.calls (k : Nat) (A0 : Option Addr) (c0 : Nat) (l0 : List Int) (A1 : Option Addr) (c1 : Nat) (l1 : List Int) (r : Bool) (w : World) (hr0 : Kd.C (Kd.int .u32) w A0 l0.length l0) (hc0 : l0.length ≤ c0) (hr1 : Kd.C (Kd.int .u32) w A1 l1.length l1) (hc1 : l1.length ≤ c1) (h : tinderref03_Same.f k l0 l1 = some r) :
    Calls Tryd.prog 28 #[.slice A0 l0.length c0, .slice A1 l1.length c1] w fun e w' => e = .returned (.bool r) ∧ Drawn0 w w' := by
  have HR0 := Aside0.mk hr0
  have HC0 := Aside0.mk hc0
  clear hr0 hc0
  have HR1 := Aside0.mk hr1
  have HC1 := Aside0.mk hc1
  clear hr1 hc1
  have H : (if (l0.length : Int) = (l1.length : Int) then (tinderref03_Same.l0 k l0 l1 0) else (some false)) = some r := h
  clear h
  by_cases c3 : (l0.length : Int) = (l1.length : Int)
  · rw [if_pos c3] at H
    have c3b0 : ((l0.length : Int) == (l1.length : Int)) = true := beq_iff_eq.mpr c3
    have c3b1 : ((l0.length : Int) != (l1.length : Int)) = false := bne_eq_false_iff_eq.mpr c3
    have c3b2 : (l0.length == l1.length) = true := by first | simpa using c3 | (simp at c3 ⊢; omega)
    clear c3
    have H' := Aside0.mk H
    clear H
    go_enter Tryd.func28, Tryd.ntmps28
    go_wp2
    repeat (go_quiet (fail); try go_wp2)
    go_loopg [5] k (fun kq v5 w' => ∃ (x5_1 : Int), v5 = .int .i64 x5_1 ∧ Aside0 (tinderref03_Same.l0 kq l0 l1 x5_1 = some r) ∧ Aside0 (kq ≤ k) ∧ Drawn0 w w')
    case atStart => exact ⟨(0), (by first | rfl | (simp; done) | (simp [*]; done)), H', ⟨Nat.le_refl _⟩, by repeat (first | exact Drawn0.refl _ | apply Drawn0.step)⟩
    case round =>
      clear H'
      try clear c1
      try clear c2
      try clear p2
      try clear c3
      try clear c3b0
      try clear c3b1
      try clear c3b2
      obtain ⟨x5_1, rfl, HA, HK1, ⟨m1, rfl⟩⟩ := hrel
      cases gk with
      | zero => exact absurd HA.out (by simp [tinderref03_Same.l0])
      | succ k1 =>
        have H := HA.out
        clear HA
        simp only [tinderref03_Same.l0] at H
        by_cases c4 : x5_1 < (l0.length : Int)
        · rw [if_pos c4] at H
          have c4b0 : decide (x5_1 < (l0.length : Int)) = true := decide_eq_true c4
          clear c4
          by_cases c5 : 0 ≤ x5_1
          · rw [if_pos c5] at H
            have c5b0 : decide (0 ≤ x5_1) = true := decide_eq_true c5
            clear c5
            by_cases c6 : x5_1 < (l1.length : Int)
            · rw [if_pos c6] at H
              have c6b0 : decide (x5_1 < (l1.length : Int)) = true := decide_eq_true c6
              clear c6
              by_cases c7 : (rd l0 x5_1) = (rd l1 x5_1)
              · rw [if_pos c7] at H
                have c7b0 : ((rd l0 x5_1) == (rd l1 x5_1)) = true := beq_iff_eq.mpr c7
                have c7b1 : ((rd l0 x5_1) != (rd l1 x5_1)) = false := bne_eq_false_iff_eq.mpr c7
                clear c7
                have H' := Aside0.mk H
                clear H
                have p29001 : 0 ≤ (x5_1 : Int) := of_decide_eq_true (by first | (with_reducible assumption) | assumption)
                have q29001 : x5_1 < (l0.length : Int) := of_decide_eq_true (by first | (with_reducible assumption) | assumption)
                obtain ⟨ad29001, e29001, hx29001_0⟩ := Kd.at_int HR0.out x5_1 p29001 q29001
                cases e29001
                replace p29001 := eq_true p29001
                replace q29001 := eq_true q29001
                have p29002 : 0 ≤ (x5_1 : Int) := of_decide_eq_true (by first | (with_reducible assumption) | assumption)
                have q29002 : x5_1 < (l1.length : Int) := of_decide_eq_true (by first | (with_reducible assumption) | assumption)
                obtain ⟨ad29002, e29002, hx29002_0⟩ := Kd.at_int HR1.out x5_1 p29002 q29002
                cases e29002
                replace p29002 := eq_true p29002
                replace q29002 := eq_true q29002
                go_wp2
                repeat (go_quiet (fail); try go_wp2)
                go_roundg k1
                case measure => have := HK1.out; omega
                case rel => exact ⟨(wrap64 (x5_1 + 1)), (by first | rfl | (simp; done) | (simp [*]; done)), H', ⟨by have := HK1.out; omega⟩, by repeat (first | exact Drawn0.refl _ | apply Drawn0.step)⟩
              · rw [if_neg c7] at H
                have c7b0 : ((rd l0 x5_1) == (rd l1 x5_1)) = false := beq_eq_false_iff_ne.mpr c7
                have c7b1 : ((rd l0 x5_1) != (rd l1 x5_1)) = true := bne_iff_ne.mpr c7
                obtain rfl := Option.some.inj H
                have p29001 : 0 ≤ (x5_1 : Int) := of_decide_eq_true (by first | (with_reducible assumption) | assumption)
                have q29001 : x5_1 < (l0.length : Int) := of_decide_eq_true (by first | (with_reducible assumption) | assumption)
                obtain ⟨ad29001, e29001, hx29001_0⟩ := Kd.at_int HR0.out x5_1 p29001 q29001
                cases e29001
                replace p29001 := eq_true p29001
                replace q29001 := eq_true q29001
                have p29002 : 0 ≤ (x5_1 : Int) := of_decide_eq_true (by first | (with_reducible assumption) | assumption)
                have q29002 : x5_1 < (l1.length : Int) := of_decide_eq_true (by first | (with_reducible assumption) | assumption)
                obtain ⟨ad29002, e29002, hx29002_0⟩ := Kd.at_int HR1.out x5_1 p29002 q29002
                cases e29002
                replace p29002 := eq_true p29002
                replace q29002 := eq_true q29002
                go_wp2
                repeat (go_quiet (fail); try go_wp2)
                go_ret
                exact ⟨by first | rfl | (simp; done) | (simp [*]; done), by repeat (first | exact Drawn0.refl _ | apply Drawn0.step)⟩
            · rw [if_neg c6] at H
              exact absurd H (by simp)
          · rw [if_neg c5] at H
            exact absurd H (by simp)
        · rw [if_neg c4] at H
          have c4b0 : decide (x5_1 < (l0.length : Int)) = false := decide_eq_false c4
          clear c4
          obtain rfl := Option.some.inj H
          go_wp2
          repeat (go_quiet (fail); try go_wp2)
          go_ret
          exact ⟨by first | rfl | (simp; done) | (simp [*]; done), by repeat (first | exact Drawn0.refl _ | apply Drawn0.step)⟩
  · rw [if_neg c3] at H
    have c3b0 : ((l0.length : Int) == (l1.length : Int)) = false := beq_eq_false_iff_ne.mpr c3
    have c3b1 : ((l0.length : Int) != (l1.length : Int)) = true := bne_iff_ne.mpr c3
    have c3b2 : (l0.length == l1.length) = false := by first | simpa using c3 | (simp at c3 ⊢; omega)
    obtain rfl := Option.some.inj H
    go_enter Tryd.func28, Tryd.ntmps28
    go_wp2
    repeat (go_quiet (fail); try go_wp2)
    go_ret
    exact ⟨by first | rfl | (simp; done) | (simp [*]; done), by repeat (first | exact Drawn0.refl _ | apply Drawn0.step)⟩

end Go.Proofs.YtlhnaplmphdhlaaDoor.Q
end
