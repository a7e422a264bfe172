/- Contracts of Go functions and plain facts, of several texts, one behind the other; no condition. -/
import Derived.Test.YtnalcjgefbelnaaDoorMTreeSets2
import Derived.Test.YtnalcjgefbelnaaDoorMTreeSets3
section
namespace Go.Proofs.YtnalcjgefbelnaaDoor.Q
open Go.RowKit Go.Proofs.YtnalcjgefbelnaaDoorW.PrintWords Go.Proofs.YtnalcjgefbelnaaDoorW.PrintLast Go.Proofs.YtnalcjgefbelnaaDoorW.PrintMore
set_option linter.unusedVariables false
set_option linter.unusedSimpArgs false

attribute [local go_sem] max2_int min2_int max_two min_two max_three min_three max_four min_four
/-! ### tinderref08_Formed: function 13 -/
mutual
def tinderref08_Formed.j0 : Nat → List (S44) → Bool → Option (Bool)
 | 0, _, _ => none
 | k + 1, x0, x35 => if x35 = true then (some false) else (tinderref08_Formed.l0 k x0 0)
def tinderref08_Formed.l0 : Nat → List (S44) → Int → Option (Bool)
 | 0, _, _ => none
 | k + 1, x0, x3 => if x3 < (x0.length : Int) then (if 0 ≤ x3 then (if x3 > 0 then ((tinderref05_Named.f k ((rd_T44 x0 x3).f0)).bind fun t14006 => (if t14006 = true then (if (((rd_T44 x0 x3).f1).length : Int) > 4 then (tinderref08_Formed.j2 k x0 x3 true ((rd_T44 x0 x3).f0) ((rd_T44 x0 x3).f1) ((rd_T44 x0 x3).f2) ((rd_T44 x0 x3).f3) ((rd_T44 x0 x3).f4)) else (if ((rd_T44 x0 x3).f2) < 0 then (tinderref08_Formed.j2 k x0 x3 true ((rd_T44 x0 x3).f0) ((rd_T44 x0 x3).f1) ((rd_T44 x0 x3).f2) ((rd_T44 x0 x3).f3) ((rd_T44 x0 x3).f4)) else (if ((rd_T44 x0 x3).f2) ≥ x3 then (tinderref08_Formed.j2 k x0 x3 true ((rd_T44 x0 x3).f0) ((rd_T44 x0 x3).f1) ((rd_T44 x0 x3).f2) ((rd_T44 x0 x3).f3) ((rd_T44 x0 x3).f4)) else ((tinderref08_twin.f k x0 x3 ((rd_T44 x0 x3).f2) ((rd_T44 x0 x3).f0) ((rd_T44 x0 x3).f1)).bind fun t14007 => (tinderref08_Formed.j2 k x0 x3 t14007 ((rd_T44 x0 x3).f0) ((rd_T44 x0 x3).f1) ((rd_T44 x0 x3).f2) ((rd_T44 x0 x3).f3) ((rd_T44 x0 x3).f4)))))) else (tinderref08_Formed.j2 k x0 x3 true ((rd_T44 x0 x3).f0) ((rd_T44 x0 x3).f1) ((rd_T44 x0 x3).f2) ((rd_T44 x0 x3).f3) ((rd_T44 x0 x3).f4)))) else (tinderref08_Formed.j2 k x0 x3 false ((rd_T44 x0 x3).f0) ((rd_T44 x0 x3).f1) ((rd_T44 x0 x3).f2) ((rd_T44 x0 x3).f3) ((rd_T44 x0 x3).f4))) else (none)) else (some true)
def tinderref08_Formed.j2 : Nat → List (S44) → Int → Bool → ByteArray → List Int → Int → List (S53) → List Int → Option (Bool)
 | 0, _, _, _, _, _, _, _, _ => none
 | k + 1, x0, x3, x81, x14006000, x14006001, x14006002, x14006003, x14006004 => if x81 = true then (some false) else (if (x14006003.length : Int) > 16 then (tinderref08_Formed.j3 k x0 x3 true x14006000 x14006001 x14006002 x14006003 x14006004) else (tinderref08_Formed.j3 k x0 x3 (decide ((x14006004.length : Int) > 16)) x14006000 x14006001 x14006002 x14006003 x14006004))
def tinderref08_Formed.j3 : Nat → List (S44) → Int → Bool → ByteArray → List Int → Int → List (S53) → List Int → Option (Bool)
 | 0, _, _, _, _, _, _, _, _ => none
 | k + 1, x0, x3, x91, x14006000, x14006001, x14006002, x14006003, x14006004 => if x91 = true then (some false) else (tinderref08_Formed.l1 k x0 x3 0 x14006000 x14006001 x14006002 x14006003 x14006004)
def tinderref08_Formed.l1 : Nat → List (S44) → Int → Int → ByteArray → List Int → Int → List (S53) → List Int → Option (Bool)
 | 0, _, _, _, _, _, _, _, _ => none
 | k + 1, x0, x3, x5, x14006000, x14006001, x14006002, x14006003, x14006004 => if x5 < (x14006003.length : Int) then (if 0 ≤ x5 then ((tinderref05_Named.f k ((rd_T53 x14006003 x5).f0)).bind fun t14009 => (if t14009 = true then (if (((rd_T53 x14006003 x5).f1).length : Int) > 256 then (some false) else (if x5 ≤ (x14006003.length : Int) then ((tinderref08_find.f k (x14006003.take (x5 : Int).toNat) ((rd_T53 x14006003 x5).f0)).bind fun t14016 => (if t14016 ≥ 0 then (some false) else (tinderref08_Formed.l1 k x0 x3 (wrap64 (x5 + 1)) x14006000 x14006001 x14006002 x14006003 x14006004))) else (none))) else (some false))) else (none)) else (tinderref08_Formed.l0 k x0 (wrap64 (x3 + 1)))
end
def tinderref08_Formed.f (k : Nat) (l0 : List (S44)) : Option (Bool) := if (l0.length : Int) < 1 then (tinderref08_Formed.j0 k l0 true) else (if (l0.length : Int) > 32 then (tinderref08_Formed.j0 k l0 true) else (if 0 < (l0.length : Int) then (if ((rd_T44 l0 0).f0).toList = ([] : List UInt8) then (if (((rd_T44 l0 0).f1).length : Int) > 0 then (tinderref08_Formed.j0 k l0 true) else (tinderref08_Formed.j0 k l0 (((rd_T44 l0 0).f2) != (-1)))) else (tinderref08_Formed.j0 k l0 true)) else (none)))
def tinderref08_Formed.T14 : Bool × List (List Nat × List Nat) := (true, [([], []), ([0], [0]), ([], []), ([1, 2], [1, 2]), ([3], [3]), ([4], [4]), ([5], [5]), ([6], [6]), ([7, 6], [7]), ([8], [8]), ([9, 8], [8, 9]), ([8], [8]), ([10, 11, 8], [8, 10, 11]), ([12, 8], [8, 12]), ([13, 8], [8, 13]), ([14, 8], [8, 14]), ([15, 8], [8, 15]), ([8, 16], [8, 16]), ([17, 8], [17]), ([18], [18]), ([19, 18], [18, 19]), ([18], [18]), ([20, 21, 18], [18, 20, 21]), ([18], [18]), ([23, 18], [18, 23]), ([18], [18]), ([24, 25, 18], [18, 24, 25]), ([26, 18], [18, 26]), ([27, 18], [18, 27]), ([22, 28, 18, 18], [18, 22, 28]), ([29, 18], [18, 29]), ([18, 30], [18, 30])])
def tinderref08_Formed.B14 : List Nat := [0, 1, 0, 7, 15, 31, 63, 127, 255, 511, 1023, 511, 4095, 8191, 16383, 32767, 65535, 131071, 262143, 524287, 1048575, 524287, 4194303, 524287, 8912895, 524287, 59244543, 126353407, 260571135, 536870911, 1073741823, 2147483647]
theorem tinderref08_Formed.tab14 : rtab .any (opsOf Tryd.f13 14) = tinderref08_Formed.T14 := by kernel_rfl
theorem tinderref08_Formed.bits14 : waitsOk tinderref08_Formed.T14.2 tinderref08_Formed.B14 = true := by kernel_rfl
set_option maxHeartbeats 8000000 in
set_option maxRecDepth 100000 in
theorem tinderref08_Formed.calls (k : Nat) (A0 : Option Addr) (c0 : Nat) (l0 : List (S44)) (r : Bool) (w : World) (hr0 : Kd.C k44 w A0 l0.length l0) (hc0 : l0.length ≤ c0) (h : tinderref08_Formed.f k l0 = some r) :
  Calls Tryd.prog 13 #[.slice A0 l0.length c0] w fun e w' => e = .returned (.bool r) ∧ Below w.heap.size w w' := by
 have hu44 := Tryd.underlying44
 have HR0 := Aside0.mk hr0
 have HC0 := Aside0.mk hc0
 clear hr0 hc0
 have HB := Aside0.mk (Below.refl w.heap.size w)
 have H : (if (l0.length : Int) < 1 then (tinderref08_Formed.j0 k l0 true) else (if (l0.length : Int) > 32 then (tinderref08_Formed.j0 k l0 true) else (if 0 < (l0.length : Int) then (if ((rd_T44 l0 0).f0).toList = ([] : List UInt8) then (if (((rd_T44 l0 0).f1).length : Int) > 0 then (tinderref08_Formed.j0 k l0 true) else (tinderref08_Formed.j0 k l0 (((rd_T44 l0 0).f2) != (-1)))) else (tinderref08_Formed.j0 k l0 true)) else (none)))) = some r := h
 clear h
 have HC2 := Aside0.mk H
 clear H
 go_enter Tryd.func13, Tryd.ntmps13
 go_upto_region 1 with (fail)
 go_cut [35] (fun v35 wc => ∃ (kq : Nat) (x35_1 : Bool), v35 = .bool x35_1 ∧ Aside0 (tinderref08_Formed.j0 kq l0 x35_1 = some r) ∧ Aside0 (kq ≤ k) ∧ Aside0 (Below w.heap.size w wc))
 case first =>
  have H := HC2.out
  clear HC2
  by_cases c3 : (l0.length : Int) < 1
  ·rw [if_pos c3] at H
   have c3b0 : decide ((l0.length : Int) < 1) = true := decide_eq_true c3
   have c3b1 : decide (l0.length < 1) = true := decide_eq_true (by omega)
   clear c3
   (first | rw [c3b0] | (simp only [i64_w, i32_w]; rw [c3b0]) | skip)
   have H' := Aside0.mk H
   clear H
   go_wp2
   go_meet
   case rel => exact ⟨_, (true), (by first | rfl | (simp; done) | (simp [*]; done)), H', ⟨by first | omega | exact Nat.le_refl _⟩, ⟨by repeat (first | (with_reducible first | exact HB.out | apply below_alloc | apply pw_below_drewN | apply below_drew1) | exact HB.out)⟩⟩
  ·rw [if_neg c3] at H
   have c3b0 : decide ((l0.length : Int) < 1) = false := decide_eq_false c3
   have c3b1 : decide (l0.length < 1) = false := decide_eq_false (by omega)
   clear c3
   (first | rw [c3b0] | (simp only [i64_w, i32_w]; rw [c3b0]) | skip)
   by_cases c4 : (l0.length : Int) > 32
   ·rw [if_pos c4] at H
    have c4b0 : decide (32 < (l0.length : Int)) = true := decide_eq_true c4
    have c4b1 : decide (32 < l0.length) = true := decide_eq_true (by omega)
    clear c4
    have H' := Aside0.mk H
    clear H
    go_wp2
    go_meet
    case rel => exact ⟨_, (true), (by first | rfl | (simp; done) | (simp [*]; done)), H', ⟨by first | omega | exact Nat.le_refl _⟩, ⟨by repeat (first | (with_reducible first | exact HB.out | apply below_alloc | apply pw_below_drewN | apply below_drew1) | exact HB.out)⟩⟩
   ·rw [if_neg c4] at H
    have c4b0 : decide (32 < (l0.length : Int)) = false := decide_eq_false c4
    have c4b1 : decide (32 < l0.length) = false := decide_eq_false (by omega)
    clear c4
    by_cases c5 : 0 < (l0.length : Int)
    ·rw [if_pos c5] at H
     have c5b0 : decide (0 < (l0.length : Int)) = true := decide_eq_true c5
     have c5b1 : decide (0 < l0.length) = true := decide_eq_true (by omega)
     clear c5
     by_cases c6 : ((rd_T44 l0 0).f0).toList = ([] : List UInt8)
     ·rw [if_pos c6] at H
      have c6b0 : (((rd_T44 l0 0).f0).toList == ([] : List UInt8)) = true := beq_iff_eq.mpr c6
      have c6b1 : (((rd_T44 l0 0).f0).toList != ([] : List UInt8)) = false := bne_eq_false_iff_eq.mpr c6
      clear c6
      by_cases c7 : (((rd_T44 l0 0).f1).length : Int) > 0
      ·rw [if_pos c7] at H
       have c7b0 : decide (0 < (((rd_T44 l0 0).f1).length : Int)) = true := decide_eq_true c7
       have c7b1 : decide (0 < ((rd_T44 l0 0).f1).length) = true := decide_eq_true (by omega)
       clear c7
       have H' := Aside0.mk H
       clear H
       have p001 : 0 ≤ (0 : Int) := (by omega)
       have q001 : 0 < (l0.length : Int) := of_decide_eq_true (by first | (with_reducible assumption) | assumption)
       obtain ⟨ad001, A001_1, c001_1, A001_3, c001_3, A001_4, c001_4, e001, hx001_0, hx001_1, hx001_2, hx001_3, hx001_4, hl001_1, hi001_1, hl001_3, hi001_3, hl001_4, hi001_4⟩ := at_T44 HR0.out 0 p001 q001
       cases e001
       have qi001 : (0 < l0.length) = True := eq_true (by omega)
       (try rw [show ((0 : Int)).toNat = 0 from rfl] at hx001_0)
       (try rw [show 0 * 5 = 0 from rfl] at hx001_0)
       (try rw [Addr.add_zero'] at hx001_0)
       (try rw [show ((0 : Int)).toNat = 0 from rfl] at hx001_1)
       (try rw [show 0 * 5 = 0 from rfl] at hx001_1)
       (try rw [Addr.add_zero'] at hx001_1)
       (try rw [show ((0 : Int)).toNat = 0 from rfl] at hx001_2)
       (try rw [show 0 * 5 = 0 from rfl] at hx001_2)
       (try rw [Addr.add_zero'] at hx001_2)
       (try rw [show ((0 : Int)).toNat = 0 from rfl] at hx001_3)
       (try rw [show 0 * 5 = 0 from rfl] at hx001_3)
       (try rw [Addr.add_zero'] at hx001_3)
       (try rw [show ((0 : Int)).toNat = 0 from rfl] at hx001_4)
       (try rw [show 0 * 5 = 0 from rfl] at hx001_4)
       (try rw [Addr.add_zero'] at hx001_4)
       replace hx001_0 := (HB.out.cell (World.block_lt_of_cell? w _ hx001_0)).trans hx001_0
       replace hx001_1 := (HB.out.cell (World.block_lt_of_cell? w _ hx001_1)).trans hx001_1
       replace hx001_2 := (HB.out.cell (World.block_lt_of_cell? w _ hx001_2)).trans hx001_2
       replace hx001_3 := (HB.out.cell (World.block_lt_of_cell? w _ hx001_3)).trans hx001_3
       replace hx001_4 := (HB.out.cell (World.block_lt_of_cell? w _ hx001_4)).trans hx001_4
       have HR001_1 := Aside0.mk hi001_1
       have HC001_1 := Aside0.mk hl001_1
       clear hi001_1 hl001_1
       have HR001_3 := Aside0.mk hi001_3
       have HC001_3 := Aside0.mk hl001_3
       clear hi001_3 hl001_3
       have HR001_4 := Aside0.mk hi001_4
       have HC001_4 := Aside0.mk hl001_4
       clear hi001_4 hl001_4
       replace p001 := eq_true p001
       replace q001 := eq_true q001
       have p002 : 0 ≤ (0 : Int) := (by omega)
       have q002 : 0 < (l0.length : Int) := of_decide_eq_true (by first | (with_reducible assumption) | assumption)
       obtain ⟨ad002, A002_1, c002_1, A002_3, c002_3, A002_4, c002_4, e002, hx002_0, hx002_1, hx002_2, hx002_3, hx002_4, hl002_1, hi002_1, hl002_3, hi002_3, hl002_4, hi002_4⟩ := at_T44 HR0.out 0 p002 q002
       obtain rfl : ad001 = ad002 := (by injection e002)
       have qi002 : (0 < l0.length) = True := eq_true (by omega)
       (try rw [show ((0 : Int)).toNat = 0 from rfl] at hx002_0)
       (try rw [show 0 * 5 = 0 from rfl] at hx002_0)
       (try rw [Addr.add_zero'] at hx002_0)
       (try rw [show ((0 : Int)).toNat = 0 from rfl] at hx002_1)
       (try rw [show 0 * 5 = 0 from rfl] at hx002_1)
       (try rw [Addr.add_zero'] at hx002_1)
       (try rw [show ((0 : Int)).toNat = 0 from rfl] at hx002_2)
       (try rw [show 0 * 5 = 0 from rfl] at hx002_2)
       (try rw [Addr.add_zero'] at hx002_2)
       (try rw [show ((0 : Int)).toNat = 0 from rfl] at hx002_3)
       (try rw [show 0 * 5 = 0 from rfl] at hx002_3)
       (try rw [Addr.add_zero'] at hx002_3)
       (try rw [show ((0 : Int)).toNat = 0 from rfl] at hx002_4)
       (try rw [show 0 * 5 = 0 from rfl] at hx002_4)
       (try rw [Addr.add_zero'] at hx002_4)
       replace hx002_0 := (HB.out.cell (World.block_lt_of_cell? w _ hx002_0)).trans hx002_0
       replace hx002_1 := (HB.out.cell (World.block_lt_of_cell? w _ hx002_1)).trans hx002_1
       replace hx002_2 := (HB.out.cell (World.block_lt_of_cell? w _ hx002_2)).trans hx002_2
       replace hx002_3 := (HB.out.cell (World.block_lt_of_cell? w _ hx002_3)).trans hx002_3
       replace hx002_4 := (HB.out.cell (World.block_lt_of_cell? w _ hx002_4)).trans hx002_4
       have HR002_1 := Aside0.mk hi002_1
       have HC002_1 := Aside0.mk hl002_1
       clear hi002_1 hl002_1
       have HR002_3 := Aside0.mk hi002_3
       have HC002_3 := Aside0.mk hl002_3
       clear hi002_3 hl002_3
       have HR002_4 := Aside0.mk hi002_4
       have HC002_4 := Aside0.mk hl002_4
       clear hi002_4 hl002_4
       replace p002 := eq_true p002
       replace q002 := eq_true q002
       have ea_ := Option.some.inj (hx001_1.symm.trans hx002_1)
       injection ea_ with ea_ en_ ec_
       subst ea_
       subst ec_
       clear en_
       have ea_ := Option.some.inj (hx001_3.symm.trans hx002_3)
       injection ea_ with ea_ en_ ec_
       subst ea_
       subst ec_
       clear en_
       have ea_ := Option.some.inj (hx001_4.symm.trans hx002_4)
       injection ea_ with ea_ en_ ec_
       subst ea_
       subst ec_
       clear en_
       go_wp2
       go_meet
       case rel => exact ⟨_, (true), (by first | rfl | (simp; done) | (simp [*]; done)), H', ⟨by first | omega | exact Nat.le_refl _⟩, ⟨by repeat (first | (with_reducible first | exact HB.out | apply below_alloc | apply pw_below_drewN | apply below_drew1) | exact HB.out)⟩⟩
      ·rw [if_neg c7] at H
       have c7b0 : decide (0 < (((rd_T44 l0 0).f1).length : Int)) = false := decide_eq_false c7
       have c7b1 : decide (0 < ((rd_T44 l0 0).f1).length) = false := decide_eq_false (by omega)
       clear c7
       have H' := Aside0.mk H
       clear H
       have p001 : 0 ≤ (0 : Int) := (by omega)
       have q001 : 0 < (l0.length : Int) := of_decide_eq_true (by first | (with_reducible assumption) | assumption)
       obtain ⟨ad001, A001_1, c001_1, A001_3, c001_3, A001_4, c001_4, e001, hx001_0, hx001_1, hx001_2, hx001_3, hx001_4, hl001_1, hi001_1, hl001_3, hi001_3, hl001_4, hi001_4⟩ := at_T44 HR0.out 0 p001 q001
       cases e001
       have qi001 : (0 < l0.length) = True := eq_true (by omega)
       (try rw [show ((0 : Int)).toNat = 0 from rfl] at hx001_0)
       (try rw [show 0 * 5 = 0 from rfl] at hx001_0)
       (try rw [Addr.add_zero'] at hx001_0)
       (try rw [show ((0 : Int)).toNat = 0 from rfl] at hx001_1)
       (try rw [show 0 * 5 = 0 from rfl] at hx001_1)
       (try rw [Addr.add_zero'] at hx001_1)
       (try rw [show ((0 : Int)).toNat = 0 from rfl] at hx001_2)
       (try rw [show 0 * 5 = 0 from rfl] at hx001_2)
       (try rw [Addr.add_zero'] at hx001_2)
       (try rw [show ((0 : Int)).toNat = 0 from rfl] at hx001_3)
       (try rw [show 0 * 5 = 0 from rfl] at hx001_3)
       (try rw [Addr.add_zero'] at hx001_3)
       (try rw [show ((0 : Int)).toNat = 0 from rfl] at hx001_4)
       (try rw [show 0 * 5 = 0 from rfl] at hx001_4)
       (try rw [Addr.add_zero'] at hx001_4)
       replace hx001_0 := (HB.out.cell (World.block_lt_of_cell? w _ hx001_0)).trans hx001_0
       replace hx001_1 := (HB.out.cell (World.block_lt_of_cell? w _ hx001_1)).trans hx001_1
       replace hx001_2 := (HB.out.cell (World.block_lt_of_cell? w _ hx001_2)).trans hx001_2
       replace hx001_3 := (HB.out.cell (World.block_lt_of_cell? w _ hx001_3)).trans hx001_3
       replace hx001_4 := (HB.out.cell (World.block_lt_of_cell? w _ hx001_4)).trans hx001_4
       have HR001_1 := Aside0.mk hi001_1
       have HC001_1 := Aside0.mk hl001_1
       clear hi001_1 hl001_1
       have HR001_3 := Aside0.mk hi001_3
       have HC001_3 := Aside0.mk hl001_3
       clear hi001_3 hl001_3
       have HR001_4 := Aside0.mk hi001_4
       have HC001_4 := Aside0.mk hl001_4
       clear hi001_4 hl001_4
       replace p001 := eq_true p001
       replace q001 := eq_true q001
       have p002 : 0 ≤ (0 : Int) := (by omega)
       have q002 : 0 < (l0.length : Int) := of_decide_eq_true (by first | (with_reducible assumption) | assumption)
       obtain ⟨ad002, A002_1, c002_1, A002_3, c002_3, A002_4, c002_4, e002, hx002_0, hx002_1, hx002_2, hx002_3, hx002_4, hl002_1, hi002_1, hl002_3, hi002_3, hl002_4, hi002_4⟩ := at_T44 HR0.out 0 p002 q002
       obtain rfl : ad001 = ad002 := (by injection e002)
       have qi002 : (0 < l0.length) = True := eq_true (by omega)
       (try rw [show ((0 : Int)).toNat = 0 from rfl] at hx002_0)
       (try rw [show 0 * 5 = 0 from rfl] at hx002_0)
       (try rw [Addr.add_zero'] at hx002_0)
       (try rw [show ((0 : Int)).toNat = 0 from rfl] at hx002_1)
       (try rw [show 0 * 5 = 0 from rfl] at hx002_1)
       (try rw [Addr.add_zero'] at hx002_1)
       (try rw [show ((0 : Int)).toNat = 0 from rfl] at hx002_2)
       (try rw [show 0 * 5 = 0 from rfl] at hx002_2)
       (try rw [Addr.add_zero'] at hx002_2)
       (try rw [show ((0 : Int)).toNat = 0 from rfl] at hx002_3)
       (try rw [show 0 * 5 = 0 from rfl] at hx002_3)
       (try rw [Addr.add_zero'] at hx002_3)
       (try rw [show ((0 : Int)).toNat = 0 from rfl] at hx002_4)
       (try rw [show 0 * 5 = 0 from rfl] at hx002_4)
       (try rw [Addr.add_zero'] at hx002_4)
       replace hx002_0 := (HB.out.cell (World.block_lt_of_cell? w _ hx002_0)).trans hx002_0
       replace hx002_1 := (HB.out.cell (World.block_lt_of_cell? w _ hx002_1)).trans hx002_1
       replace hx002_2 := (HB.out.cell (World.block_lt_of_cell? w _ hx002_2)).trans hx002_2
       replace hx002_3 := (HB.out.cell (World.block_lt_of_cell? w _ hx002_3)).trans hx002_3
       replace hx002_4 := (HB.out.cell (World.block_lt_of_cell? w _ hx002_4)).trans hx002_4
       have HR002_1 := Aside0.mk hi002_1
       have HC002_1 := Aside0.mk hl002_1
       clear hi002_1 hl002_1
       have HR002_3 := Aside0.mk hi002_3
       have HC002_3 := Aside0.mk hl002_3
       clear hi002_3 hl002_3
       have HR002_4 := Aside0.mk hi002_4
       have HC002_4 := Aside0.mk hl002_4
       clear hi002_4 hl002_4
       replace p002 := eq_true p002
       replace q002 := eq_true q002
       have ea_ := Option.some.inj (hx001_1.symm.trans hx002_1)
       injection ea_ with ea_ en_ ec_
       subst ea_
       subst ec_
       clear en_
       have ea_ := Option.some.inj (hx001_3.symm.trans hx002_3)
       injection ea_ with ea_ en_ ec_
       subst ea_
       subst ec_
       clear en_
       have ea_ := Option.some.inj (hx001_4.symm.trans hx002_4)
       injection ea_ with ea_ en_ ec_
       subst ea_
       subst ec_
       clear en_
       have p003 : 0 ≤ (0 : Int) := (by omega)
       have q003 : 0 < (l0.length : Int) := of_decide_eq_true (by first | (with_reducible assumption) | assumption)
       obtain ⟨ad003, A003_1, c003_1, A003_3, c003_3, A003_4, c003_4, e003, hx003_0, hx003_1, hx003_2, hx003_3, hx003_4, hl003_1, hi003_1, hl003_3, hi003_3, hl003_4, hi003_4⟩ := at_T44 HR0.out 0 p003 q003
       obtain rfl : ad001 = ad003 := (by injection e003)
       have qi003 : (0 < l0.length) = True := eq_true (by omega)
       (try rw [show ((0 : Int)).toNat = 0 from rfl] at hx003_0)
       (try rw [show 0 * 5 = 0 from rfl] at hx003_0)
       (try rw [Addr.add_zero'] at hx003_0)
       (try rw [show ((0 : Int)).toNat = 0 from rfl] at hx003_1)
       (try rw [show 0 * 5 = 0 from rfl] at hx003_1)
       (try rw [Addr.add_zero'] at hx003_1)
       (try rw [show ((0 : Int)).toNat = 0 from rfl] at hx003_2)
       (try rw [show 0 * 5 = 0 from rfl] at hx003_2)
       (try rw [Addr.add_zero'] at hx003_2)
       (try rw [show ((0 : Int)).toNat = 0 from rfl] at hx003_3)
       (try rw [show 0 * 5 = 0 from rfl] at hx003_3)
       (try rw [Addr.add_zero'] at hx003_3)
       (try rw [show ((0 : Int)).toNat = 0 from rfl] at hx003_4)
       (try rw [show 0 * 5 = 0 from rfl] at hx003_4)
       (try rw [Addr.add_zero'] at hx003_4)
       replace hx003_0 := (HB.out.cell (World.block_lt_of_cell? w _ hx003_0)).trans hx003_0
       replace hx003_1 := (HB.out.cell (World.block_lt_of_cell? w _ hx003_1)).trans hx003_1
       replace hx003_2 := (HB.out.cell (World.block_lt_of_cell? w _ hx003_2)).trans hx003_2
       replace hx003_3 := (HB.out.cell (World.block_lt_of_cell? w _ hx003_3)).trans hx003_3
       replace hx003_4 := (HB.out.cell (World.block_lt_of_cell? w _ hx003_4)).trans hx003_4
       have HR003_1 := Aside0.mk hi003_1
       have HC003_1 := Aside0.mk hl003_1
       clear hi003_1 hl003_1
       have HR003_3 := Aside0.mk hi003_3
       have HC003_3 := Aside0.mk hl003_3
       clear hi003_3 hl003_3
       have HR003_4 := Aside0.mk hi003_4
       have HC003_4 := Aside0.mk hl003_4
       clear hi003_4 hl003_4
       replace p003 := eq_true p003
       replace q003 := eq_true q003
       have ea_ := Option.some.inj (hx001_1.symm.trans hx003_1)
       injection ea_ with ea_ en_ ec_
       subst ea_
       subst ec_
       clear en_
       have ea_ := Option.some.inj (hx001_3.symm.trans hx003_3)
       injection ea_ with ea_ en_ ec_
       subst ea_
       subst ec_
       clear en_
       have ea_ := Option.some.inj (hx001_4.symm.trans hx003_4)
       injection ea_ with ea_ en_ ec_
       subst ea_
       subst ec_
       clear en_
       go_wp2
       go_meet
       case rel => exact ⟨_, ((((rd_T44 l0 0).f2) != (-1))), (by first | rfl | (simp; done) | (simp [*]; done)), H', ⟨by first | omega | exact Nat.le_refl _⟩, ⟨by repeat (first | (with_reducible first | exact HB.out | apply below_alloc | apply pw_below_drewN | apply below_drew1) | exact HB.out)⟩⟩
     ·rw [if_neg c6] at H
      have c6b0 : (((rd_T44 l0 0).f0).toList == ([] : List UInt8)) = false := beq_eq_false_iff_ne.mpr c6
      have c6b1 : (((rd_T44 l0 0).f0).toList != ([] : List UInt8)) = true := bne_iff_ne.mpr c6
      have H' := Aside0.mk H
      clear H
      have p001 : 0 ≤ (0 : Int) := (by omega)
      have q001 : 0 < (l0.length : Int) := of_decide_eq_true (by first | (with_reducible assumption) | assumption)
      obtain ⟨ad001, A001_1, c001_1, A001_3, c001_3, A001_4, c001_4, e001, hx001_0, hx001_1, hx001_2, hx001_3, hx001_4, hl001_1, hi001_1, hl001_3, hi001_3, hl001_4, hi001_4⟩ := at_T44 HR0.out 0 p001 q001
      cases e001
      have qi001 : (0 < l0.length) = True := eq_true (by omega)
      (try rw [show ((0 : Int)).toNat = 0 from rfl] at hx001_0)
      (try rw [show 0 * 5 = 0 from rfl] at hx001_0)
      (try rw [Addr.add_zero'] at hx001_0)
      (try rw [show ((0 : Int)).toNat = 0 from rfl] at hx001_1)
      (try rw [show 0 * 5 = 0 from rfl] at hx001_1)
      (try rw [Addr.add_zero'] at hx001_1)
      (try rw [show ((0 : Int)).toNat = 0 from rfl] at hx001_2)
      (try rw [show 0 * 5 = 0 from rfl] at hx001_2)
      (try rw [Addr.add_zero'] at hx001_2)
      (try rw [show ((0 : Int)).toNat = 0 from rfl] at hx001_3)
      (try rw [show 0 * 5 = 0 from rfl] at hx001_3)
      (try rw [Addr.add_zero'] at hx001_3)
      (try rw [show ((0 : Int)).toNat = 0 from rfl] at hx001_4)
      (try rw [show 0 * 5 = 0 from rfl] at hx001_4)
      (try rw [Addr.add_zero'] at hx001_4)
      replace hx001_0 := (HB.out.cell (World.block_lt_of_cell? w _ hx001_0)).trans hx001_0
      replace hx001_1 := (HB.out.cell (World.block_lt_of_cell? w _ hx001_1)).trans hx001_1
      replace hx001_2 := (HB.out.cell (World.block_lt_of_cell? w _ hx001_2)).trans hx001_2
      replace hx001_3 := (HB.out.cell (World.block_lt_of_cell? w _ hx001_3)).trans hx001_3
      replace hx001_4 := (HB.out.cell (World.block_lt_of_cell? w _ hx001_4)).trans hx001_4
      have HR001_1 := Aside0.mk hi001_1
      have HC001_1 := Aside0.mk hl001_1
      clear hi001_1 hl001_1
      have HR001_3 := Aside0.mk hi001_3
      have HC001_3 := Aside0.mk hl001_3
      clear hi001_3 hl001_3
      have HR001_4 := Aside0.mk hi001_4
      have HC001_4 := Aside0.mk hl001_4
      clear hi001_4 hl001_4
      replace p001 := eq_true p001
      replace q001 := eq_true q001
      go_wp2
      go_meet
      case rel => exact ⟨_, (true), (by first | rfl | (simp; done) | (simp [*]; done)), H', ⟨by first | omega | exact Nat.le_refl _⟩, ⟨by repeat (first | (with_reducible first | exact HB.out | apply below_alloc | apply pw_below_drewN | apply below_drew1) | exact HB.out)⟩⟩
    ·rw [if_neg c5] at H
     exact absurd H (by simp)
 case rest =>
  clear HC2
  try clear c1
  try clear p1
  try clear q1
  try clear hx1
  try clear qi1
  try clear p2
  try clear c3
  try clear c3b0
  try clear c3b1
  try clear c4
  try clear c4b0
  try clear c4b1
  try clear c5
  try clear c5b0
  try clear c5b1
  try clear c6
  try clear c6b0
  try clear c6b1
  try clear c7
  try clear c7b0
  try clear c7b1
  try clear hx001_0
  try clear hx001_1
  try clear hx001_2
  try clear hx001_3
  try clear hx001_4
  try clear hx002_0
  try clear hx002_1
  try clear hx002_2
  try clear hx002_3
  try clear hx002_4
  try clear hx003_0
  try clear hx003_1
  try clear hx003_2
  try clear hx003_3
  try clear hx003_4
  try clear p001
  try clear p002
  try clear p003
  try clear q001
  try clear q002
  try clear q003
  obtain ⟨kq, x35_1, rfl, HA, HJ1, HB⟩ := hcut
  cases kq with
  | zero => exact absurd HA.out (by simp [tinderref08_Formed.j0])
  | succ kj1 =>
   have H := HA.out
   clear HA
   simp only [tinderref08_Formed.j0] at H
   by_cases c8 : x35_1 = true
   ·subst c8
    have H1 : (some false) = some r := by rw [if_pos rfl] at H; exact H
    clear H
    have H := H1
    clear H1
    obtain rfl := Option.some.inj H
    go_wp2
    go_ret
    exact ⟨by first | rfl | (simp [errW_none, errW_some] <;> rfl) | (simp [*, errW_none, errW_some] <;> rfl), by repeat (first | (with_reducible first | exact HB.out | apply below_alloc | apply pw_below_drewN | apply below_drew1) | exact HB.out)⟩
   ·replace c8 := Bool.eq_false_iff.mpr c8
    subst c8
    have H1 : (tinderref08_Formed.l0 kj1 l0 0) = some r := by rw [if_neg (show ¬ (false = true) by decide)] at H; exact H
    clear H
    have H := H1
    clear H1
    have H' := Aside0.mk H
    clear H
    go_wp2
    go_loopg [3] kj1 (fun kq v3 w' => ∃ (x3_2 : Int), v3 = .int .i64 x3_2 ∧ Aside0 (tinderref08_Formed.l0 kq l0 x3_2 = some r) ∧ Aside0 (kq ≤ kj1) ∧ Aside0 (Below w.heap.size w w'))
    case atStart => exact ⟨(0), (by first | rfl | (simp; done) | (simp [*]; done)), H', ⟨Nat.le_refl _⟩, ⟨by repeat (first | (with_reducible first | exact HB.out | apply below_alloc | apply pw_below_drewN | apply below_drew1) | exact HB.out)⟩⟩
    case round =>
     clear H'
     try clear c1
     try clear p1
     try clear q1
     try clear hx1
     try clear qi1
     try clear p2
     try clear c3
     try clear c3b0
     try clear c3b1
     try clear c4
     try clear c4b0
     try clear c4b1
     try clear c5
     try clear c5b0
     try clear c5b1
     try clear c6
     try clear c6b0
     try clear c6b1
     try clear c7
     try clear c7b0
     try clear c7b1
     try clear c8
     try clear hx001_0
     try clear hx001_1
     try clear hx001_2
     try clear hx001_3
     try clear hx001_4
     try clear hx002_0
     try clear hx002_1
     try clear hx002_2
     try clear hx002_3
     try clear hx002_4
     try clear hx003_0
     try clear hx003_1
     try clear hx003_2
     try clear hx003_3
     try clear hx003_4
     try clear p1
     try clear p001
     try clear p002
     try clear p003
     try clear p2
     try clear q1
     try clear q001
     try clear q002
     try clear q003
     obtain ⟨x3_2, rfl, HA, HK2, HB⟩ := hrel
     cases gk with
     | zero => exact absurd HA.out (by simp [tinderref08_Formed.l0])
     | succ k2 =>
      have H := HA.out
      clear HA
      simp only [tinderref08_Formed.l0] at H
      by_cases c9 : x3_2 < (l0.length : Int)
      ·rw [if_pos c9] at H
       have c9b0 : decide (x3_2 < (l0.length : Int)) = true := decide_eq_true c9
       clear c9
       by_cases c10 : 0 ≤ x3_2
       ·rw [if_pos c10] at H
        have c10b0 : decide (0 ≤ x3_2) = true := decide_eq_true c10
        clear c10
        have HC11 := Aside0.mk H
        clear H
        have p004 : 0 ≤ (x3_2 : Int) := of_decide_eq_true (by first | (with_reducible assumption) | assumption)
        have q004 : x3_2 < (l0.length : Int) := of_decide_eq_true (by first | (with_reducible assumption) | assumption)
        obtain ⟨ad004, A004_1, c004_1, A004_3, c004_3, A004_4, c004_4, e004, hx004_0, hx004_1, hx004_2, hx004_3, hx004_4, hl004_1, hi004_1, hl004_3, hi004_3, hl004_4, hi004_4⟩ := at_T44 HR0.out x3_2 p004 q004
        cases e004
        replace hx004_0 := (HB.out.cell (World.block_lt_of_cell? w _ hx004_0)).trans hx004_0
        replace hx004_1 := (HB.out.cell (World.block_lt_of_cell? w _ hx004_1)).trans hx004_1
        replace hx004_2 := (HB.out.cell (World.block_lt_of_cell? w _ hx004_2)).trans hx004_2
        replace hx004_3 := (HB.out.cell (World.block_lt_of_cell? w _ hx004_3)).trans hx004_3
        replace hx004_4 := (HB.out.cell (World.block_lt_of_cell? w _ hx004_4)).trans hx004_4
        have HR004_1 := Aside0.mk hi004_1
        have HC004_1 := Aside0.mk hl004_1
        clear hi004_1 hl004_1
        have HR004_3 := Aside0.mk hi004_3
        have HC004_3 := Aside0.mk hl004_3
        clear hi004_3 hl004_3
        have HR004_4 := Aside0.mk hi004_4
        have HC004_4 := Aside0.mk hl004_4
        clear hi004_4 hl004_4
        replace p004 := eq_true p004
        replace q004 := eq_true q004
        go_upto_region 7 with (first | ((with_reducible refine gate_dst (N := 4) rfl ?_); (try (refine gate_guard (by rfl) ?_; dsimp only)); refine box_event ?hg (N := 4) ?hd (cs := #[.string (⟨#[]⟩ : ByteArray), .slice none 0 0, .int .i64 0, .slice none 0 0, .slice none 0 0]) (t := 44) ?hr ?_; (case hd => rfl); (case hg => rfl); (case hr => first | (go_simp; done) | (go_simp; rfl)); intro gb005 hg w12 hbox hb; have n0_ := Aside0.mk (below_step (by repeat (first | (with_reducible first | exact HB.out | apply below_alloc | apply pw_below_drewN | apply below_drew1) | exact HB.out)) hb); have n1_ := Aside0.mk (hbox); have n2_ := Aside0.mk ((by rw [hg]; exact (below_size (by repeat (first | (with_reducible first | exact HB.out | apply below_alloc | apply pw_below_drewN | apply below_drew1) | exact HB.out))) : w.heap.size ≤ gb005)); have n3_ := Aside0.mk ((by rw [hg]; exact (below_size (by repeat (first | (with_reducible first | exact HB.out | apply below_alloc | apply pw_below_drewN | apply below_drew1) | exact HB.out))) : w.heap.size ≤ gb005)); clear HB; have HB := n0_; have BK005 := n1_; have GW005 := n2_; have GE005 := n3_; clear n0_ n1_ n2_ n3_; clear hb hbox hg; have hcz13_0 : w12.cell? ⟨gb005, 0, none⟩ = some (.string (⟨#[]⟩ : ByteArray)) := (blk_cell BK005.out 0).trans rfl; have hcz13_1 : w12.cell? ⟨gb005, 1, none⟩ = some (.slice none 0 0) := (blk_cell BK005.out 1).trans rfl; have hcz13_2 : w12.cell? ⟨gb005, 2, none⟩ = some (.int .i64 0) := (blk_cell BK005.out 2).trans rfl; have hcz13_3 : w12.cell? ⟨gb005, 3, none⟩ = some (.slice none 0 0) := (blk_cell BK005.out 3).trans rfl; have hcz13_4 : w12.cell? ⟨gb005, 4, none⟩ = some (.slice none 0 0) := (blk_cell BK005.out 4).trans rfl; have hfz13_0 := blk_frozen BK005.out 0; have hfz13_1 := blk_frozen BK005.out 1; have hfz13_2 := blk_frozen BK005.out 2; have hfz13_3 := blk_frozen BK005.out 3; have hfz13_4 := blk_frozen BK005.out 4))
        (try simp only [Act.put, List.setIfInBounds_toArray, List.set_cons_zero, List.set_cons_succ])
        go_cut [81] (fun v81 wc => ∃ (kq : Nat) (x81_10 : Bool), v81 = .bool x81_10 ∧ Aside0 (tinderref08_Formed.j2 kq l0 x3_2 x81_10 ((rd_T44 l0 x3_2).f0) ((rd_T44 l0 x3_2).f1) ((rd_T44 l0 x3_2).f2) ((rd_T44 l0 x3_2).f3) ((rd_T44 l0 x3_2).f4) = some r) ∧ Aside0 (kq ≤ k2) ∧ Aside0 (wc.heap[gb005]? = some (.cells #[.string ((rd_T44 l0 x3_2).f0), (.slice A004_1 ((rd_T44 l0 x3_2).f1).length c004_1), .int .i64 ((rd_T44 l0 x3_2).f2), (.slice A004_3 ((rd_T44 l0 x3_2).f3).length c004_3), (.slice A004_4 ((rd_T44 l0 x3_2).f4).length c004_4)] 44 (0, 0))) ∧ Aside0 (Below w.heap.size w wc))
        case first =>
         have H := HC11.out
         clear HC11
         by_cases c14 : x3_2 > 0
         ·rw [if_pos c14] at H
          have c14b0 : decide (0 < x3_2) = true := decide_eq_true c14
          clear c14
          (first | rw [c14b0] | (simp only [i64_w, i32_w]; rw [c14b0]) | skip)
          replace H := Option.bind_eq_some_iff.mp H
          obtain ⟨t006, A150, H⟩ := H
          replace H : (if t006 = true then (if (((rd_T44 l0 x3_2).f1).length : Int) > 4 then (tinderref08_Formed.j2 k2 l0 x3_2 true ((rd_T44 l0 x3_2).f0) ((rd_T44 l0 x3_2).f1) ((rd_T44 l0 x3_2).f2) ((rd_T44 l0 x3_2).f3) ((rd_T44 l0 x3_2).f4)) else (if ((rd_T44 l0 x3_2).f2) < 0 then (tinderref08_Formed.j2 k2 l0 x3_2 true ((rd_T44 l0 x3_2).f0) ((rd_T44 l0 x3_2).f1) ((rd_T44 l0 x3_2).f2) ((rd_T44 l0 x3_2).f3) ((rd_T44 l0 x3_2).f4)) else (if ((rd_T44 l0 x3_2).f2) ≥ x3_2 then (tinderref08_Formed.j2 k2 l0 x3_2 true ((rd_T44 l0 x3_2).f0) ((rd_T44 l0 x3_2).f1) ((rd_T44 l0 x3_2).f2) ((rd_T44 l0 x3_2).f3) ((rd_T44 l0 x3_2).f4)) else ((tinderref08_twin.f k2 l0 x3_2 ((rd_T44 l0 x3_2).f2) ((rd_T44 l0 x3_2).f0) ((rd_T44 l0 x3_2).f1)).bind fun t007 => (tinderref08_Formed.j2 k2 l0 x3_2 t007 ((rd_T44 l0 x3_2).f0) ((rd_T44 l0 x3_2).f1) ((rd_T44 l0 x3_2).f2) ((rd_T44 l0 x3_2).f3) ((rd_T44 l0 x3_2).f4)))))) else (tinderref08_Formed.j2 k2 l0 x3_2 true ((rd_T44 l0 x3_2).f0) ((rd_T44 l0 x3_2).f1) ((rd_T44 l0 x3_2).f2) ((rd_T44 l0 x3_2).f3) ((rd_T44 l0 x3_2).f4))) = some r := H
          have A15 := Aside0.mk A150
          clear A150
          by_cases c16 : t006 = true
          ·subst c16
           have H1 : (if (((rd_T44 l0 x3_2).f1).length : Int) > 4 then (tinderref08_Formed.j2 k2 l0 x3_2 true ((rd_T44 l0 x3_2).f0) ((rd_T44 l0 x3_2).f1) ((rd_T44 l0 x3_2).f2) ((rd_T44 l0 x3_2).f3) ((rd_T44 l0 x3_2).f4)) else (if ((rd_T44 l0 x3_2).f2) < 0 then (tinderref08_Formed.j2 k2 l0 x3_2 true ((rd_T44 l0 x3_2).f0) ((rd_T44 l0 x3_2).f1) ((rd_T44 l0 x3_2).f2) ((rd_T44 l0 x3_2).f3) ((rd_T44 l0 x3_2).f4)) else (if ((rd_T44 l0 x3_2).f2) ≥ x3_2 then (tinderref08_Formed.j2 k2 l0 x3_2 true ((rd_T44 l0 x3_2).f0) ((rd_T44 l0 x3_2).f1) ((rd_T44 l0 x3_2).f2) ((rd_T44 l0 x3_2).f3) ((rd_T44 l0 x3_2).f4)) else ((tinderref08_twin.f k2 l0 x3_2 ((rd_T44 l0 x3_2).f2) ((rd_T44 l0 x3_2).f0) ((rd_T44 l0 x3_2).f1)).bind fun t007 => (tinderref08_Formed.j2 k2 l0 x3_2 t007 ((rd_T44 l0 x3_2).f0) ((rd_T44 l0 x3_2).f1) ((rd_T44 l0 x3_2).f2) ((rd_T44 l0 x3_2).f3) ((rd_T44 l0 x3_2).f4)))))) = some r := by rw [if_pos rfl] at H; exact H
           clear H
           have H := H1
           clear H1
           by_cases c17 : (((rd_T44 l0 x3_2).f1).length : Int) > 4
           ·rw [if_pos c17] at H
            have c17b0 : decide (4 < (((rd_T44 l0 x3_2).f1).length : Int)) = true := decide_eq_true c17
            have c17b1 : decide (4 < ((rd_T44 l0 x3_2).f1).length) = true := decide_eq_true (by omega)
            clear c17
            have H' := Aside0.mk H
            clear H
            have hcz18_0 : w12.cell? ⟨gb005, 0, none⟩ = some (.string (⟨#[]⟩ : ByteArray)) := (blk_cell BK005.out 0).trans rfl
            have hcz18_1 : w12.cell? ⟨gb005, 1, none⟩ = some (.slice none 0 0) := (blk_cell BK005.out 1).trans rfl
            have hcz18_2 : w12.cell? ⟨gb005, 2, none⟩ = some (.int .i64 0) := (blk_cell BK005.out 2).trans rfl
            have hcz18_3 : w12.cell? ⟨gb005, 3, none⟩ = some (.slice none 0 0) := (blk_cell BK005.out 3).trans rfl
            have hcz18_4 : w12.cell? ⟨gb005, 4, none⟩ = some (.slice none 0 0) := (blk_cell BK005.out 4).trans rfl
            have hfz18_0 := blk_frozen BK005.out 0
            have hfz18_1 := blk_frozen BK005.out 1
            have hfz18_2 := blk_frozen BK005.out 2
            have hfz18_3 := blk_frozen BK005.out 3
            have hfz18_4 := blk_frozen BK005.out 4
            go_wp2_with (first | (go_at_call 44; (with_reducible refine (tinderref05_Named.calls k2 ((rd_T44 l0 x3_2).f0) true _ A15.out).mono ?_); rintro e w' ⟨rfl, ⟨nd, rfl⟩⟩))
            go_meet
            case rel => exact ⟨_, (true), (by first | rfl | (simp; done) | (simp [*]; done)), H', ⟨by have := HJ1.out; have := HK2.out; first | omega | exact Nat.le_refl _⟩, ⟨by (with_reducible repeat (first | refine blk_drewN ?_ _ | refine blk_drew ?_ | refine blk_alloc ?_ _)); refine blk_put (cs := #[.string ((rd_T44 l0 x3_2).f0), .slice A004_1 ((rd_T44 l0 x3_2).f1).length c004_1, .int .i64 ((rd_T44 l0 x3_2).f2), .slice A004_3 ((rd_T44 l0 x3_2).f3).length c004_3, .slice none 0 0]) ?_ 4 _ rfl; (with_reducible repeat (first | refine blk_drewN ?_ _ | refine blk_drew ?_ | refine blk_alloc ?_ _)); refine blk_put (cs := #[.string ((rd_T44 l0 x3_2).f0), .slice A004_1 ((rd_T44 l0 x3_2).f1).length c004_1, .int .i64 ((rd_T44 l0 x3_2).f2), .slice none 0 0, .slice none 0 0]) ?_ 3 _ rfl; (with_reducible repeat (first | refine blk_drewN ?_ _ | refine blk_drew ?_ | refine blk_alloc ?_ _)); refine blk_put (cs := #[.string ((rd_T44 l0 x3_2).f0), .slice A004_1 ((rd_T44 l0 x3_2).f1).length c004_1, .int .i64 0, .slice none 0 0, .slice none 0 0]) ?_ 2 _ rfl; (with_reducible repeat (first | refine blk_drewN ?_ _ | refine blk_drew ?_ | refine blk_alloc ?_ _)); refine blk_put (cs := #[.string ((rd_T44 l0 x3_2).f0), .slice none 0 0, .int .i64 0, .slice none 0 0, .slice none 0 0]) ?_ 1 _ rfl; (with_reducible repeat (first | refine blk_drewN ?_ _ | refine blk_drew ?_ | refine blk_alloc ?_ _)); refine blk_put (cs := #[.string (⟨#[]⟩ : ByteArray), .slice none 0 0, .int .i64 0, .slice none 0 0, .slice none 0 0]) ?_ 0 _ rfl; (with_reducible repeat (first | refine blk_drewN ?_ _ | refine blk_drew ?_ | refine blk_alloc ?_ _)); exact BK005.out⟩, ⟨by repeat (first | (with_reducible first | exact HB.out | apply below_alloc | apply pw_below_drewN | apply below_drew1 | refine below_set ?_ GE005.out) | exact HB.out)⟩⟩
           ·rw [if_neg c17] at H
            have c17b0 : decide (4 < (((rd_T44 l0 x3_2).f1).length : Int)) = false := decide_eq_false c17
            have c17b1 : decide (4 < ((rd_T44 l0 x3_2).f1).length) = false := decide_eq_false (by omega)
            clear c17
            by_cases c19 : ((rd_T44 l0 x3_2).f2) < 0
            ·rw [if_pos c19] at H
             have c19b0 : decide (((rd_T44 l0 x3_2).f2) < 0) = true := decide_eq_true c19
             clear c19
             have H' := Aside0.mk H
             clear H
             have hcz20_0 : w12.cell? ⟨gb005, 0, none⟩ = some (.string (⟨#[]⟩ : ByteArray)) := (blk_cell BK005.out 0).trans rfl
             have hcz20_1 : w12.cell? ⟨gb005, 1, none⟩ = some (.slice none 0 0) := (blk_cell BK005.out 1).trans rfl
             have hcz20_2 : w12.cell? ⟨gb005, 2, none⟩ = some (.int .i64 0) := (blk_cell BK005.out 2).trans rfl
             have hcz20_3 : w12.cell? ⟨gb005, 3, none⟩ = some (.slice none 0 0) := (blk_cell BK005.out 3).trans rfl
             have hcz20_4 : w12.cell? ⟨gb005, 4, none⟩ = some (.slice none 0 0) := (blk_cell BK005.out 4).trans rfl
             have hfz20_0 := blk_frozen BK005.out 0
             have hfz20_1 := blk_frozen BK005.out 1
             have hfz20_2 := blk_frozen BK005.out 2
             have hfz20_3 := blk_frozen BK005.out 3
             have hfz20_4 := blk_frozen BK005.out 4
             go_wp2_with (first | (go_at_call 44; (with_reducible refine (tinderref05_Named.calls k2 ((rd_T44 l0 x3_2).f0) true _ A15.out).mono ?_); rintro e w' ⟨rfl, ⟨nd, rfl⟩⟩))
             go_meet
             case rel => exact ⟨_, (true), (by first | rfl | (simp; done) | (simp [*]; done)), H', ⟨by have := HJ1.out; have := HK2.out; first | omega | exact Nat.le_refl _⟩, ⟨by (with_reducible repeat (first | refine blk_drewN ?_ _ | refine blk_drew ?_ | refine blk_alloc ?_ _)); refine blk_put (cs := #[.string ((rd_T44 l0 x3_2).f0), .slice A004_1 ((rd_T44 l0 x3_2).f1).length c004_1, .int .i64 ((rd_T44 l0 x3_2).f2), .slice A004_3 ((rd_T44 l0 x3_2).f3).length c004_3, .slice none 0 0]) ?_ 4 _ rfl; (with_reducible repeat (first | refine blk_drewN ?_ _ | refine blk_drew ?_ | refine blk_alloc ?_ _)); refine blk_put (cs := #[.string ((rd_T44 l0 x3_2).f0), .slice A004_1 ((rd_T44 l0 x3_2).f1).length c004_1, .int .i64 ((rd_T44 l0 x3_2).f2), .slice none 0 0, .slice none 0 0]) ?_ 3 _ rfl; (with_reducible repeat (first | refine blk_drewN ?_ _ | refine blk_drew ?_ | refine blk_alloc ?_ _)); refine blk_put (cs := #[.string ((rd_T44 l0 x3_2).f0), .slice A004_1 ((rd_T44 l0 x3_2).f1).length c004_1, .int .i64 0, .slice none 0 0, .slice none 0 0]) ?_ 2 _ rfl; (with_reducible repeat (first | refine blk_drewN ?_ _ | refine blk_drew ?_ | refine blk_alloc ?_ _)); refine blk_put (cs := #[.string ((rd_T44 l0 x3_2).f0), .slice none 0 0, .int .i64 0, .slice none 0 0, .slice none 0 0]) ?_ 1 _ rfl; (with_reducible repeat (first | refine blk_drewN ?_ _ | refine blk_drew ?_ | refine blk_alloc ?_ _)); refine blk_put (cs := #[.string (⟨#[]⟩ : ByteArray), .slice none 0 0, .int .i64 0, .slice none 0 0, .slice none 0 0]) ?_ 0 _ rfl; (with_reducible repeat (first | refine blk_drewN ?_ _ | refine blk_drew ?_ | refine blk_alloc ?_ _)); exact BK005.out⟩, ⟨by repeat (first | (with_reducible first | exact HB.out | apply below_alloc | apply pw_below_drewN | apply below_drew1 | refine below_set ?_ GE005.out) | exact HB.out)⟩⟩
            ·rw [if_neg c19] at H
             have c19b0 : decide (((rd_T44 l0 x3_2).f2) < 0) = false := decide_eq_false c19
             clear c19
             by_cases c21 : ((rd_T44 l0 x3_2).f2) ≥ x3_2
             ·rw [if_pos c21] at H
              have c21b0 : decide (x3_2 ≤ ((rd_T44 l0 x3_2).f2)) = true := decide_eq_true c21
              clear c21
              have H' := Aside0.mk H
              clear H
              have hcz22_0 : w12.cell? ⟨gb005, 0, none⟩ = some (.string (⟨#[]⟩ : ByteArray)) := (blk_cell BK005.out 0).trans rfl
              have hcz22_1 : w12.cell? ⟨gb005, 1, none⟩ = some (.slice none 0 0) := (blk_cell BK005.out 1).trans rfl
              have hcz22_2 : w12.cell? ⟨gb005, 2, none⟩ = some (.int .i64 0) := (blk_cell BK005.out 2).trans rfl
              have hcz22_3 : w12.cell? ⟨gb005, 3, none⟩ = some (.slice none 0 0) := (blk_cell BK005.out 3).trans rfl
              have hcz22_4 : w12.cell? ⟨gb005, 4, none⟩ = some (.slice none 0 0) := (blk_cell BK005.out 4).trans rfl
              have hfz22_0 := blk_frozen BK005.out 0
              have hfz22_1 := blk_frozen BK005.out 1
              have hfz22_2 := blk_frozen BK005.out 2
              have hfz22_3 := blk_frozen BK005.out 3
              have hfz22_4 := blk_frozen BK005.out 4
              go_wp2_with (first | (go_at_call 44; (with_reducible refine (tinderref05_Named.calls k2 ((rd_T44 l0 x3_2).f0) true _ A15.out).mono ?_); rintro e w' ⟨rfl, ⟨nd, rfl⟩⟩))
              go_meet
              case rel => exact ⟨_, (true), (by first | rfl | (simp; done) | (simp [*]; done)), H', ⟨by have := HJ1.out; have := HK2.out; first | omega | exact Nat.le_refl _⟩, ⟨by (with_reducible repeat (first | refine blk_drewN ?_ _ | refine blk_drew ?_ | refine blk_alloc ?_ _)); refine blk_put (cs := #[.string ((rd_T44 l0 x3_2).f0), .slice A004_1 ((rd_T44 l0 x3_2).f1).length c004_1, .int .i64 ((rd_T44 l0 x3_2).f2), .slice A004_3 ((rd_T44 l0 x3_2).f3).length c004_3, .slice none 0 0]) ?_ 4 _ rfl; (with_reducible repeat (first | refine blk_drewN ?_ _ | refine blk_drew ?_ | refine blk_alloc ?_ _)); refine blk_put (cs := #[.string ((rd_T44 l0 x3_2).f0), .slice A004_1 ((rd_T44 l0 x3_2).f1).length c004_1, .int .i64 ((rd_T44 l0 x3_2).f2), .slice none 0 0, .slice none 0 0]) ?_ 3 _ rfl; (with_reducible repeat (first | refine blk_drewN ?_ _ | refine blk_drew ?_ | refine blk_alloc ?_ _)); refine blk_put (cs := #[.string ((rd_T44 l0 x3_2).f0), .slice A004_1 ((rd_T44 l0 x3_2).f1).length c004_1, .int .i64 0, .slice none 0 0, .slice none 0 0]) ?_ 2 _ rfl; (with_reducible repeat (first | refine blk_drewN ?_ _ | refine blk_drew ?_ | refine blk_alloc ?_ _)); refine blk_put (cs := #[.string ((rd_T44 l0 x3_2).f0), .slice none 0 0, .int .i64 0, .slice none 0 0, .slice none 0 0]) ?_ 1 _ rfl; (with_reducible repeat (first | refine blk_drewN ?_ _ | refine blk_drew ?_ | refine blk_alloc ?_ _)); refine blk_put (cs := #[.string (⟨#[]⟩ : ByteArray), .slice none 0 0, .int .i64 0, .slice none 0 0, .slice none 0 0]) ?_ 0 _ rfl; (with_reducible repeat (first | refine blk_drewN ?_ _ | refine blk_drew ?_ | refine blk_alloc ?_ _)); exact BK005.out⟩, ⟨by repeat (first | (with_reducible first | exact HB.out | apply below_alloc | apply pw_below_drewN | apply below_drew1 | refine below_set ?_ GE005.out) | exact HB.out)⟩⟩
             ·rw [if_neg c21] at H
              have c21b0 : decide (x3_2 ≤ ((rd_T44 l0 x3_2).f2)) = false := decide_eq_false c21
              clear c21
              replace H := Option.bind_eq_some_iff.mp H
              obtain ⟨t007, A230, H⟩ := H
              replace H : (tinderref08_Formed.j2 k2 l0 x3_2 t007 ((rd_T44 l0 x3_2).f0) ((rd_T44 l0 x3_2).f1) ((rd_T44 l0 x3_2).f2) ((rd_T44 l0 x3_2).f3) ((rd_T44 l0 x3_2).f4)) = some r := H
              have A23 := Aside0.mk A230
              clear A230
              have H' := Aside0.mk H
              clear H
              have hcz24_0 : w12.cell? ⟨gb005, 0, none⟩ = some (.string (⟨#[]⟩ : ByteArray)) := (blk_cell BK005.out 0).trans rfl
              have hcz24_1 : w12.cell? ⟨gb005, 1, none⟩ = some (.slice none 0 0) := (blk_cell BK005.out 1).trans rfl
              have hcz24_2 : w12.cell? ⟨gb005, 2, none⟩ = some (.int .i64 0) := (blk_cell BK005.out 2).trans rfl
              have hcz24_3 : w12.cell? ⟨gb005, 3, none⟩ = some (.slice none 0 0) := (blk_cell BK005.out 3).trans rfl
              have hcz24_4 : w12.cell? ⟨gb005, 4, none⟩ = some (.slice none 0 0) := (blk_cell BK005.out 4).trans rfl
              have hfz24_0 := blk_frozen BK005.out 0
              have hfz24_1 := blk_frozen BK005.out 1
              have hfz24_2 := blk_frozen BK005.out 2
              have hfz24_3 := blk_frozen BK005.out 3
              have hfz24_4 := blk_frozen BK005.out 4
              go_wp2_with (first | (go_at_call 44; (with_reducible refine (tinderref05_Named.calls k2 ((rd_T44 l0 x3_2).f0) true _ A15.out).mono ?_); rintro e w' ⟨rfl, ⟨nd, rfl⟩⟩) | (go_at_call 45; (with_reducible refine (tinderref08_twin.calls k2 _ _ l0 x3_2 ((rd_T44 l0 x3_2).f2) ((rd_T44 l0 x3_2).f0) _ _ ((rd_T44 l0 x3_2).f1) t007 _ ?side1 ?side2 ?side3 ?side4 A23.out).mono ?_); (case side1 => exact Kd.C_below HR0.out (by repeat (first | (with_reducible first | exact HB.out | apply below_alloc | apply pw_below_drewN | apply below_drew1 | refine below_set ?_ GE005.out) | exact HB.out))); (case side2 => exact HC0.out); (case side3 => exact Kd.C_below HR004_1.out (by repeat (first | (with_reducible first | exact HB.out | apply below_alloc | apply pw_below_drewN | apply below_drew1 | refine below_set ?_ GE005.out) | exact HB.out))); (case side4 => exact HC004_1.out); rintro e w' ⟨rfl, ⟨nd, rfl⟩⟩))
              go_meet
              case rel => exact ⟨_, (t007), (by first | rfl | (simp; done) | (simp [*]; done)), H', ⟨by have := HJ1.out; have := HK2.out; first | omega | exact Nat.le_refl _⟩, ⟨by (with_reducible repeat (first | refine blk_drewN ?_ _ | refine blk_drew ?_ | refine blk_alloc ?_ _)); refine blk_put (cs := #[.string ((rd_T44 l0 x3_2).f0), .slice A004_1 ((rd_T44 l0 x3_2).f1).length c004_1, .int .i64 ((rd_T44 l0 x3_2).f2), .slice A004_3 ((rd_T44 l0 x3_2).f3).length c004_3, .slice none 0 0]) ?_ 4 _ rfl; (with_reducible repeat (first | refine blk_drewN ?_ _ | refine blk_drew ?_ | refine blk_alloc ?_ _)); refine blk_put (cs := #[.string ((rd_T44 l0 x3_2).f0), .slice A004_1 ((rd_T44 l0 x3_2).f1).length c004_1, .int .i64 ((rd_T44 l0 x3_2).f2), .slice none 0 0, .slice none 0 0]) ?_ 3 _ rfl; (with_reducible repeat (first | refine blk_drewN ?_ _ | refine blk_drew ?_ | refine blk_alloc ?_ _)); refine blk_put (cs := #[.string ((rd_T44 l0 x3_2).f0), .slice A004_1 ((rd_T44 l0 x3_2).f1).length c004_1, .int .i64 0, .slice none 0 0, .slice none 0 0]) ?_ 2 _ rfl; (with_reducible repeat (first | refine blk_drewN ?_ _ | refine blk_drew ?_ | refine blk_alloc ?_ _)); refine blk_put (cs := #[.string ((rd_T44 l0 x3_2).f0), .slice none 0 0, .int .i64 0, .slice none 0 0, .slice none 0 0]) ?_ 1 _ rfl; (with_reducible repeat (first | refine blk_drewN ?_ _ | refine blk_drew ?_ | refine blk_alloc ?_ _)); refine blk_put (cs := #[.string (⟨#[]⟩ : ByteArray), .slice none 0 0, .int .i64 0, .slice none 0 0, .slice none 0 0]) ?_ 0 _ rfl; (with_reducible repeat (first | refine blk_drewN ?_ _ | refine blk_drew ?_ | refine blk_alloc ?_ _)); exact BK005.out⟩, ⟨by repeat (first | (with_reducible first | exact HB.out | apply below_alloc | apply pw_below_drewN | apply below_drew1 | refine below_set ?_ GE005.out) | exact HB.out)⟩⟩
          ·replace c16 := Bool.eq_false_iff.mpr c16
           subst c16
           have H1 : (tinderref08_Formed.j2 k2 l0 x3_2 true ((rd_T44 l0 x3_2).f0) ((rd_T44 l0 x3_2).f1) ((rd_T44 l0 x3_2).f2) ((rd_T44 l0 x3_2).f3) ((rd_T44 l0 x3_2).f4)) = some r := by rw [if_neg (show ¬ (false = true) by decide)] at H; exact H
           clear H
           have H := H1
           clear H1
           have H' := Aside0.mk H
           clear H
           have hcz25_0 : w12.cell? ⟨gb005, 0, none⟩ = some (.string (⟨#[]⟩ : ByteArray)) := (blk_cell BK005.out 0).trans rfl
           have hcz25_1 : w12.cell? ⟨gb005, 1, none⟩ = some (.slice none 0 0) := (blk_cell BK005.out 1).trans rfl
           have hcz25_2 : w12.cell? ⟨gb005, 2, none⟩ = some (.int .i64 0) := (blk_cell BK005.out 2).trans rfl
           have hcz25_3 : w12.cell? ⟨gb005, 3, none⟩ = some (.slice none 0 0) := (blk_cell BK005.out 3).trans rfl
           have hcz25_4 : w12.cell? ⟨gb005, 4, none⟩ = some (.slice none 0 0) := (blk_cell BK005.out 4).trans rfl
           have hfz25_0 := blk_frozen BK005.out 0
           have hfz25_1 := blk_frozen BK005.out 1
           have hfz25_2 := blk_frozen BK005.out 2
           have hfz25_3 := blk_frozen BK005.out 3
           have hfz25_4 := blk_frozen BK005.out 4
           go_wp2_with (first | (go_at_call 44; (with_reducible refine (tinderref05_Named.calls k2 ((rd_T44 l0 x3_2).f0) false _ A15.out).mono ?_); rintro e w' ⟨rfl, ⟨nd, rfl⟩⟩))
           go_meet
           case rel => exact ⟨_, (true), (by first | rfl | (simp; done) | (simp [*]; done)), H', ⟨by have := HJ1.out; have := HK2.out; first | omega | exact Nat.le_refl _⟩, ⟨by (with_reducible repeat (first | refine blk_drewN ?_ _ | refine blk_drew ?_ | refine blk_alloc ?_ _)); refine blk_put (cs := #[.string ((rd_T44 l0 x3_2).f0), .slice A004_1 ((rd_T44 l0 x3_2).f1).length c004_1, .int .i64 ((rd_T44 l0 x3_2).f2), .slice A004_3 ((rd_T44 l0 x3_2).f3).length c004_3, .slice none 0 0]) ?_ 4 _ rfl; (with_reducible repeat (first | refine blk_drewN ?_ _ | refine blk_drew ?_ | refine blk_alloc ?_ _)); refine blk_put (cs := #[.string ((rd_T44 l0 x3_2).f0), .slice A004_1 ((rd_T44 l0 x3_2).f1).length c004_1, .int .i64 ((rd_T44 l0 x3_2).f2), .slice none 0 0, .slice none 0 0]) ?_ 3 _ rfl; (with_reducible repeat (first | refine blk_drewN ?_ _ | refine blk_drew ?_ | refine blk_alloc ?_ _)); refine blk_put (cs := #[.string ((rd_T44 l0 x3_2).f0), .slice A004_1 ((rd_T44 l0 x3_2).f1).length c004_1, .int .i64 0, .slice none 0 0, .slice none 0 0]) ?_ 2 _ rfl; (with_reducible repeat (first | refine blk_drewN ?_ _ | refine blk_drew ?_ | refine blk_alloc ?_ _)); refine blk_put (cs := #[.string ((rd_T44 l0 x3_2).f0), .slice none 0 0, .int .i64 0, .slice none 0 0, .slice none 0 0]) ?_ 1 _ rfl; (with_reducible repeat (first | refine blk_drewN ?_ _ | refine blk_drew ?_ | refine blk_alloc ?_ _)); refine blk_put (cs := #[.string (⟨#[]⟩ : ByteArray), .slice none 0 0, .int .i64 0, .slice none 0 0, .slice none 0 0]) ?_ 0 _ rfl; (with_reducible repeat (first | refine blk_drewN ?_ _ | refine blk_drew ?_ | refine blk_alloc ?_ _)); exact BK005.out⟩, ⟨by repeat (first | (with_reducible first | exact HB.out | apply below_alloc | apply pw_below_drewN | apply below_drew1 | refine below_set ?_ GE005.out) | exact HB.out)⟩⟩
         ·rw [if_neg c14] at H
          have c14b0 : decide (0 < x3_2) = false := decide_eq_false c14
          clear c14
          (first | rw [c14b0] | (simp only [i64_w, i32_w]; rw [c14b0]) | skip)
          have H' := Aside0.mk H
          clear H
          go_wp2
          go_meet
          case rel => exact ⟨_, (false), (by first | rfl | (simp; done) | (simp [*]; done)), H', ⟨by have := HJ1.out; have := HK2.out; first | omega | exact Nat.le_refl _⟩, ⟨by (with_reducible repeat (first | refine blk_drewN ?_ _ | refine blk_drew ?_ | refine blk_alloc ?_ _)); refine blk_put (cs := #[.string ((rd_T44 l0 x3_2).f0), .slice A004_1 ((rd_T44 l0 x3_2).f1).length c004_1, .int .i64 ((rd_T44 l0 x3_2).f2), .slice A004_3 ((rd_T44 l0 x3_2).f3).length c004_3, .slice none 0 0]) ?_ 4 _ rfl; (with_reducible repeat (first | refine blk_drewN ?_ _ | refine blk_drew ?_ | refine blk_alloc ?_ _)); refine blk_put (cs := #[.string ((rd_T44 l0 x3_2).f0), .slice A004_1 ((rd_T44 l0 x3_2).f1).length c004_1, .int .i64 ((rd_T44 l0 x3_2).f2), .slice none 0 0, .slice none 0 0]) ?_ 3 _ rfl; (with_reducible repeat (first | refine blk_drewN ?_ _ | refine blk_drew ?_ | refine blk_alloc ?_ _)); refine blk_put (cs := #[.string ((rd_T44 l0 x3_2).f0), .slice A004_1 ((rd_T44 l0 x3_2).f1).length c004_1, .int .i64 0, .slice none 0 0, .slice none 0 0]) ?_ 2 _ rfl; (with_reducible repeat (first | refine blk_drewN ?_ _ | refine blk_drew ?_ | refine blk_alloc ?_ _)); refine blk_put (cs := #[.string ((rd_T44 l0 x3_2).f0), .slice none 0 0, .int .i64 0, .slice none 0 0, .slice none 0 0]) ?_ 1 _ rfl; (with_reducible repeat (first | refine blk_drewN ?_ _ | refine blk_drew ?_ | refine blk_alloc ?_ _)); refine blk_put (cs := #[.string (⟨#[]⟩ : ByteArray), .slice none 0 0, .int .i64 0, .slice none 0 0, .slice none 0 0]) ?_ 0 _ rfl; (with_reducible repeat (first | refine blk_drewN ?_ _ | refine blk_drew ?_ | refine blk_alloc ?_ _)); exact BK005.out⟩, ⟨by repeat (first | (with_reducible first | exact HB.out | apply below_alloc | apply pw_below_drewN | apply below_drew1 | refine below_set ?_ GE005.out) | exact HB.out)⟩⟩
        case rest =>
         clear HC11
         try clear c1
         try clear p1
         try clear q1
         try clear hx1
         try clear qi1
         try clear c2
         try clear p2
         try clear c3
         try clear c3b0
         try clear c3b1
         try clear c4
         try clear c4b0
         try clear c4b1
         try clear c5
         try clear c5b0
         try clear c5b1
         try clear c6
         try clear c6b0
         try clear c6b1
         try clear c7
         try clear c7b0
         try clear c7b1
         try clear c8
         try clear c9
         try clear c9b0
         try clear c10
         try clear c10b0
         try clear c14
         try clear c14b0
         try clear p14
         try clear q14
         try clear hx14
         try clear qi14
         try clear c16
         try clear c17
         try clear c17b0
         try clear c17b1
         try clear c19
         try clear c19b0
         try clear c21
         try clear c21b0
         try clear hcz13_0
         try clear hcz13_1
         try clear hcz13_2
         try clear hcz13_3
         try clear hcz13_4
         try clear hcz18_0
         try clear hcz18_1
         try clear hcz18_2
         try clear hcz18_3
         try clear hcz18_4
         try clear hcz20_0
         try clear hcz20_1
         try clear hcz20_2
         try clear hcz20_3
         try clear hcz20_4
         try clear hcz22_0
         try clear hcz22_1
         try clear hcz22_2
         try clear hcz22_3
         try clear hcz22_4
         try clear hcz24_0
         try clear hcz24_1
         try clear hcz24_2
         try clear hcz24_3
         try clear hcz24_4
         try clear hcz25_0
         try clear hcz25_1
         try clear hcz25_2
         try clear hcz25_3
         try clear hcz25_4
         try clear hfz13_0
         try clear hfz13_1
         try clear hfz13_2
         try clear hfz13_3
         try clear hfz13_4
         try clear hfz18_0
         try clear hfz18_1
         try clear hfz18_2
         try clear hfz18_3
         try clear hfz18_4
         try clear hfz20_0
         try clear hfz20_1
         try clear hfz20_2
         try clear hfz20_3
         try clear hfz20_4
         try clear hfz22_0
         try clear hfz22_1
         try clear hfz22_2
         try clear hfz22_3
         try clear hfz22_4
         try clear hfz24_0
         try clear hfz24_1
         try clear hfz24_2
         try clear hfz24_3
         try clear hfz24_4
         try clear hfz25_0
         try clear hfz25_1
         try clear hfz25_2
         try clear hfz25_3
         try clear hfz25_4
         try clear hx001_0
         try clear hx001_1
         try clear hx001_2
         try clear hx001_3
         try clear hx001_4
         try clear hx002_0
         try clear hx002_1
         try clear hx002_2
         try clear hx002_3
         try clear hx002_4
         try clear hx003_0
         try clear hx003_1
         try clear hx003_2
         try clear hx003_3
         try clear hx003_4
         try clear hx004_0
         try clear hx004_1
         try clear hx004_2
         try clear hx004_3
         try clear hx004_4
         try clear p1
         try clear p001
         try clear p002
         try clear p003
         try clear p004
         try clear p2
         try clear q1
         try clear q001
         try clear q002
         try clear q003
         try clear q004
         obtain ⟨kq, x81_10, rfl, HA, HJ10, BK005, HB⟩ := hcut
         cases kq with
         | zero => exact absurd HA.out (by simp [tinderref08_Formed.j2])
         | succ kj10 =>
          have H := HA.out
          clear HA
          simp only [tinderref08_Formed.j2] at H
          by_cases c26 : x81_10 = true
          ·subst c26
           have H1 : (some false) = some r := by rw [if_pos rfl] at H; exact H
           clear H
           have H := H1
           clear H1
           obtain rfl := Option.some.inj H
           go_wp2
           go_ret
           exact ⟨by first | rfl | (simp [errW_none, errW_some] <;> rfl) | (simp [*, errW_none, errW_some] <;> rfl), by repeat (first | (with_reducible first | exact HB.out | apply below_alloc | apply pw_below_drewN | apply below_drew1 | refine below_set ?_ GE005.out) | exact HB.out)⟩
          ·replace c26 := Bool.eq_false_iff.mpr c26
           subst c26
           have H1 : (if (((rd_T44 l0 x3_2).f3).length : Int) > 16 then (tinderref08_Formed.j3 kj10 l0 x3_2 true ((rd_T44 l0 x3_2).f0) ((rd_T44 l0 x3_2).f1) ((rd_T44 l0 x3_2).f2) ((rd_T44 l0 x3_2).f3) ((rd_T44 l0 x3_2).f4)) else (tinderref08_Formed.j3 kj10 l0 x3_2 (decide ((((rd_T44 l0 x3_2).f4).length : Int) > 16)) ((rd_T44 l0 x3_2).f0) ((rd_T44 l0 x3_2).f1) ((rd_T44 l0 x3_2).f2) ((rd_T44 l0 x3_2).f3) ((rd_T44 l0 x3_2).f4))) = some r := by rw [if_neg (show ¬ (false = true) by decide)] at H; exact H
           clear H
           have H := H1
           clear H1
           have HC27 := Aside0.mk H
           clear H
           go_upto_region 9 with (fail)
           go_cut [91] (fun v91 wc => ∃ (kq : Nat) (x91_26 : Bool), v91 = .bool x91_26 ∧ Aside0 (tinderref08_Formed.j3 kq l0 x3_2 x91_26 ((rd_T44 l0 x3_2).f0) ((rd_T44 l0 x3_2).f1) ((rd_T44 l0 x3_2).f2) ((rd_T44 l0 x3_2).f3) ((rd_T44 l0 x3_2).f4) = some r) ∧ Aside0 (kq ≤ kj10) ∧ Aside0 (wc.heap[gb005]? = some (.cells #[.string ((rd_T44 l0 x3_2).f0), (.slice A004_1 ((rd_T44 l0 x3_2).f1).length c004_1), .int .i64 ((rd_T44 l0 x3_2).f2), (.slice A004_3 ((rd_T44 l0 x3_2).f3).length c004_3), (.slice A004_4 ((rd_T44 l0 x3_2).f4).length c004_4)] 44 (0, 0))) ∧ Aside0 (Below w.heap.size w wc))
           case first =>
            have H := HC27.out
            clear HC27
            by_cases c28 : (((rd_T44 l0 x3_2).f3).length : Int) > 16
            ·rw [if_pos c28] at H
             have c28b0 : decide (16 < (((rd_T44 l0 x3_2).f3).length : Int)) = true := decide_eq_true c28
             have c28b1 : decide (16 < ((rd_T44 l0 x3_2).f3).length) = true := decide_eq_true (by omega)
             clear c28
             (first | rw [c28b0] | (simp only [i64_w, i32_w]; rw [c28b0]) | skip)
             have H' := Aside0.mk H
             clear H
             have hcz29_0 : wc.cell? ⟨gb005, 0, none⟩ = some (.string ((rd_T44 l0 x3_2).f0)) := (blk_cell BK005.out 0).trans rfl
             have hcz29_1 : wc.cell? ⟨gb005, 1, none⟩ = some (.slice A004_1 ((rd_T44 l0 x3_2).f1).length c004_1) := (blk_cell BK005.out 1).trans rfl
             have hcz29_2 : wc.cell? ⟨gb005, 2, none⟩ = some (.int .i64 ((rd_T44 l0 x3_2).f2)) := (blk_cell BK005.out 2).trans rfl
             have hcz29_3 : wc.cell? ⟨gb005, 3, none⟩ = some (.slice A004_3 ((rd_T44 l0 x3_2).f3).length c004_3) := (blk_cell BK005.out 3).trans rfl
             have hcz29_4 : wc.cell? ⟨gb005, 4, none⟩ = some (.slice A004_4 ((rd_T44 l0 x3_2).f4).length c004_4) := (blk_cell BK005.out 4).trans rfl
             have hfz29_0 := blk_frozen BK005.out 0
             have hfz29_1 := blk_frozen BK005.out 1
             have hfz29_2 := blk_frozen BK005.out 2
             have hfz29_3 := blk_frozen BK005.out 3
             have hfz29_4 := blk_frozen BK005.out 4
             go_wp2
             go_meet
             case rel => exact ⟨_, (true), (by first | rfl | (simp; done) | (simp [*]; done)), H', ⟨by have := HJ1.out; have := HK2.out; have := HJ10.out; first | omega | exact Nat.le_refl _⟩, ⟨by (with_reducible repeat (first | refine blk_drewN ?_ _ | refine blk_drew ?_ | refine blk_alloc ?_ _)); exact BK005.out⟩, ⟨by repeat (first | (with_reducible first | exact HB.out | apply below_alloc | apply pw_below_drewN | apply below_drew1 | refine below_set ?_ GE005.out) | exact HB.out)⟩⟩
            ·rw [if_neg c28] at H
             have c28b0 : decide (16 < (((rd_T44 l0 x3_2).f3).length : Int)) = false := decide_eq_false c28
             have c28b1 : decide (16 < ((rd_T44 l0 x3_2).f3).length) = false := decide_eq_false (by omega)
             clear c28
             (first | rw [c28b0] | (simp only [i64_w, i32_w]; rw [c28b0]) | skip)
             have H' := Aside0.mk H
             clear H
             have hcz30_0 : wc.cell? ⟨gb005, 0, none⟩ = some (.string ((rd_T44 l0 x3_2).f0)) := (blk_cell BK005.out 0).trans rfl
             have hcz30_1 : wc.cell? ⟨gb005, 1, none⟩ = some (.slice A004_1 ((rd_T44 l0 x3_2).f1).length c004_1) := (blk_cell BK005.out 1).trans rfl
             have hcz30_2 : wc.cell? ⟨gb005, 2, none⟩ = some (.int .i64 ((rd_T44 l0 x3_2).f2)) := (blk_cell BK005.out 2).trans rfl
             have hcz30_3 : wc.cell? ⟨gb005, 3, none⟩ = some (.slice A004_3 ((rd_T44 l0 x3_2).f3).length c004_3) := (blk_cell BK005.out 3).trans rfl
             have hcz30_4 : wc.cell? ⟨gb005, 4, none⟩ = some (.slice A004_4 ((rd_T44 l0 x3_2).f4).length c004_4) := (blk_cell BK005.out 4).trans rfl
             have hfz30_0 := blk_frozen BK005.out 0
             have hfz30_1 := blk_frozen BK005.out 1
             have hfz30_2 := blk_frozen BK005.out 2
             have hfz30_3 := blk_frozen BK005.out 3
             have hfz30_4 := blk_frozen BK005.out 4
             go_wp2
             go_meet
             case rel => exact ⟨_, (decide ((((rd_T44 l0 x3_2).f4).length : Int) > 16)), (by first | rfl | (simp; done) | (simp [*]; done)), H', ⟨by have := HJ1.out; have := HK2.out; have := HJ10.out; first | omega | exact Nat.le_refl _⟩, ⟨by (with_reducible repeat (first | refine blk_drewN ?_ _ | refine blk_drew ?_ | refine blk_alloc ?_ _)); exact BK005.out⟩, ⟨by repeat (first | (with_reducible first | exact HB.out | apply below_alloc | apply pw_below_drewN | apply below_drew1 | refine below_set ?_ GE005.out) | exact HB.out)⟩⟩
           case rest =>
            clear HC27
            try clear c1
            try clear p1
            try clear q1
            try clear hx1
            try clear qi1
            try clear c2
            try clear p2
            try clear c3
            try clear c3b0
            try clear c3b1
            try clear c4
            try clear c4b0
            try clear c4b1
            try clear c5
            try clear c5b0
            try clear c5b1
            try clear c6
            try clear c6b0
            try clear c6b1
            try clear c7
            try clear c7b0
            try clear c7b1
            try clear c8
            try clear c9
            try clear c9b0
            try clear c10
            try clear c10b0
            try clear c14
            try clear c14b0
            try clear p14
            try clear q14
            try clear hx14
            try clear qi14
            try clear c16
            try clear c17
            try clear c17b0
            try clear c17b1
            try clear c19
            try clear c19b0
            try clear c21
            try clear c21b0
            try clear c26
            try clear c28
            try clear c28b0
            try clear c28b1
            try clear hcz13_0
            try clear hcz13_1
            try clear hcz13_2
            try clear hcz13_3
            try clear hcz13_4
            try clear hcz18_0
            try clear hcz18_1
            try clear hcz18_2
            try clear hcz18_3
            try clear hcz18_4
            try clear hcz20_0
            try clear hcz20_1
            try clear hcz20_2
            try clear hcz20_3
            try clear hcz20_4
            try clear hcz22_0
            try clear hcz22_1
            try clear hcz22_2
            try clear hcz22_3
            try clear hcz22_4
            try clear hcz24_0
            try clear hcz24_1
            try clear hcz24_2
            try clear hcz24_3
            try clear hcz24_4
            try clear hcz25_0
            try clear hcz25_1
            try clear hcz25_2
            try clear hcz25_3
            try clear hcz25_4
            try clear hcz29_0
            try clear hcz29_1
            try clear hcz29_2
            try clear hcz29_3
            try clear hcz29_4
            try clear hcz30_0
            try clear hcz30_1
            try clear hcz30_2
            try clear hcz30_3
            try clear hcz30_4
            try clear hfz13_0
            try clear hfz13_1
            try clear hfz13_2
            try clear hfz13_3
            try clear hfz13_4
            try clear hfz18_0
            try clear hfz18_1
            try clear hfz18_2
            try clear hfz18_3
            try clear hfz18_4
            try clear hfz20_0
            try clear hfz20_1
            try clear hfz20_2
            try clear hfz20_3
            try clear hfz20_4
            try clear hfz22_0
            try clear hfz22_1
            try clear hfz22_2
            try clear hfz22_3
            try clear hfz22_4
            try clear hfz24_0
            try clear hfz24_1
            try clear hfz24_2
            try clear hfz24_3
            try clear hfz24_4
            try clear hfz25_0
            try clear hfz25_1
            try clear hfz25_2
            try clear hfz25_3
            try clear hfz25_4
            try clear hfz29_0
            try clear hfz29_1
            try clear hfz29_2
            try clear hfz29_3
            try clear hfz29_4
            try clear hfz30_0
            try clear hfz30_1
            try clear hfz30_2
            try clear hfz30_3
            try clear hfz30_4
            try clear hx001_0
            try clear hx001_1
            try clear hx001_2
            try clear hx001_3
            try clear hx001_4
            try clear hx002_0
            try clear hx002_1
            try clear hx002_2
            try clear hx002_3
            try clear hx002_4
            try clear hx003_0
            try clear hx003_1
            try clear hx003_2
            try clear hx003_3
            try clear hx003_4
            try clear hx004_0
            try clear hx004_1
            try clear hx004_2
            try clear hx004_3
            try clear hx004_4
            try clear p1
            try clear p14
            try clear p001
            try clear p002
            try clear p003
            try clear p004
            try clear p2
            try clear q1
            try clear q14
            try clear q001
            try clear q002
            try clear q003
            try clear q004
            obtain ⟨kq, x91_26, rfl, HA, HJ26, BK005, HB⟩ := hcut
            cases kq with
            | zero => exact absurd HA.out (by simp [tinderref08_Formed.j3])
            | succ kj26 =>
             have H := HA.out
             clear HA
             simp only [tinderref08_Formed.j3] at H
             by_cases c31 : x91_26 = true
             ·subst c31
              have H1 : (some false) = some r := by rw [if_pos rfl] at H; exact H
              clear H
              have H := H1
              clear H1
              obtain rfl := Option.some.inj H
              go_wp2
              go_ret
              exact ⟨by first | rfl | (simp [errW_none, errW_some] <;> rfl) | (simp [*, errW_none, errW_some] <;> rfl), by repeat (first | (with_reducible first | exact HB.out | apply below_alloc | apply pw_below_drewN | apply below_drew1 | refine below_set ?_ GE005.out) | exact HB.out)⟩
             ·replace c31 := Bool.eq_false_iff.mpr c31
              subst c31
              have H1 : (tinderref08_Formed.l1 kj26 l0 x3_2 0 ((rd_T44 l0 x3_2).f0) ((rd_T44 l0 x3_2).f1) ((rd_T44 l0 x3_2).f2) ((rd_T44 l0 x3_2).f3) ((rd_T44 l0 x3_2).f4)) = some r := by rw [if_neg (show ¬ (false = true) by decide)] at H; exact H
              clear H
              have H := H1
              clear H1
              have H' := Aside0.mk H
              clear H
              go_wp2
              go_loopg [5] kj26 (fun kq v5 w' => ∃ (x5_5 : Int), v5 = .int .i64 x5_5 ∧ Aside0 (tinderref08_Formed.l1 kq l0 x3_2 x5_5 ((rd_T44 l0 x3_2).f0) ((rd_T44 l0 x3_2).f1) ((rd_T44 l0 x3_2).f2) ((rd_T44 l0 x3_2).f3) ((rd_T44 l0 x3_2).f4) = some r) ∧ Aside0 (kq ≤ kj26) ∧ Aside0 (w'.heap[gb005]? = some (.cells #[.string ((rd_T44 l0 x3_2).f0), (.slice A004_1 ((rd_T44 l0 x3_2).f1).length c004_1), .int .i64 ((rd_T44 l0 x3_2).f2), (.slice A004_3 ((rd_T44 l0 x3_2).f3).length c004_3), (.slice A004_4 ((rd_T44 l0 x3_2).f4).length c004_4)] 44 (0, 0))) ∧ Aside0 (Below w.heap.size w w'))
              case atStart => exact ⟨(0), (by first | rfl | (simp; done) | (simp [*]; done)), H', ⟨Nat.le_refl _⟩, ⟨by (with_reducible repeat (first | refine blk_drewN ?_ _ | refine blk_drew ?_ | refine blk_alloc ?_ _)); exact BK005.out⟩, ⟨by repeat (first | (with_reducible first | exact HB.out | apply below_alloc | apply pw_below_drewN | apply below_drew1 | refine below_set ?_ GE005.out) | exact HB.out)⟩⟩
              case round =>
               clear H'
               try clear c1
               try clear p1
               try clear q1
               try clear hx1
               try clear qi1
               try clear c2
               try clear p2
               try clear c3
               try clear c3b0
               try clear c3b1
               try clear c4
               try clear c4b0
               try clear c4b1
               try clear c5
               try clear c5b0
               try clear c5b1
               try clear c6
               try clear c6b0
               try clear c6b1
               try clear c7
               try clear c7b0
               try clear c7b1
               try clear c8
               try clear c9
               try clear c9b0
               try clear c10
               try clear c10b0
               try clear c14
               try clear c14b0
               try clear p14
               try clear q14
               try clear hx14
               try clear qi14
               try clear c16
               try clear c17
               try clear c17b0
               try clear c17b1
               try clear c19
               try clear c19b0
               try clear c21
               try clear c21b0
               try clear c26
               try clear c28
               try clear c28b0
               try clear c28b1
               try clear c31
               try clear hcz13_0
               try clear hcz13_1
               try clear hcz13_2
               try clear hcz13_3
               try clear hcz13_4
               try clear hcz18_0
               try clear hcz18_1
               try clear hcz18_2
               try clear hcz18_3
               try clear hcz18_4
               try clear hcz20_0
               try clear hcz20_1
               try clear hcz20_2
               try clear hcz20_3
               try clear hcz20_4
               try clear hcz22_0
               try clear hcz22_1
               try clear hcz22_2
               try clear hcz22_3
               try clear hcz22_4
               try clear hcz24_0
               try clear hcz24_1
               try clear hcz24_2
               try clear hcz24_3
               try clear hcz24_4
               try clear hcz25_0
               try clear hcz25_1
               try clear hcz25_2
               try clear hcz25_3
               try clear hcz25_4
               try clear hcz29_0
               try clear hcz29_1
               try clear hcz29_2
               try clear hcz29_3
               try clear hcz29_4
               try clear hcz30_0
               try clear hcz30_1
               try clear hcz30_2
               try clear hcz30_3
               try clear hcz30_4
               try clear hfz13_0
               try clear hfz13_1
               try clear hfz13_2
               try clear hfz13_3
               try clear hfz13_4
               try clear hfz18_0
               try clear hfz18_1
               try clear hfz18_2
               try clear hfz18_3
               try clear hfz18_4
               try clear hfz20_0
               try clear hfz20_1
               try clear hfz20_2
               try clear hfz20_3
               try clear hfz20_4
               try clear hfz22_0
               try clear hfz22_1
               try clear hfz22_2
               try clear hfz22_3
               try clear hfz22_4
               try clear hfz24_0
               try clear hfz24_1
               try clear hfz24_2
               try clear hfz24_3
               try clear hfz24_4
               try clear hfz25_0
               try clear hfz25_1
               try clear hfz25_2
               try clear hfz25_3
               try clear hfz25_4
               try clear hfz29_0
               try clear hfz29_1
               try clear hfz29_2
               try clear hfz29_3
               try clear hfz29_4
               try clear hfz30_0
               try clear hfz30_1
               try clear hfz30_2
               try clear hfz30_3
               try clear hfz30_4
               try clear hx001_0
               try clear hx001_1
               try clear hx001_2
               try clear hx001_3
               try clear hx001_4
               try clear hx002_0
               try clear hx002_1
               try clear hx002_2
               try clear hx002_3
               try clear hx002_4
               try clear hx003_0
               try clear hx003_1
               try clear hx003_2
               try clear hx003_3
               try clear hx003_4
               try clear hx004_0
               try clear hx004_1
               try clear hx004_2
               try clear hx004_3
               try clear hx004_4
               try clear p1
               try clear p14
               try clear p001
               try clear p002
               try clear p003
               try clear p004
               try clear p2
               try clear q1
               try clear q14
               try clear q001
               try clear q002
               try clear q003
               try clear q004
               obtain ⟨x5_5, rfl, HA, HK5, BK005, HB⟩ := hrel
               cases gk with
               | zero => exact absurd HA.out (by simp [tinderref08_Formed.l1])
               | succ k5 =>
                have H := HA.out
                clear HA
                simp only [tinderref08_Formed.l1] at H
                by_cases c32 : x5_5 < (((rd_T44 l0 x3_2).f3).length : Int)
                ·rw [if_pos c32] at H
                 have c32b0 : decide (x5_5 < (((rd_T44 l0 x3_2).f3).length : Int)) = true := decide_eq_true c32
                 clear c32
                 by_cases c33 : 0 ≤ x5_5
                 ·rw [if_pos c33] at H
                  have c33b0 : decide (0 ≤ x5_5) = true := decide_eq_true c33
                  clear c33
                  replace H := Option.bind_eq_some_iff.mp H
                  obtain ⟨t009, A340, H⟩ := H
                  replace H : (if t009 = true then (if (((rd_T53 ((rd_T44 l0 x3_2).f3) x5_5).f1).length : Int) > 256 then (some false) else (if x5_5 ≤ (((rd_T44 l0 x3_2).f3).length : Int) then ((tinderref08_find.f k5 (((rd_T44 l0 x3_2).f3).take (x5_5 : Int).toNat) ((rd_T53 ((rd_T44 l0 x3_2).f3) x5_5).f0)).bind fun t016 => (if t016 ≥ 0 then (some false) else (tinderref08_Formed.l1 k5 l0 x3_2 (wrap64 (x5_5 + 1)) ((rd_T44 l0 x3_2).f0) ((rd_T44 l0 x3_2).f1) ((rd_T44 l0 x3_2).f2) ((rd_T44 l0 x3_2).f3) ((rd_T44 l0 x3_2).f4)))) else (none))) else (some false)) = some r := H
                  have A34 := Aside0.mk A340
                  clear A340
                  by_cases c35 : t009 = true
                  ·subst c35
                   have H1 : (if (((rd_T53 ((rd_T44 l0 x3_2).f3) x5_5).f1).length : Int) > 256 then (some false) else (if x5_5 ≤ (((rd_T44 l0 x3_2).f3).length : Int) then ((tinderref08_find.f k5 (((rd_T44 l0 x3_2).f3).take (x5_5 : Int).toNat) ((rd_T53 ((rd_T44 l0 x3_2).f3) x5_5).f0)).bind fun t016 => (if t016 ≥ 0 then (some false) else (tinderref08_Formed.l1 k5 l0 x3_2 (wrap64 (x5_5 + 1)) ((rd_T44 l0 x3_2).f0) ((rd_T44 l0 x3_2).f1) ((rd_T44 l0 x3_2).f2) ((rd_T44 l0 x3_2).f3) ((rd_T44 l0 x3_2).f4)))) else (none))) = some r := by rw [if_pos rfl] at H; exact H
                   clear H
                   have H := H1
                   clear H1
                   by_cases c36 : (((rd_T53 ((rd_T44 l0 x3_2).f3) x5_5).f1).length : Int) > 256
                   ·rw [if_pos c36] at H
                    have c36b0 : decide (256 < (((rd_T53 ((rd_T44 l0 x3_2).f3) x5_5).f1).length : Int)) = true := decide_eq_true c36
                    have c36b1 : decide (256 < ((rd_T53 ((rd_T44 l0 x3_2).f3) x5_5).f1).length) = true := decide_eq_true (by omega)
                    clear c36
                    obtain rfl := Option.some.inj H
                    have hcz37_0 : wr.cell? ⟨gb005, 0, none⟩ = some (.string ((rd_T44 l0 x3_2).f0)) := (blk_cell BK005.out 0).trans rfl
                    have hcz37_1 : wr.cell? ⟨gb005, 1, none⟩ = some (.slice A004_1 ((rd_T44 l0 x3_2).f1).length c004_1) := (blk_cell BK005.out 1).trans rfl
                    have hcz37_2 : wr.cell? ⟨gb005, 2, none⟩ = some (.int .i64 ((rd_T44 l0 x3_2).f2)) := (blk_cell BK005.out 2).trans rfl
                    have hcz37_3 : wr.cell? ⟨gb005, 3, none⟩ = some (.slice A004_3 ((rd_T44 l0 x3_2).f3).length c004_3) := (blk_cell BK005.out 3).trans rfl
                    have hcz37_4 : wr.cell? ⟨gb005, 4, none⟩ = some (.slice A004_4 ((rd_T44 l0 x3_2).f4).length c004_4) := (blk_cell BK005.out 4).trans rfl
                    have hfz37_0 := blk_frozen BK005.out 0
                    have hfz37_1 := blk_frozen BK005.out 1
                    have hfz37_2 := blk_frozen BK005.out 2
                    have hfz37_3 := blk_frozen BK005.out 3
                    have hfz37_4 := blk_frozen BK005.out 4
                    try go_wp2
                    have n0_ := Aside0.mk (blk_drew BK005.out)
                    have n1_ := Aside0.mk (below_drew1 HB.out)
                    clear BK005
                    clear HB
                    have BK005 := n0_
                    have HB := n1_
                    clear n0_ n1_
                    have p008 : 0 ≤ (x5_5 : Int) := of_decide_eq_true (by first | (with_reducible assumption) | assumption)
                    have q008 : x5_5 < (((rd_T44 l0 x3_2).f3).length : Int) := of_decide_eq_true (by first | (with_reducible assumption) | assumption)
                    obtain ⟨ad008, A008_1, c008_1, e008, hx008_0, hx008_1, hl008_1, hi008_1⟩ := at_T53 HR004_3.out x5_5 p008 q008
                    have hw008_1 := hx008_1
                    have hw008_0 := hx008_0
                    cases e008
                    replace hx008_0 := (HB.out.cell (World.block_lt_of_cell? w _ hx008_0)).trans hx008_0
                    replace hx008_1 := (HB.out.cell (World.block_lt_of_cell? w _ hx008_1)).trans hx008_1
                    have HR008_1 := Aside0.mk hi008_1
                    have HC008_1 := Aside0.mk hl008_1
                    clear hi008_1 hl008_1
                    replace p008 := eq_true p008
                    replace q008 := eq_true q008
                    have p010 : 0 ≤ (x5_5 : Int) := of_decide_eq_true (by first | (with_reducible assumption) | assumption)
                    have q010 : x5_5 < (((rd_T44 l0 x3_2).f3).length : Int) := of_decide_eq_true (by first | (with_reducible assumption) | assumption)
                    obtain ⟨ad010, A010_1, c010_1, e010, hx010_0, hx010_1, hl010_1, hi010_1⟩ := at_T53 HR004_3.out x5_5 p010 q010
                    have hw010_1 := hx010_1
                    have hw010_0 := hx010_0
                    obtain rfl : ad008 = ad010 := (by injection e010)
                    replace hx010_0 := (HB.out.cell (World.block_lt_of_cell? w _ hx010_0)).trans hx010_0
                    replace hx010_1 := (HB.out.cell (World.block_lt_of_cell? w _ hx010_1)).trans hx010_1
                    have HR010_1 := Aside0.mk hi010_1
                    have HC010_1 := Aside0.mk hl010_1
                    clear hi010_1 hl010_1
                    replace p010 := eq_true p010
                    replace q010 := eq_true q010
                    have ea_ := Option.some.inj (hx008_1.symm.trans hx010_1)
                    injection ea_ with ea_ en_ ec_
                    subst ea_
                    subst ec_
                    clear en_
                    refine start_ (n := 32) (S := fun w' => w'.cell? ⟨gb005, 0, none⟩ = some (.string ((rd_T44 l0 x3_2).f0)) ∧ w'.cell? ⟨gb005, 1, none⟩ = some (.slice A004_1 ((rd_T44 l0 x3_2).f1).length c004_1) ∧ w'.cell? ⟨gb005, 2, none⟩ = some (.int .i64 ((rd_T44 l0 x3_2).f2)) ∧ w'.cell? ⟨gb005, 3, none⟩ = some (.slice (some ad008) ((rd_T44 l0 x3_2).f3).length c004_3) ∧ w'.cell? ⟨gb005, 4, none⟩ = some (.slice A004_4 ((rd_T44 l0 x3_2).f4).length c004_4) ∧ w'.cell? (ad008.add ((x5_5).toNat * 2)) = some (.string ((rd_T53 ((rd_T44 l0 x3_2).f3) x5_5).f0)) ∧ w'.cell? ⟨(ad008.add ((x5_5).toNat * 2)).block, (ad008.add ((x5_5).toNat * 2)).off + 1, none⟩ = some (.slice A008_1 ((rd_T53 ((rd_T44 l0 x3_2).f3) x5_5).f1).length c008_1) ∧ w'.cell? (ad008.add ((x5_5).toNat * 2)) = some (.string ((rd_T53 ((rd_T44 l0 x3_2).f3) x5_5).f0)) ∧ w'.cell? ⟨(ad008.add ((x5_5).toNat * 2)).block, (ad008.add ((x5_5).toNat * 2)).off + 1, none⟩ = some (.slice A008_1 ((rd_T53 ((rd_T44 l0 x3_2).f3) x5_5).f1).length c008_1)) (ds := []) #[false, false, false, false, false, false, false, false, false, false, false, false, false, false, false, false, false, false, false, false, false, false, false, false, false, false, false, false, false, false, false, false] (by kernel_rfl) rfl rfl ⟨(blk_cell BK005.out 0).trans rfl, (blk_cell BK005.out 1).trans rfl, (blk_cell BK005.out 2).trans rfl, (blk_cell BK005.out 3).trans rfl, (blk_cell BK005.out 4).trans rfl, ((HB.out.cell (World.block_lt_of_cell? w _ hw008_0)).trans hw008_0), ((HB.out.cell (World.block_lt_of_cell? w _ hw008_1)).trans hw008_1), ((HB.out.cell (World.block_lt_of_cell? w _ hw010_0)).trans hw010_0), ((HB.out.cell (World.block_lt_of_cell? w _ hw010_1)).trans hw010_1)⟩ (fun hHeld => ?_); refine with_tabW tinderref08_Formed.tab14 tinderref08_Formed.bits14 (fun HT_ HW_ => ?_)
                    generalize wr.drew = w38 at BK005 HB HR008_1 HR010_1 hx008_0 hx008_1 hx010_0 hx010_1 hHeld ⊢
                    refine pure_ (i := 0) (N := some 99) (v := ?_) (a' := ?_) #[true, false, false, false, false, false, false, false, false, false, false, false, false, false, false, false, false, false, false, false, false, false, false, false, false, false, false, false, false, false, false, false] rfl rfl (any_of HT_.out (by kernel_rfl)) (fun _ _ _ h => h) (Or.inl ⟨by rfl, ?_⟩) ?_ ?_
                    rotate_left
                    ·intro w'
                     go_simp
                     with_reducible rfl
                    rotate_left
                    ·simp only [Act.put, List.setIfInBounds_toArray, List.set_cons_zero, List.set_cons_succ, i64_w, i32_w]
                     rfl
                    refine pure_ (i := 2) (N := some 101) (v := ?_) (a' := ?_) #[true, false, true, false, false, false, false, false, false, false, false, false, false, false, false, false, false, false, false, false, false, false, false, false, false, false, false, false, false, false, false, false] rfl rfl (any_of HT_.out (by kernel_rfl)) (fun _ _ _ h => h) (Or.inl ⟨by rfl, ?_⟩) ?_ ?_
                    rotate_left
                    ·intro w'
                     go_simp
                     with_reducible rfl
                    rotate_left
                    ·simp only [Act.put, List.setIfInBounds_toArray, List.set_cons_zero, List.set_cons_succ, i64_w, i32_w]
                     rfl
                    refine take_ (i := 1) (N := some 100) (v := ?_) (a' := ?_) #[true, true, true, false, false, false, false, false, false, false, false, false, false, false, false, false, false, false, false, false, false, false, false, false, false, false, false, false, false, false, false, false] rfl rfl (take_ofW HT_.out HW_.out (by kernel_rfl)) (fun _ _ _ h => h) (Or.inl ⟨by rfl, ?_⟩) hHeld ?_ ?_
                    rotate_left
                    ·rintro w' ⟨s0, s1, s2, s3, s4, s5, s6, s7, s8⟩
                     go_simp
                     with_reducible rfl
                    rotate_left
                    ·simp only [Act.put, List.setIfInBounds_toArray, List.set_cons_zero, List.set_cons_succ, i64_w, i32_w]
                     rfl
                    refine pure_ (i := 3) (N := some 102) (v := ?_) (a' := ?_) #[true, true, true, true, false, false, false, false, false, false, false, false, false, false, false, false, false, false, false, false, false, false, false, false, false, false, false, false, false, false, false, false] rfl rfl (any_of HT_.out (by kernel_rfl)) (fun _ _ _ h => h) (Or.inl ⟨by rfl, ?_⟩) ?_ ?_
                    rotate_left
                    ·intro w'
                     go_simp
                     with_reducible rfl
                    rotate_left
                    ·simp only [Act.put, List.setIfInBounds_toArray, List.set_cons_zero, List.set_cons_succ, i64_w, i32_w]
                     rfl
                    refine pure_ (i := 4) (N := some 103) (v := ?_) (a' := ?_) #[true, true, true, true, true, false, false, false, false, false, false, false, false, false, false, false, false, false, false, false, false, false, false, false, false, false, false, false, false, false, false, false] rfl rfl (any_of HT_.out (by kernel_rfl)) (fun _ _ _ h => h) (Or.inl ⟨by rfl, ?_⟩) ?_ ?_
                    rotate_left
                    ·intro w'
                     go_simp
                     with_reducible rfl
                    rotate_left
                    ·simp only [Act.put, List.setIfInBounds_toArray, List.set_cons_zero, List.set_cons_succ, i64_w, i32_w]
                     rfl
                    refine take_ (i := 5) (N := some 104) (v := ?_) (a' := ?_) #[true, true, true, true, true, true, false, false, false, false, false, false, false, false, false, false, false, false, false, false, false, false, false, false, false, false, false, false, false, false, false, false] rfl rfl (take_ofW HT_.out HW_.out (by kernel_rfl)) (fun _ _ _ h => h) (Or.inl ⟨by rfl, ?_⟩) hHeld ?_ ?_
                    rotate_left
                    ·rintro w' ⟨s0, s1, s2, s3, s4, s5, s6, s7, s8⟩
                     go_simp
                     with_reducible rfl
                    rotate_left
                    ·simp only [Act.put, List.setIfInBounds_toArray, List.set_cons_zero, List.set_cons_succ, i64_w, i32_w]
                     rfl
                    refine one_ (i := 6) (N := some 105) #[true, true, true, true, true, true, true, false, false, false, false, false, false, false, false, false, false, false, false, false, false, false, false, false, false, false, false, false, false, false, false, false] rfl rfl (one_of HT_.out (by kernel_rfl)) (by decide) (fun K hK => ?_)
                    refine goes_ Tryd.func44 (by kernel_rfl) rfl #[.string ((rd_T53 ((rd_T44 l0 x3_2).f3) x5_5).f0)] (by rfl) rfl rfl (by (try simp only [List.map_toArray, List.map_cons, List.map_nil]); first | done | rfl | (simp only [List.length_drop, List.length_take]; rfl)) ?_
                    with_reducible refine (tinderref05_Named.calls k5 ((rd_T53 ((rd_T44 l0 x3_2).f3) x5_5).f0) true _ A34.out).mono ?_
                    rintro e w' ⟨rfl, ⟨nd, rfl⟩⟩
                    refine ⟨_, rfl, ?_⟩
                    refine hK.out _ _ ⟨(blk_cell BK005.out 0).trans rfl, (blk_cell BK005.out 1).trans rfl, (blk_cell BK005.out 2).trans rfl, (blk_cell BK005.out 3).trans rfl, (blk_cell BK005.out 4).trans rfl, ((HB.out.cell (World.block_lt_of_cell? w _ hw008_0)).trans hw008_0), ((HB.out.cell (World.block_lt_of_cell? w _ hw008_1)).trans hw008_1), ((HB.out.cell (World.block_lt_of_cell? w _ hw010_0)).trans hw010_0), ((HB.out.cell (World.block_lt_of_cell? w _ hw010_1)).trans hw010_1)⟩ (fun hHeld => ?_)
                    clear hK K
                    refine norm_ (a' := ?_) ?_ ?_
                    rotate_left
                    ·show Act.put _ (some 105) _ = _
                     simp only [Act.put, List.setIfInBounds_toArray, List.set_cons_zero, List.set_cons_succ, i64_w, i32_w]
                     rfl
                    refine pure_ (i := 7) (N := some 106) (v := ?_) (a' := ?_) #[true, true, true, true, true, true, true, true, false, false, false, false, false, false, false, false, false, false, false, false, false, false, false, false, false, false, false, false, false, false, false, false] rfl rfl (any_of HT_.out (by kernel_rfl)) (fun _ _ _ h => h) (Or.inl ⟨by rfl, ?_⟩) ?_ ?_
                    rotate_left
                    ·intro w'
                     go_simp
                     with_reducible rfl
                    rotate_left
                    ·simp only [Act.put, List.setIfInBounds_toArray, List.set_cons_zero, List.set_cons_succ, i64_w, i32_w]
                     rfl
                    refine pure_ (i := 8) (N := some 107) (v := ?_) (a' := ?_) #[true, true, true, true, true, true, true, true, true, false, false, false, false, false, false, false, false, false, false, false, false, false, false, false, false, false, false, false, false, false, false, false] rfl rfl (any_of HT_.out (by kernel_rfl)) (fun _ _ _ h => h) (Or.inl ⟨by rfl, ?_⟩) ?_ ?_
                    rotate_left
                    ·intro w'
                     go_simp
                     with_reducible rfl
                    rotate_left
                    ·simp only [Act.put, List.setIfInBounds_toArray, List.set_cons_zero, List.set_cons_succ, i64_w, i32_w]
                     rfl
                    refine pure_ (i := 9) (N := some 108) (v := ?_) (a' := ?_) #[true, true, true, true, true, true, true, true, true, true, false, false, false, false, false, false, false, false, false, false, false, false, false, false, false, false, false, false, false, false, false, false] rfl rfl (any_of HT_.out (by kernel_rfl)) (fun _ _ _ h => h) (Or.inl ⟨by rfl, ?_⟩) ?_ ?_
                    rotate_left
                    ·intro w'
                     go_simp
                     with_reducible rfl
                    rotate_left
                    ·simp only [Act.put, List.setIfInBounds_toArray, List.set_cons_zero, List.set_cons_succ, i64_w, i32_w]
                     rfl
                    refine pure_ (i := 11) (N := some 110) (v := ?_) (a' := ?_) #[true, true, true, true, true, true, true, true, true, true, false, true, false, false, false, false, false, false, false, false, false, false, false, false, false, false, false, false, false, false, false, false] rfl rfl (any_of HT_.out (by kernel_rfl)) (fun _ _ _ h => h) (Or.inl ⟨by rfl, ?_⟩) ?_ ?_
                    rotate_left
                    ·intro w'
                     go_simp
                     with_reducible rfl
                    rotate_left
                    ·simp only [Act.put, List.setIfInBounds_toArray, List.set_cons_zero, List.set_cons_succ, i64_w, i32_w]
                     rfl
                    refine take_ (i := 10) (N := some 109) (v := ?_) (a' := ?_) #[true, true, true, true, true, true, true, true, true, true, true, true, false, false, false, false, false, false, false, false, false, false, false, false, false, false, false, false, false, false, false, false] rfl rfl (take_ofW HT_.out HW_.out (by kernel_rfl)) (fun _ _ _ h => h) (Or.inl ⟨by rfl, ?_⟩) hHeld ?_ ?_
                    rotate_left
                    ·rintro w' ⟨s0, s1, s2, s3, s4, s5, s6, s7, s8⟩
                     go_simp
                     with_reducible rfl
                    rotate_left
                    ·simp only [Act.put, List.setIfInBounds_toArray, List.set_cons_zero, List.set_cons_succ, i64_w, i32_w]
                     rfl
                    refine pure_ (i := 12) (N := some 111) (v := ?_) (a' := ?_) #[true, true, true, true, true, true, true, true, true, true, true, true, true, false, false, false, false, false, false, false, false, false, false, false, false, false, false, false, false, false, false, false] rfl rfl (any_of HT_.out (by kernel_rfl)) (fun _ _ _ h => h) (Or.inl ⟨by rfl, ?_⟩) ?_ ?_
                    rotate_left
                    ·intro w'
                     go_simp
                     with_reducible rfl
                    rotate_left
                    ·simp only [Act.put, List.setIfInBounds_toArray, List.set_cons_zero, List.set_cons_succ, i64_w, i32_w]
                     rfl
                    refine pure_ (i := 13) (N := some 112) (v := ?_) (a' := ?_) #[true, true, true, true, true, true, true, true, true, true, true, true, true, true, false, false, false, false, false, false, false, false, false, false, false, false, false, false, false, false, false, false] rfl rfl (any_of HT_.out (by kernel_rfl)) (fun _ _ _ h => h) (Or.inl ⟨by rfl, ?_⟩) ?_ ?_
                    rotate_left
                    ·intro w'
                     go_simp
                     with_reducible rfl
                    rotate_left
                    ·simp only [Act.put, List.setIfInBounds_toArray, List.set_cons_zero, List.set_cons_succ, i64_w, i32_w]
                     rfl
                    refine take_ (i := 14) (N := some 113) (v := ?_) (a' := ?_) #[true, true, true, true, true, true, true, true, true, true, true, true, true, true, true, false, false, false, false, false, false, false, false, false, false, false, false, false, false, false, false, false] rfl rfl (take_ofW HT_.out HW_.out (by kernel_rfl)) (fun _ _ _ h => h) (Or.inl ⟨by rfl, ?_⟩) hHeld ?_ ?_
                    rotate_left
                    ·rintro w' ⟨s0, s1, s2, s3, s4, s5, s6, s7, s8⟩
                     go_simp
                     with_reducible rfl
                    rotate_left
                    ·simp only [Act.put, List.setIfInBounds_toArray, List.set_cons_zero, List.set_cons_succ, i64_w, i32_w]
                     rfl
                    refine pure_ (i := 15) (N := some 114) (v := ?_) (a' := ?_) #[true, true, true, true, true, true, true, true, true, true, true, true, true, true, true, true, false, false, false, false, false, false, false, false, false, false, false, false, false, false, false, false] rfl rfl (any_of HT_.out (by kernel_rfl)) (fun _ _ _ h => h) (Or.inl ⟨by rfl, ?_⟩) ?_ ?_
                    rotate_left
                    ·intro w'
                     go_simp
                     with_reducible rfl
                    rotate_left
                    ·simp only [Act.put, List.setIfInBounds_toArray, List.set_cons_zero, List.set_cons_succ, i64_w, i32_w]
                     rfl
                    refine pure_ (i := 16) (N := some 115) (v := ?_) (a' := ?_) #[true, true, true, true, true, true, true, true, true, true, true, true, true, true, true, true, true, false, false, false, false, false, false, false, false, false, false, false, false, false, false, false] rfl rfl (any_of HT_.out (by kernel_rfl)) (fun _ _ _ h => h) (Or.inl ⟨by rfl, ?_⟩) ?_ ?_
                    rotate_left
                    ·intro w'
                     go_simp
                     with_reducible rfl
                    rotate_left
                    ·simp only [Act.put, List.setIfInBounds_toArray, List.set_cons_zero, List.set_cons_succ, i64_w, i32_w]
                     rfl
                    refine pure_ (i := 17) (N := some 116) (v := ?_) (a' := ?_) #[true, true, true, true, true, true, true, true, true, true, true, true, true, true, true, true, true, true, false, false, false, false, false, false, false, false, false, false, false, false, false, false] rfl rfl (any_of HT_.out (by kernel_rfl)) (fun _ _ _ h => h) (Or.inl ⟨by rfl, ?_⟩) ?_ ?_
                    rotate_left
                    ·intro w'
                     go_simp
                     with_reducible rfl
                    rotate_left
                    ·simp only [Act.put, List.setIfInBounds_toArray, List.set_cons_zero, List.set_cons_succ, i64_w, i32_w]
                     rfl
                    refine pure_ (i := 18) (N := some 117) (v := ?_) (a' := ?_) #[true, true, true, true, true, true, true, true, true, true, true, true, true, true, true, true, true, true, true, false, false, false, false, false, false, false, false, false, false, false, false, false] rfl rfl (any_of HT_.out (by kernel_rfl)) (fun _ _ _ h => h) (Or.inl ⟨by rfl, ?_⟩) ?_ ?_
                    rotate_left
                    ·intro w'
                     go_simp
                     with_reducible rfl
                    rotate_left
                    ·simp only [Act.put, List.setIfInBounds_toArray, List.set_cons_zero, List.set_cons_succ, i64_w, i32_w]
                     rfl
                    refine pure_ (i := 19) (N := some 118) (v := undef) (a' := ?_) #[true, true, true, true, true, true, true, true, true, true, true, true, true, true, true, true, true, true, true, true, false, false, false, false, false, false, false, false, false, false, false, false] rfl rfl (any_of HT_.out (by kernel_rfl)) (fun _ _ _ h => h) (Or.inr ⟨by rfl, rfl⟩) ?_ ?_
                    rotate_left
                    ·simp only [Act.put, List.setIfInBounds_toArray, List.set_cons_zero, List.set_cons_succ, i64_w, i32_w]
                     rfl
                    refine pure_ (i := 20) (N := some 119) (v := undef) (a' := ?_) #[true, true, true, true, true, true, true, true, true, true, true, true, true, true, true, true, true, true, true, true, true, false, false, false, false, false, false, false, false, false, false, false] rfl rfl (any_of HT_.out (by kernel_rfl)) (fun _ _ _ h => h) (Or.inr ⟨by rfl, rfl⟩) ?_ ?_
                    rotate_left
                    ·simp only [Act.put, List.setIfInBounds_toArray, List.set_cons_zero, List.set_cons_succ, i64_w, i32_w]
                     rfl
                    refine pure_ (i := 21) (N := some 120) (v := undef) (a' := ?_) #[true, true, true, true, true, true, true, true, true, true, true, true, true, true, true, true, true, true, true, true, true, true, false, false, false, false, false, false, false, false, false, false] rfl rfl (any_of HT_.out (by kernel_rfl)) (fun _ _ _ h => h) (Or.inr ⟨by rfl, rfl⟩) ?_ ?_
                    rotate_left
                    ·simp only [Act.put, List.setIfInBounds_toArray, List.set_cons_zero, List.set_cons_succ, i64_w, i32_w]
                     rfl
                    refine pure_ (i := 22) (N := some 121) (v := undef) (a' := ?_) #[true, true, true, true, true, true, true, true, true, true, true, true, true, true, true, true, true, true, true, true, true, true, true, false, false, false, false, false, false, false, false, false] rfl rfl (any_of HT_.out (by kernel_rfl)) (fun _ _ _ h => h) (Or.inr ⟨by rfl, rfl⟩) ?_ ?_
                    rotate_left
                    ·simp only [Act.put, List.setIfInBounds_toArray, List.set_cons_zero, List.set_cons_succ, i64_w, i32_w]
                     rfl
                    refine pure_ (i := 23) (N := some 122) (v := undef) (a' := ?_) #[true, true, true, true, true, true, true, true, true, true, true, true, true, true, true, true, true, true, true, true, true, true, true, true, false, false, false, false, false, false, false, false] rfl rfl (any_of HT_.out (by kernel_rfl)) (fun _ _ _ h => h) (Or.inr ⟨by rfl, rfl⟩) ?_ ?_
                    rotate_left
                    ·simp only [Act.put, List.setIfInBounds_toArray, List.set_cons_zero, List.set_cons_succ, i64_w, i32_w]
                     rfl
                    refine pure_ (i := 24) (N := some 123) (v := undef) (a' := ?_) #[true, true, true, true, true, true, true, true, true, true, true, true, true, true, true, true, true, true, true, true, true, true, true, true, true, false, false, false, false, false, false, false] rfl rfl (any_of HT_.out (by kernel_rfl)) (fun _ _ _ h => h) (Or.inr ⟨by rfl, rfl⟩) ?_ ?_
                    rotate_left
                    ·simp only [Act.put, List.setIfInBounds_toArray, List.set_cons_zero, List.set_cons_succ, i64_w, i32_w]
                     rfl
                    refine pure_ (i := 25) (N := some 124) (v := undef) (a' := ?_) #[true, true, true, true, true, true, true, true, true, true, true, true, true, true, true, true, true, true, true, true, true, true, true, true, true, true, false, false, false, false, false, false] rfl rfl (any_of HT_.out (by kernel_rfl)) (fun _ _ _ h => h) (Or.inr ⟨by rfl, rfl⟩) ?_ ?_
                    rotate_left
                    ·simp only [Act.put, List.setIfInBounds_toArray, List.set_cons_zero, List.set_cons_succ, i64_w, i32_w]
                     rfl
                    refine pure_ (i := 26) (N := some 125) (v := undef) (a' := ?_) #[true, true, true, true, true, true, true, true, true, true, true, true, true, true, true, true, true, true, true, true, true, true, true, true, true, true, true, false, false, false, false, false] rfl rfl (any_of HT_.out (by kernel_rfl)) (fun _ _ _ h => h) (Or.inr ⟨by rfl, rfl⟩) ?_ ?_
                    rotate_left
                    ·simp only [Act.put, List.setIfInBounds_toArray, List.set_cons_zero, List.set_cons_succ, i64_w, i32_w]
                     rfl
                    refine pure_ (i := 27) (N := some 126) (v := undef) (a' := ?_) #[true, true, true, true, true, true, true, true, true, true, true, true, true, true, true, true, true, true, true, true, true, true, true, true, true, true, true, true, false, false, false, false] rfl rfl (any_of HT_.out (by kernel_rfl)) (fun _ _ _ h => h) (Or.inr ⟨by rfl, rfl⟩) ?_ ?_
                    rotate_left
                    ·simp only [Act.put, List.setIfInBounds_toArray, List.set_cons_zero, List.set_cons_succ, i64_w, i32_w]
                     rfl
                    refine pure_ (i := 28) (N := some 127) (v := undef) (a' := ?_) #[true, true, true, true, true, true, true, true, true, true, true, true, true, true, true, true, true, true, true, true, true, true, true, true, true, true, true, true, true, false, false, false] rfl rfl (any_of HT_.out (by kernel_rfl)) (fun _ _ _ h => h) (Or.inr ⟨by rfl, rfl⟩) ?_ ?_
                    rotate_left
                    ·simp only [Act.put, List.setIfInBounds_toArray, List.set_cons_zero, List.set_cons_succ, i64_w, i32_w]
                     rfl
                    refine pure_ (i := 29) (N := some 128) (v := undef) (a' := ?_) #[true, true, true, true, true, true, true, true, true, true, true, true, true, true, true, true, true, true, true, true, true, true, true, true, true, true, true, true, true, true, false, false] rfl rfl (any_of HT_.out (by kernel_rfl)) (fun _ _ _ h => h) (Or.inr ⟨by rfl, rfl⟩) ?_ ?_
                    rotate_left
                    ·simp only [Act.put, List.setIfInBounds_toArray, List.set_cons_zero, List.set_cons_succ, i64_w, i32_w]
                     rfl
                    refine pure_ (i := 30) (N := some 129) (v := undef) (a' := ?_) #[true, true, true, true, true, true, true, true, true, true, true, true, true, true, true, true, true, true, true, true, true, true, true, true, true, true, true, true, true, true, true, false] rfl rfl (any_of HT_.out (by kernel_rfl)) (fun _ _ _ h => h) (Or.inr ⟨by rfl, rfl⟩) ?_ ?_
                    rotate_left
                    ·simp only [Act.put, List.setIfInBounds_toArray, List.set_cons_zero, List.set_cons_succ, i64_w, i32_w]
                     rfl
                    refine pure_ (i := 31) (N := some 130) (v := ?_) (a' := ?_) #[true, true, true, true, true, true, true, true, true, true, true, true, true, true, true, true, true, true, true, true, true, true, true, true, true, true, true, true, true, true, true, true] rfl rfl (any_of HT_.out (by kernel_rfl)) (fun _ _ _ h => h) (Or.inl ⟨by rfl, ?_⟩) ?_ ?_
                    rotate_left
                    ·intro w'
                     go_simp
                     with_reducible rfl
                    rotate_left
                    ·simp only [Act.put, List.setIfInBounds_toArray, List.set_cons_zero, List.set_cons_succ, i64_w, i32_w]
                     rfl
                    refine done_ (done_of HT_.out (by kernel_rfl)) ?_
                    try go_wp2
                    go_ret
                    exact ⟨by first | rfl | (simp [errW_none, errW_some] <;> rfl) | (simp [*, errW_none, errW_some] <;> rfl), by repeat (first | (with_reducible first | exact HB.out | apply below_alloc | apply pw_below_drewN | apply below_drew1 | refine below_set ?_ GE005.out) | exact HB.out)⟩
                   ·rw [if_neg c36] at H
                    have c36b0 : decide (256 < (((rd_T53 ((rd_T44 l0 x3_2).f3) x5_5).f1).length : Int)) = false := decide_eq_false c36
                    have c36b1 : decide (256 < ((rd_T53 ((rd_T44 l0 x3_2).f3) x5_5).f1).length) = false := decide_eq_false (by omega)
                    clear c36
                    have c39b0 := eq_true (of_decide_eq_true (by first | (with_reducible assumption) | assumption) : 0 ≤ x5_5)
                    by_cases c40 : x5_5 ≤ (((rd_T44 l0 x3_2).f3).length : Int)
                    ·rw [if_pos c40] at H
                     have c40b0 := eq_true c40
                     have c40b1 : decide (x5_5 ≤ (((rd_T44 l0 x3_2).f3).length : Int)) = true := decide_eq_true c40
                     clear c40
                     obtain ⟨y011, hy011⟩ : ∃ y_ : List (S53), y_ = (((rd_T44 l0 x3_2).f3).take (x5_5 : Int).toNat) := ⟨_, rfl⟩
                     replace H : ((tinderref08_find.f k5 y011 ((rd_T53 ((rd_T44 l0 x3_2).f3) x5_5).f0)).bind fun t016 => (if t016 ≥ 0 then (some false) else (tinderref08_Formed.l1 k5 l0 x3_2 (wrap64 (x5_5 + 1)) ((rd_T44 l0 x3_2).f0) ((rd_T44 l0 x3_2).f1) ((rd_T44 l0 x3_2).f2) ((rd_T44 l0 x3_2).f3) ((rd_T44 l0 x3_2).f4)))) = some r := by first | (rw [hy011]; with_reducible exact H) | (have H2_ := (Option.bind_some _ _).symm.trans H; rw [hy011]; with_reducible exact H2_) | (have H2_ := (Option.bind_some _ _).symm.trans H; with_reducible exact H2_) | with_reducible exact H | (rw [hy011]; exact H) | exact H
                     have Ny011 := Aside0.mk hy011
                     clear hy011
                     replace H := Option.bind_eq_some_iff.mp H
                     obtain ⟨t016, A410, H⟩ := H
                     replace H : (if t016 ≥ 0 then (some false) else (tinderref08_Formed.l1 k5 l0 x3_2 (wrap64 (x5_5 + 1)) ((rd_T44 l0 x3_2).f0) ((rd_T44 l0 x3_2).f1) ((rd_T44 l0 x3_2).f2) ((rd_T44 l0 x3_2).f3) ((rd_T44 l0 x3_2).f4))) = some r := H
                     have A41 := Aside0.mk A410
                     clear A410
                     by_cases c42 : t016 ≥ 0
                     ·rw [if_pos c42] at H
                      have c42b0 : decide (0 ≤ t016) = true := decide_eq_true c42
                      clear c42
                      obtain rfl := Option.some.inj H
                      have hcz43_0 : wr.cell? ⟨gb005, 0, none⟩ = some (.string ((rd_T44 l0 x3_2).f0)) := (blk_cell BK005.out 0).trans rfl
                      have hcz43_1 : wr.cell? ⟨gb005, 1, none⟩ = some (.slice A004_1 ((rd_T44 l0 x3_2).f1).length c004_1) := (blk_cell BK005.out 1).trans rfl
                      have hcz43_2 : wr.cell? ⟨gb005, 2, none⟩ = some (.int .i64 ((rd_T44 l0 x3_2).f2)) := (blk_cell BK005.out 2).trans rfl
                      have hcz43_3 : wr.cell? ⟨gb005, 3, none⟩ = some (.slice A004_3 ((rd_T44 l0 x3_2).f3).length c004_3) := (blk_cell BK005.out 3).trans rfl
                      have hcz43_4 : wr.cell? ⟨gb005, 4, none⟩ = some (.slice A004_4 ((rd_T44 l0 x3_2).f4).length c004_4) := (blk_cell BK005.out 4).trans rfl
                      have hfz43_0 := blk_frozen BK005.out 0
                      have hfz43_1 := blk_frozen BK005.out 1
                      have hfz43_2 := blk_frozen BK005.out 2
                      have hfz43_3 := blk_frozen BK005.out 3
                      have hfz43_4 := blk_frozen BK005.out 4
                      try go_wp2
                      have n0_ := Aside0.mk (blk_drew BK005.out)
                      have n1_ := Aside0.mk (below_drew1 HB.out)
                      clear BK005
                      clear HB
                      have BK005 := n0_
                      have HB := n1_
                      clear n0_ n1_
                      have p008 : 0 ≤ (x5_5 : Int) := of_decide_eq_true (by first | (with_reducible assumption) | assumption)
                      have q008 : x5_5 < (((rd_T44 l0 x3_2).f3).length : Int) := of_decide_eq_true (by first | (with_reducible assumption) | assumption)
                      obtain ⟨ad008, A008_1, c008_1, e008, hx008_0, hx008_1, hl008_1, hi008_1⟩ := at_T53 HR004_3.out x5_5 p008 q008
                      have hw008_1 := hx008_1
                      have hw008_0 := hx008_0
                      cases e008
                      replace hx008_0 := (HB.out.cell (World.block_lt_of_cell? w _ hx008_0)).trans hx008_0
                      replace hx008_1 := (HB.out.cell (World.block_lt_of_cell? w _ hx008_1)).trans hx008_1
                      have HR008_1 := Aside0.mk hi008_1
                      have HC008_1 := Aside0.mk hl008_1
                      clear hi008_1 hl008_1
                      replace p008 := eq_true p008
                      replace q008 := eq_true q008
                      have p010 : 0 ≤ (x5_5 : Int) := of_decide_eq_true (by first | (with_reducible assumption) | assumption)
                      have q010 : x5_5 < (((rd_T44 l0 x3_2).f3).length : Int) := of_decide_eq_true (by first | (with_reducible assumption) | assumption)
                      obtain ⟨ad010, A010_1, c010_1, e010, hx010_0, hx010_1, hl010_1, hi010_1⟩ := at_T53 HR004_3.out x5_5 p010 q010
                      have hw010_1 := hx010_1
                      have hw010_0 := hx010_0
                      obtain rfl : ad008 = ad010 := (by injection e010)
                      replace hx010_0 := (HB.out.cell (World.block_lt_of_cell? w _ hx010_0)).trans hx010_0
                      replace hx010_1 := (HB.out.cell (World.block_lt_of_cell? w _ hx010_1)).trans hx010_1
                      have HR010_1 := Aside0.mk hi010_1
                      have HC010_1 := Aside0.mk hl010_1
                      clear hi010_1 hl010_1
                      replace p010 := eq_true p010
                      replace q010 := eq_true q010
                      have ea_ := Option.some.inj (hx008_1.symm.trans hx010_1)
                      injection ea_ with ea_ en_ ec_
                      subst ea_
                      subst ec_
                      clear en_
                      have p015 : 0 ≤ (x5_5 : Int) := of_decide_eq_true (by first | (with_reducible assumption) | assumption)
                      have q015 : x5_5 < (((rd_T44 l0 x3_2).f3).length : Int) := of_decide_eq_true (by first | (with_reducible assumption) | assumption)
                      obtain ⟨ad015, A015_1, c015_1, e015, hx015_0, hx015_1, hl015_1, hi015_1⟩ := at_T53 HR004_3.out x5_5 p015 q015
                      have hw015_1 := hx015_1
                      have hw015_0 := hx015_0
                      obtain rfl : ad008 = ad015 := (by injection e015)
                      replace hx015_0 := (HB.out.cell (World.block_lt_of_cell? w _ hx015_0)).trans hx015_0
                      replace hx015_1 := (HB.out.cell (World.block_lt_of_cell? w _ hx015_1)).trans hx015_1
                      have HR015_1 := Aside0.mk hi015_1
                      have HC015_1 := Aside0.mk hl015_1
                      clear hi015_1 hl015_1
                      replace p015 := eq_true p015
                      replace q015 := eq_true q015
                      have ea_ := Option.some.inj (hx008_1.symm.trans hx015_1)
                      injection ea_ with ea_ en_ ec_
                      subst ea_
                      subst ec_
                      clear en_
                      refine start_ (n := 32) (S := fun w' => w'.cell? ⟨gb005, 0, none⟩ = some (.string ((rd_T44 l0 x3_2).f0)) ∧ w'.cell? ⟨gb005, 1, none⟩ = some (.slice A004_1 ((rd_T44 l0 x3_2).f1).length c004_1) ∧ w'.cell? ⟨gb005, 2, none⟩ = some (.int .i64 ((rd_T44 l0 x3_2).f2)) ∧ w'.cell? ⟨gb005, 3, none⟩ = some (.slice (some ad008) ((rd_T44 l0 x3_2).f3).length c004_3) ∧ w'.cell? ⟨gb005, 4, none⟩ = some (.slice A004_4 ((rd_T44 l0 x3_2).f4).length c004_4) ∧ w'.cell? (ad008.add ((x5_5).toNat * 2)) = some (.string ((rd_T53 ((rd_T44 l0 x3_2).f3) x5_5).f0)) ∧ w'.cell? ⟨(ad008.add ((x5_5).toNat * 2)).block, (ad008.add ((x5_5).toNat * 2)).off + 1, none⟩ = some (.slice A008_1 ((rd_T53 ((rd_T44 l0 x3_2).f3) x5_5).f1).length c008_1) ∧ w'.cell? (ad008.add ((x5_5).toNat * 2)) = some (.string ((rd_T53 ((rd_T44 l0 x3_2).f3) x5_5).f0)) ∧ w'.cell? ⟨(ad008.add ((x5_5).toNat * 2)).block, (ad008.add ((x5_5).toNat * 2)).off + 1, none⟩ = some (.slice A008_1 ((rd_T53 ((rd_T44 l0 x3_2).f3) x5_5).f1).length c008_1) ∧ w'.cell? (ad008.add ((x5_5).toNat * 2)) = some (.string ((rd_T53 ((rd_T44 l0 x3_2).f3) x5_5).f0)) ∧ w'.cell? ⟨(ad008.add ((x5_5).toNat * 2)).block, (ad008.add ((x5_5).toNat * 2)).off + 1, none⟩ = some (.slice A008_1 ((rd_T53 ((rd_T44 l0 x3_2).f3) x5_5).f1).length c008_1)) (ds := []) #[false, false, false, false, false, false, false, false, false, false, false, false, false, false, false, false, false, false, false, false, false, false, false, false, false, false, false, false, false, false, false, false] (by kernel_rfl) rfl rfl ⟨(blk_cell BK005.out 0).trans rfl, (blk_cell BK005.out 1).trans rfl, (blk_cell BK005.out 2).trans rfl, (blk_cell BK005.out 3).trans rfl, (blk_cell BK005.out 4).trans rfl, ((HB.out.cell (World.block_lt_of_cell? w _ hw008_0)).trans hw008_0), ((HB.out.cell (World.block_lt_of_cell? w _ hw008_1)).trans hw008_1), ((HB.out.cell (World.block_lt_of_cell? w _ hw010_0)).trans hw010_0), ((HB.out.cell (World.block_lt_of_cell? w _ hw010_1)).trans hw010_1), ((HB.out.cell (World.block_lt_of_cell? w _ hw015_0)).trans hw015_0), ((HB.out.cell (World.block_lt_of_cell? w _ hw015_1)).trans hw015_1)⟩ (fun hHeld => ?_); refine with_tabW tinderref08_Formed.tab14 tinderref08_Formed.bits14 (fun HT_ HW_ => ?_)
                      generalize wr.drew = w44 at BK005 HB HR008_1 HR010_1 HR015_1 hx008_0 hx008_1 hx010_0 hx010_1 hx015_0 hx015_1 hHeld ⊢
                      refine pure_ (i := 0) (N := some 99) (v := ?_) (a' := ?_) #[true, false, false, false, false, false, false, false, false, false, false, false, false, false, false, false, false, false, false, false, false, false, false, false, false, false, false, false, false, false, false, false] rfl rfl (any_of HT_.out (by kernel_rfl)) (fun _ _ _ h => h) (Or.inl ⟨by rfl, ?_⟩) ?_ ?_
                      rotate_left
                      ·intro w'
                       go_simp
                       with_reducible rfl
                      rotate_left
                      ·simp only [Act.put, List.setIfInBounds_toArray, List.set_cons_zero, List.set_cons_succ, i64_w, i32_w]
                       rfl
                      refine pure_ (i := 2) (N := some 101) (v := ?_) (a' := ?_) #[true, false, true, false, false, false, false, false, false, false, false, false, false, false, false, false, false, false, false, false, false, false, false, false, false, false, false, false, false, false, false, false] rfl rfl (any_of HT_.out (by kernel_rfl)) (fun _ _ _ h => h) (Or.inl ⟨by rfl, ?_⟩) ?_ ?_
                      rotate_left
                      ·intro w'
                       go_simp
                       with_reducible rfl
                      rotate_left
                      ·simp only [Act.put, List.setIfInBounds_toArray, List.set_cons_zero, List.set_cons_succ, i64_w, i32_w]
                       rfl
                      refine take_ (i := 1) (N := some 100) (v := ?_) (a' := ?_) #[true, true, true, false, false, false, false, false, false, false, false, false, false, false, false, false, false, false, false, false, false, false, false, false, false, false, false, false, false, false, false, false] rfl rfl (take_ofW HT_.out HW_.out (by kernel_rfl)) (fun _ _ _ h => h) (Or.inl ⟨by rfl, ?_⟩) hHeld ?_ ?_
                      rotate_left
                      ·rintro w' ⟨s0, s1, s2, s3, s4, s5, s6, s7, s8, s9, s10⟩
                       go_simp
                       with_reducible rfl
                      rotate_left
                      ·simp only [Act.put, List.setIfInBounds_toArray, List.set_cons_zero, List.set_cons_succ, i64_w, i32_w]
                       rfl
                      refine pure_ (i := 3) (N := some 102) (v := ?_) (a' := ?_) #[true, true, true, true, false, false, false, false, false, false, false, false, false, false, false, false, false, false, false, false, false, false, false, false, false, false, false, false, false, false, false, false] rfl rfl (any_of HT_.out (by kernel_rfl)) (fun _ _ _ h => h) (Or.inl ⟨by rfl, ?_⟩) ?_ ?_
                      rotate_left
                      ·intro w'
                       go_simp
                       with_reducible rfl
                      rotate_left
                      ·simp only [Act.put, List.setIfInBounds_toArray, List.set_cons_zero, List.set_cons_succ, i64_w, i32_w]
                       rfl
                      refine pure_ (i := 4) (N := some 103) (v := ?_) (a' := ?_) #[true, true, true, true, true, false, false, false, false, false, false, false, false, false, false, false, false, false, false, false, false, false, false, false, false, false, false, false, false, false, false, false] rfl rfl (any_of HT_.out (by kernel_rfl)) (fun _ _ _ h => h) (Or.inl ⟨by rfl, ?_⟩) ?_ ?_
                      rotate_left
                      ·intro w'
                       go_simp
                       with_reducible rfl
                      rotate_left
                      ·simp only [Act.put, List.setIfInBounds_toArray, List.set_cons_zero, List.set_cons_succ, i64_w, i32_w]
                       rfl
                      refine take_ (i := 5) (N := some 104) (v := ?_) (a' := ?_) #[true, true, true, true, true, true, false, false, false, false, false, false, false, false, false, false, false, false, false, false, false, false, false, false, false, false, false, false, false, false, false, false] rfl rfl (take_ofW HT_.out HW_.out (by kernel_rfl)) (fun _ _ _ h => h) (Or.inl ⟨by rfl, ?_⟩) hHeld ?_ ?_
                      rotate_left
                      ·rintro w' ⟨s0, s1, s2, s3, s4, s5, s6, s7, s8, s9, s10⟩
                       go_simp
                       with_reducible rfl
                      rotate_left
                      ·simp only [Act.put, List.setIfInBounds_toArray, List.set_cons_zero, List.set_cons_succ, i64_w, i32_w]
                       rfl
                      refine one_ (i := 6) (N := some 105) #[true, true, true, true, true, true, true, false, false, false, false, false, false, false, false, false, false, false, false, false, false, false, false, false, false, false, false, false, false, false, false, false] rfl rfl (one_of HT_.out (by kernel_rfl)) (by decide) (fun K hK => ?_)
                      refine goes_ Tryd.func44 (by kernel_rfl) rfl #[.string ((rd_T53 ((rd_T44 l0 x3_2).f3) x5_5).f0)] (by rfl) rfl rfl (by (try simp only [List.map_toArray, List.map_cons, List.map_nil]); first | done | rfl | (simp only [List.length_drop, List.length_take]; rfl)) ?_
                      with_reducible refine (tinderref05_Named.calls k5 ((rd_T53 ((rd_T44 l0 x3_2).f3) x5_5).f0) true _ A34.out).mono ?_
                      rintro e w' ⟨rfl, ⟨nd, rfl⟩⟩
                      refine ⟨_, rfl, ?_⟩
                      have q45 : (x5_5 : Int) ≤ ((((rd_T44 l0 x3_2).f3).length : Int) : Int) := of_decide_eq_true (by first | (with_reducible assumption) | assumption)
                      obtain ⟨i045, hi045, _, hsz45, _⟩ := info_parts info53
                      have hroom45 : ((rd_T44 l0 x3_2).f3).length ≤ c004_3 := HC004_3.out
                      have hC45 : Kd.C k53 _ (some ad008) ((rd_T44 l0 x3_2).f3).length ((rd_T44 l0 x3_2).f3) := HR004_3.out
                      have hcut45 := cut_to (P := Tryd.prog) 42 53 .i64 Tryd.underlying42 hi045 (some ad008) ((rd_T44 l0 x3_2).f3).length c004_3 x5_5 (of_decide_eq_true (by first | (with_reducible assumption) | assumption)) q45 hroom45
                      have hr45 := Kd.C_take (m := (x5_5 : Int).toNat) hC45 (by omega)
                      have hy45 : y011.length = (x5_5 : Int).toNat := (by rw [Ny011.out, List.length_take]; omega)
                      rw [← Ny011.out] at hr45
                      rw [← hy45] at hcut45
                      have HR014 := Aside0.mk hr45
                      have HC014 := Aside0.mk (show y011.length ≤ c004_3 from by omega)
                      clear hr45 hC45 hroom45 hi045 hsz45
                      have KY45 := Aside0.mk hy45
                      clear hy45
                      replace q45 := eq_true q45
                      refine hK.out _ _ ⟨(blk_cell BK005.out 0).trans rfl, (blk_cell BK005.out 1).trans rfl, (blk_cell BK005.out 2).trans rfl, (blk_cell BK005.out 3).trans rfl, (blk_cell BK005.out 4).trans rfl, ((HB.out.cell (World.block_lt_of_cell? w _ hw008_0)).trans hw008_0), ((HB.out.cell (World.block_lt_of_cell? w _ hw008_1)).trans hw008_1), ((HB.out.cell (World.block_lt_of_cell? w _ hw010_0)).trans hw010_0), ((HB.out.cell (World.block_lt_of_cell? w _ hw010_1)).trans hw010_1), ((HB.out.cell (World.block_lt_of_cell? w _ hw015_0)).trans hw015_0), ((HB.out.cell (World.block_lt_of_cell? w _ hw015_1)).trans hw015_1)⟩ (fun hHeld => ?_)
                      clear hK K
                      refine norm_ (a' := ?_) ?_ ?_
                      rotate_left
                      ·show Act.put _ (some 105) _ = _
                       simp only [Act.put, List.setIfInBounds_toArray, List.set_cons_zero, List.set_cons_succ, i64_w, i32_w]
                       rfl
                      refine pure_ (i := 7) (N := some 106) (v := ?_) (a' := ?_) #[true, true, true, true, true, true, true, true, false, false, false, false, false, false, false, false, false, false, false, false, false, false, false, false, false, false, false, false, false, false, false, false] rfl rfl (any_of HT_.out (by kernel_rfl)) (fun _ _ _ h => h) (Or.inl ⟨by rfl, ?_⟩) ?_ ?_
                      rotate_left
                      ·intro w'
                       go_simp
                       with_reducible rfl
                      rotate_left
                      ·simp only [Act.put, List.setIfInBounds_toArray, List.set_cons_zero, List.set_cons_succ, i64_w, i32_w]
                       rfl
                      refine pure_ (i := 8) (N := some 107) (v := ?_) (a' := ?_) #[true, true, true, true, true, true, true, true, true, false, false, false, false, false, false, false, false, false, false, false, false, false, false, false, false, false, false, false, false, false, false, false] rfl rfl (any_of HT_.out (by kernel_rfl)) (fun _ _ _ h => h) (Or.inl ⟨by rfl, ?_⟩) ?_ ?_
                      rotate_left
                      ·intro w'
                       go_simp
                       with_reducible rfl
                      rotate_left
                      ·simp only [Act.put, List.setIfInBounds_toArray, List.set_cons_zero, List.set_cons_succ, i64_w, i32_w]
                       rfl
                      refine pure_ (i := 9) (N := some 108) (v := ?_) (a' := ?_) #[true, true, true, true, true, true, true, true, true, true, false, false, false, false, false, false, false, false, false, false, false, false, false, false, false, false, false, false, false, false, false, false] rfl rfl (any_of HT_.out (by kernel_rfl)) (fun _ _ _ h => h) (Or.inl ⟨by rfl, ?_⟩) ?_ ?_
                      rotate_left
                      ·intro w'
                       go_simp
                       with_reducible rfl
                      rotate_left
                      ·simp only [Act.put, List.setIfInBounds_toArray, List.set_cons_zero, List.set_cons_succ, i64_w, i32_w]
                       rfl
                      refine pure_ (i := 11) (N := some 110) (v := ?_) (a' := ?_) #[true, true, true, true, true, true, true, true, true, true, false, true, false, false, false, false, false, false, false, false, false, false, false, false, false, false, false, false, false, false, false, false] rfl rfl (any_of HT_.out (by kernel_rfl)) (fun _ _ _ h => h) (Or.inl ⟨by rfl, ?_⟩) ?_ ?_
                      rotate_left
                      ·intro w'
                       go_simp
                       with_reducible rfl
                      rotate_left
                      ·simp only [Act.put, List.setIfInBounds_toArray, List.set_cons_zero, List.set_cons_succ, i64_w, i32_w]
                       rfl
                      refine take_ (i := 10) (N := some 109) (v := ?_) (a' := ?_) #[true, true, true, true, true, true, true, true, true, true, true, true, false, false, false, false, false, false, false, false, false, false, false, false, false, false, false, false, false, false, false, false] rfl rfl (take_ofW HT_.out HW_.out (by kernel_rfl)) (fun _ _ _ h => h) (Or.inl ⟨by rfl, ?_⟩) hHeld ?_ ?_
                      rotate_left
                      ·rintro w' ⟨s0, s1, s2, s3, s4, s5, s6, s7, s8, s9, s10⟩
                       go_simp
                       with_reducible rfl
                      rotate_left
                      ·simp only [Act.put, List.setIfInBounds_toArray, List.set_cons_zero, List.set_cons_succ, i64_w, i32_w]
                       rfl
                      refine pure_ (i := 12) (N := some 111) (v := ?_) (a' := ?_) #[true, true, true, true, true, true, true, true, true, true, true, true, true, false, false, false, false, false, false, false, false, false, false, false, false, false, false, false, false, false, false, false] rfl rfl (any_of HT_.out (by kernel_rfl)) (fun _ _ _ h => h) (Or.inl ⟨by rfl, ?_⟩) ?_ ?_
                      rotate_left
                      ·intro w'
                       go_simp
                       with_reducible rfl
                      rotate_left
                      ·simp only [Act.put, List.setIfInBounds_toArray, List.set_cons_zero, List.set_cons_succ, i64_w, i32_w]
                       rfl
                      refine pure_ (i := 13) (N := some 112) (v := ?_) (a' := ?_) #[true, true, true, true, true, true, true, true, true, true, true, true, true, true, false, false, false, false, false, false, false, false, false, false, false, false, false, false, false, false, false, false] rfl rfl (any_of HT_.out (by kernel_rfl)) (fun _ _ _ h => h) (Or.inl ⟨by rfl, ?_⟩) ?_ ?_
                      rotate_left
                      ·intro w'
                       go_simp
                       with_reducible rfl
                      rotate_left
                      ·simp only [Act.put, List.setIfInBounds_toArray, List.set_cons_zero, List.set_cons_succ, i64_w, i32_w]
                       rfl
                      refine take_ (i := 14) (N := some 113) (v := ?_) (a' := ?_) #[true, true, true, true, true, true, true, true, true, true, true, true, true, true, true, false, false, false, false, false, false, false, false, false, false, false, false, false, false, false, false, false] rfl rfl (take_ofW HT_.out HW_.out (by kernel_rfl)) (fun _ _ _ h => h) (Or.inl ⟨by rfl, ?_⟩) hHeld ?_ ?_
                      rotate_left
                      ·rintro w' ⟨s0, s1, s2, s3, s4, s5, s6, s7, s8, s9, s10⟩
                       go_simp
                       with_reducible rfl
                      rotate_left
                      ·simp only [Act.put, List.setIfInBounds_toArray, List.set_cons_zero, List.set_cons_succ, i64_w, i32_w]
                       rfl
                      refine pure_ (i := 15) (N := some 114) (v := ?_) (a' := ?_) #[true, true, true, true, true, true, true, true, true, true, true, true, true, true, true, true, false, false, false, false, false, false, false, false, false, false, false, false, false, false, false, false] rfl rfl (any_of HT_.out (by kernel_rfl)) (fun _ _ _ h => h) (Or.inl ⟨by rfl, ?_⟩) ?_ ?_
                      rotate_left
                      ·intro w'
                       go_simp
                       with_reducible rfl
                      rotate_left
                      ·simp only [Act.put, List.setIfInBounds_toArray, List.set_cons_zero, List.set_cons_succ, i64_w, i32_w]
                       rfl
                      refine pure_ (i := 16) (N := some 115) (v := ?_) (a' := ?_) #[true, true, true, true, true, true, true, true, true, true, true, true, true, true, true, true, true, false, false, false, false, false, false, false, false, false, false, false, false, false, false, false] rfl rfl (any_of HT_.out (by kernel_rfl)) (fun _ _ _ h => h) (Or.inl ⟨by rfl, ?_⟩) ?_ ?_
                      rotate_left
                      ·intro w'
                       go_simp
                       with_reducible rfl
                      rotate_left
                      ·simp only [Act.put, List.setIfInBounds_toArray, List.set_cons_zero, List.set_cons_succ, i64_w, i32_w]
                       rfl
                      refine pure_ (i := 17) (N := some 116) (v := ?_) (a' := ?_) #[true, true, true, true, true, true, true, true, true, true, true, true, true, true, true, true, true, true, false, false, false, false, false, false, false, false, false, false, false, false, false, false] rfl rfl (any_of HT_.out (by kernel_rfl)) (fun _ _ _ h => h) (Or.inl ⟨by rfl, ?_⟩) ?_ ?_
                      rotate_left
                      ·intro w'
                       go_simp
                       with_reducible rfl
                      rotate_left
                      ·simp only [Act.put, List.setIfInBounds_toArray, List.set_cons_zero, List.set_cons_succ, i64_w, i32_w]
                       rfl
                      refine pure_ (i := 18) (N := some 117) (v := ?_) (a' := ?_) #[true, true, true, true, true, true, true, true, true, true, true, true, true, true, true, true, true, true, true, false, false, false, false, false, false, false, false, false, false, false, false, false] rfl rfl (any_of HT_.out (by kernel_rfl)) (fun _ _ _ h => h) (Or.inl ⟨by rfl, ?_⟩) ?_ ?_
                      rotate_left
                      ·intro w'
                       go_simp
                       with_reducible rfl
                      rotate_left
                      ·simp only [Act.put, List.setIfInBounds_toArray, List.set_cons_zero, List.set_cons_succ, i64_w, i32_w]
                       rfl
                      refine pure_ (i := 19) (N := some 118) (v := ?_) (a' := ?_) #[true, true, true, true, true, true, true, true, true, true, true, true, true, true, true, true, true, true, true, true, false, false, false, false, false, false, false, false, false, false, false, false] rfl rfl (any_of HT_.out (by kernel_rfl)) (fun _ _ _ h => h) (Or.inl ⟨by rfl, ?_⟩) ?_ ?_
                      rotate_left
                      ·intro w'
                       go_simp
                       with_reducible rfl
                      rotate_left
                      ·simp only [Act.put, List.setIfInBounds_toArray, List.set_cons_zero, List.set_cons_succ, i64_w, i32_w]
                       rfl
                      refine pure_ (i := 21) (N := some 120) (v := ?_) (a' := ?_) #[true, true, true, true, true, true, true, true, true, true, true, true, true, true, true, true, true, true, true, true, false, true, false, false, false, false, false, false, false, false, false, false] rfl rfl (any_of HT_.out (by kernel_rfl)) (fun _ _ _ h => h) (Or.inl ⟨by rfl, ?_⟩) ?_ ?_
                      rotate_left
                      ·intro w'
                       go_simp
                       with_reducible rfl
                      rotate_left
                      ·simp only [Act.put, List.setIfInBounds_toArray, List.set_cons_zero, List.set_cons_succ, i64_w, i32_w]
                       rfl
                      refine pure_ (i := 23) (N := some 122) (v := ?_) (a' := ?_) #[true, true, true, true, true, true, true, true, true, true, true, true, true, true, true, true, true, true, true, true, false, true, false, true, false, false, false, false, false, false, false, false] rfl rfl (any_of HT_.out (by kernel_rfl)) (fun _ _ _ h => h) (Or.inl ⟨by rfl, ?_⟩) ?_ ?_
                      rotate_left
                      ·intro w'
                       go_simp
                       with_reducible rfl
                      rotate_left
                      ·simp only [Act.put, List.setIfInBounds_toArray, List.set_cons_zero, List.set_cons_succ, i64_w, i32_w]
                       rfl
                      refine pure_ (i := 25) (N := some 124) (v := ?_) (a' := ?_) #[true, true, true, true, true, true, true, true, true, true, true, true, true, true, true, true, true, true, true, true, false, true, false, true, false, true, false, false, false, false, false, false] rfl rfl (any_of HT_.out (by kernel_rfl)) (fun _ _ _ h => h) (Or.inl ⟨by rfl, ?_⟩) ?_ ?_
                      rotate_left
                      ·intro w'
                       go_simp
                       with_reducible rfl
                      rotate_left
                      ·simp only [Act.put, List.setIfInBounds_toArray, List.set_cons_zero, List.set_cons_succ, i64_w, i32_w]
                       rfl
                      refine take_ (i := 20) (N := some 119) (v := ?_) (a' := ?_) #[true, true, true, true, true, true, true, true, true, true, true, true, true, true, true, true, true, true, true, true, true, true, false, true, false, true, false, false, false, false, false, false] rfl rfl (take_ofW HT_.out HW_.out (by kernel_rfl)) (fun _ _ _ h => h) (Or.inl ⟨by rfl, ?_⟩) hHeld ?_ ?_
                      rotate_left
                      ·rintro w' ⟨s0, s1, s2, s3, s4, s5, s6, s7, s8, s9, s10⟩
                       go_simp
                       with_reducible rfl
                      rotate_left
                      ·simp only [Act.put, List.setIfInBounds_toArray, List.set_cons_zero, List.set_cons_succ, i64_w, i32_w]
                       rfl
                      refine pure_ (i := 22) (N := some 121) (v := ?_) (a' := ?_) #[true, true, true, true, true, true, true, true, true, true, true, true, true, true, true, true, true, true, true, true, true, true, true, true, false, true, false, false, false, false, false, false] rfl rfl (any_of HT_.out (by kernel_rfl)) (fun _ _ _ h => h) (Or.inl ⟨by rfl, ?_⟩) ?_ ?_
                      rotate_left
                      ·intro w'
                       go_simp
                       with_reducible rfl
                      rotate_left
                      ·simp only [Act.put, List.setIfInBounds_toArray, List.set_cons_zero, List.set_cons_succ, i64_w, i32_w]
                       rfl
                      refine take_ (i := 24) (N := some 123) (v := ?_) (a' := ?_) #[true, true, true, true, true, true, true, true, true, true, true, true, true, true, true, true, true, true, true, true, true, true, true, true, true, true, false, false, false, false, false, false] rfl rfl (take_ofW HT_.out HW_.out (by kernel_rfl)) (fun _ _ _ h => h) (Or.inl ⟨by rfl, ?_⟩) hHeld ?_ ?_
                      rotate_left
                      ·rintro w' ⟨s0, s1, s2, s3, s4, s5, s6, s7, s8, s9, s10⟩
                       go_simp
                       with_reducible rfl
                      rotate_left
                      ·simp only [Act.put, List.setIfInBounds_toArray, List.set_cons_zero, List.set_cons_succ, i64_w, i32_w]
                       rfl
                      refine pure_ (i := 26) (N := some 125) (v := ?_) (a' := ?_) #[true, true, true, true, true, true, true, true, true, true, true, true, true, true, true, true, true, true, true, true, true, true, true, true, true, true, true, false, false, false, false, false] rfl rfl (any_of HT_.out (by kernel_rfl)) (fun _ _ _ h => h) (Or.inl ⟨by rfl, ?_⟩) ?_ ?_
                      rotate_left
                      ·intro w'
                       go_simp
                       with_reducible rfl
                      rotate_left
                      ·simp only [Act.put, List.setIfInBounds_toArray, List.set_cons_zero, List.set_cons_succ, i64_w, i32_w]
                       rfl
                      refine pure_ (i := 27) (N := some 126) (v := ?_) (a' := ?_) #[true, true, true, true, true, true, true, true, true, true, true, true, true, true, true, true, true, true, true, true, true, true, true, true, true, true, true, true, false, false, false, false] rfl rfl (any_of HT_.out (by kernel_rfl)) (fun _ _ _ h => h) (Or.inl ⟨by rfl, ?_⟩) ?_ ?_
                      rotate_left
                      ·intro w'
                       go_simp
                       with_reducible rfl
                      rotate_left
                      ·simp only [Act.put, List.setIfInBounds_toArray, List.set_cons_zero, List.set_cons_succ, i64_w, i32_w]
                       rfl
                      refine take_ (i := 28) (N := some 127) (v := ?_) (a' := ?_) #[true, true, true, true, true, true, true, true, true, true, true, true, true, true, true, true, true, true, true, true, true, true, true, true, true, true, true, true, true, false, false, false] rfl rfl (take_ofW HT_.out HW_.out (by kernel_rfl)) (fun _ _ _ h => h) (Or.inl ⟨by rfl, ?_⟩) hHeld ?_ ?_
                      rotate_left
                      ·rintro w' ⟨s0, s1, s2, s3, s4, s5, s6, s7, s8, s9, s10⟩
                       go_simp
                       with_reducible rfl
                      rotate_left
                      ·simp only [Act.put, List.setIfInBounds_toArray, List.set_cons_zero, List.set_cons_succ, i64_w, i32_w]
                       rfl
                      refine one_ (i := 29) (N := some 128) #[true, true, true, true, true, true, true, true, true, true, true, true, true, true, true, true, true, true, true, true, true, true, true, true, true, true, true, true, true, true, false, false] rfl rfl (one_of HT_.out (by kernel_rfl)) (by decide) (fun K hK => ?_)
                      refine goes_ Tryd.func46 (by kernel_rfl) rfl #[.slice (some ad008) y011.length c004_3, .string ((rd_T53 ((rd_T44 l0 x3_2).f3) x5_5).f0)] (by rfl) rfl rfl (by (try simp only [List.map_toArray, List.map_cons, List.map_nil]); first | done | rfl | (simp only [List.length_drop, List.length_take]; rfl)) ?_
                      with_reducible refine (tinderref08_find.calls k5 _ _ y011 ((rd_T53 ((rd_T44 l0 x3_2).f3) x5_5).f0) t016 _ ?side1 ?side2 A41.out).mono ?_
                      (case side1 => repeat (first | exact (Kd.C_below HR014.out (by repeat (first | (with_reducible first | exact HB.out | apply below_alloc | apply pw_below_drewN | apply below_drew1 | refine below_set ?_ GE005.out) | exact HB.out))) | (with_reducible refine Kd.C_alloc ?_ _) | (with_reducible refine Kd.C_drewN ?_ _) | (with_reducible refine Kd.C_drew ?_)))
                      (case side2 => exact HC014.out)
                      rintro e w' ⟨rfl, ⟨nd, rfl⟩⟩
                      refine ⟨_, rfl, ?_⟩
                      refine hK.out _ _ ⟨(blk_cell BK005.out 0).trans rfl, (blk_cell BK005.out 1).trans rfl, (blk_cell BK005.out 2).trans rfl, (blk_cell BK005.out 3).trans rfl, (blk_cell BK005.out 4).trans rfl, ((HB.out.cell (World.block_lt_of_cell? w _ hw008_0)).trans hw008_0), ((HB.out.cell (World.block_lt_of_cell? w _ hw008_1)).trans hw008_1), ((HB.out.cell (World.block_lt_of_cell? w _ hw010_0)).trans hw010_0), ((HB.out.cell (World.block_lt_of_cell? w _ hw010_1)).trans hw010_1), ((HB.out.cell (World.block_lt_of_cell? w _ hw015_0)).trans hw015_0), ((HB.out.cell (World.block_lt_of_cell? w _ hw015_1)).trans hw015_1)⟩ (fun hHeld => ?_)
                      clear hK K
                      refine norm_ (a' := ?_) ?_ ?_
                      rotate_left
                      ·show Act.put _ (some 128) _ = _
                       simp only [Act.put, List.setIfInBounds_toArray, List.set_cons_zero, List.set_cons_succ, i64_w, i32_w]
                       rfl
                      refine pure_ (i := 30) (N := some 129) (v := ?_) (a' := ?_) #[true, true, true, true, true, true, true, true, true, true, true, true, true, true, true, true, true, true, true, true, true, true, true, true, true, true, true, true, true, true, true, false] rfl rfl (any_of HT_.out (by kernel_rfl)) (fun _ _ _ h => h) (Or.inl ⟨by rfl, ?_⟩) ?_ ?_
                      rotate_left
                      ·intro w'
                       go_simp
                       with_reducible rfl
                      rotate_left
                      ·simp only [Act.put, List.setIfInBounds_toArray, List.set_cons_zero, List.set_cons_succ, i64_w, i32_w]
                       rfl
                      refine pure_ (i := 31) (N := some 130) (v := ?_) (a' := ?_) #[true, true, true, true, true, true, true, true, true, true, true, true, true, true, true, true, true, true, true, true, true, true, true, true, true, true, true, true, true, true, true, true] rfl rfl (any_of HT_.out (by kernel_rfl)) (fun _ _ _ h => h) (Or.inl ⟨by rfl, ?_⟩) ?_ ?_
                      rotate_left
                      ·intro w'
                       go_simp
                       with_reducible rfl
                      rotate_left
                      ·simp only [Act.put, List.setIfInBounds_toArray, List.set_cons_zero, List.set_cons_succ, i64_w, i32_w]
                       rfl
                      refine done_ (done_of HT_.out (by kernel_rfl)) ?_
                      try go_wp2
                      go_ret
                      exact ⟨by first | rfl | (simp [errW_none, errW_some] <;> rfl) | (simp [*, errW_none, errW_some] <;> rfl), by repeat (first | (with_reducible first | exact HB.out | apply below_alloc | apply pw_below_drewN | apply below_drew1 | refine below_set ?_ GE005.out) | exact HB.out)⟩
                     ·rw [if_neg c42] at H
                      have c42b0 : decide (0 ≤ t016) = false := decide_eq_false c42
                      clear c42
                      have H' := Aside0.mk H
                      clear H
                      have hcz46_0 : wr.cell? ⟨gb005, 0, none⟩ = some (.string ((rd_T44 l0 x3_2).f0)) := (blk_cell BK005.out 0).trans rfl
                      have hcz46_1 : wr.cell? ⟨gb005, 1, none⟩ = some (.slice A004_1 ((rd_T44 l0 x3_2).f1).length c004_1) := (blk_cell BK005.out 1).trans rfl
                      have hcz46_2 : wr.cell? ⟨gb005, 2, none⟩ = some (.int .i64 ((rd_T44 l0 x3_2).f2)) := (blk_cell BK005.out 2).trans rfl
                      have hcz46_3 : wr.cell? ⟨gb005, 3, none⟩ = some (.slice A004_3 ((rd_T44 l0 x3_2).f3).length c004_3) := (blk_cell BK005.out 3).trans rfl
                      have hcz46_4 : wr.cell? ⟨gb005, 4, none⟩ = some (.slice A004_4 ((rd_T44 l0 x3_2).f4).length c004_4) := (blk_cell BK005.out 4).trans rfl
                      have hfz46_0 := blk_frozen BK005.out 0
                      have hfz46_1 := blk_frozen BK005.out 1
                      have hfz46_2 := blk_frozen BK005.out 2
                      have hfz46_3 := blk_frozen BK005.out 3
                      have hfz46_4 := blk_frozen BK005.out 4
                      try go_wp2
                      have n0_ := Aside0.mk (blk_drew BK005.out)
                      have n1_ := Aside0.mk (below_drew1 HB.out)
                      clear BK005
                      clear HB
                      have BK005 := n0_
                      have HB := n1_
                      clear n0_ n1_
                      have p008 : 0 ≤ (x5_5 : Int) := of_decide_eq_true (by first | (with_reducible assumption) | assumption)
                      have q008 : x5_5 < (((rd_T44 l0 x3_2).f3).length : Int) := of_decide_eq_true (by first | (with_reducible assumption) | assumption)
                      obtain ⟨ad008, A008_1, c008_1, e008, hx008_0, hx008_1, hl008_1, hi008_1⟩ := at_T53 HR004_3.out x5_5 p008 q008
                      have hw008_1 := hx008_1
                      have hw008_0 := hx008_0
                      cases e008
                      replace hx008_0 := (HB.out.cell (World.block_lt_of_cell? w _ hx008_0)).trans hx008_0
                      replace hx008_1 := (HB.out.cell (World.block_lt_of_cell? w _ hx008_1)).trans hx008_1
                      have HR008_1 := Aside0.mk hi008_1
                      have HC008_1 := Aside0.mk hl008_1
                      clear hi008_1 hl008_1
                      replace p008 := eq_true p008
                      replace q008 := eq_true q008
                      have p010 : 0 ≤ (x5_5 : Int) := of_decide_eq_true (by first | (with_reducible assumption) | assumption)
                      have q010 : x5_5 < (((rd_T44 l0 x3_2).f3).length : Int) := of_decide_eq_true (by first | (with_reducible assumption) | assumption)
                      obtain ⟨ad010, A010_1, c010_1, e010, hx010_0, hx010_1, hl010_1, hi010_1⟩ := at_T53 HR004_3.out x5_5 p010 q010
                      have hw010_1 := hx010_1
                      have hw010_0 := hx010_0
                      obtain rfl : ad008 = ad010 := (by injection e010)
                      replace hx010_0 := (HB.out.cell (World.block_lt_of_cell? w _ hx010_0)).trans hx010_0
                      replace hx010_1 := (HB.out.cell (World.block_lt_of_cell? w _ hx010_1)).trans hx010_1
                      have HR010_1 := Aside0.mk hi010_1
                      have HC010_1 := Aside0.mk hl010_1
                      clear hi010_1 hl010_1
                      replace p010 := eq_true p010
                      replace q010 := eq_true q010
                      have ea_ := Option.some.inj (hx008_1.symm.trans hx010_1)
                      injection ea_ with ea_ en_ ec_
                      subst ea_
                      subst ec_
                      clear en_
                      have p015 : 0 ≤ (x5_5 : Int) := of_decide_eq_true (by first | (with_reducible assumption) | assumption)
                      have q015 : x5_5 < (((rd_T44 l0 x3_2).f3).length : Int) := of_decide_eq_true (by first | (with_reducible assumption) | assumption)
                      obtain ⟨ad015, A015_1, c015_1, e015, hx015_0, hx015_1, hl015_1, hi015_1⟩ := at_T53 HR004_3.out x5_5 p015 q015
                      have hw015_1 := hx015_1
                      have hw015_0 := hx015_0
                      obtain rfl : ad008 = ad015 := (by injection e015)
                      replace hx015_0 := (HB.out.cell (World.block_lt_of_cell? w _ hx015_0)).trans hx015_0
                      replace hx015_1 := (HB.out.cell (World.block_lt_of_cell? w _ hx015_1)).trans hx015_1
                      have HR015_1 := Aside0.mk hi015_1
                      have HC015_1 := Aside0.mk hl015_1
                      clear hi015_1 hl015_1
                      replace p015 := eq_true p015
                      replace q015 := eq_true q015
                      have ea_ := Option.some.inj (hx008_1.symm.trans hx015_1)
                      injection ea_ with ea_ en_ ec_
                      subst ea_
                      subst ec_
                      clear en_
                      refine start_ (n := 32) (S := fun w' => w'.cell? ⟨gb005, 0, none⟩ = some (.string ((rd_T44 l0 x3_2).f0)) ∧ w'.cell? ⟨gb005, 1, none⟩ = some (.slice A004_1 ((rd_T44 l0 x3_2).f1).length c004_1) ∧ w'.cell? ⟨gb005, 2, none⟩ = some (.int .i64 ((rd_T44 l0 x3_2).f2)) ∧ w'.cell? ⟨gb005, 3, none⟩ = some (.slice (some ad008) ((rd_T44 l0 x3_2).f3).length c004_3) ∧ w'.cell? ⟨gb005, 4, none⟩ = some (.slice A004_4 ((rd_T44 l0 x3_2).f4).length c004_4) ∧ w'.cell? (ad008.add ((x5_5).toNat * 2)) = some (.string ((rd_T53 ((rd_T44 l0 x3_2).f3) x5_5).f0)) ∧ w'.cell? ⟨(ad008.add ((x5_5).toNat * 2)).block, (ad008.add ((x5_5).toNat * 2)).off + 1, none⟩ = some (.slice A008_1 ((rd_T53 ((rd_T44 l0 x3_2).f3) x5_5).f1).length c008_1) ∧ w'.cell? (ad008.add ((x5_5).toNat * 2)) = some (.string ((rd_T53 ((rd_T44 l0 x3_2).f3) x5_5).f0)) ∧ w'.cell? ⟨(ad008.add ((x5_5).toNat * 2)).block, (ad008.add ((x5_5).toNat * 2)).off + 1, none⟩ = some (.slice A008_1 ((rd_T53 ((rd_T44 l0 x3_2).f3) x5_5).f1).length c008_1) ∧ w'.cell? (ad008.add ((x5_5).toNat * 2)) = some (.string ((rd_T53 ((rd_T44 l0 x3_2).f3) x5_5).f0)) ∧ w'.cell? ⟨(ad008.add ((x5_5).toNat * 2)).block, (ad008.add ((x5_5).toNat * 2)).off + 1, none⟩ = some (.slice A008_1 ((rd_T53 ((rd_T44 l0 x3_2).f3) x5_5).f1).length c008_1)) (ds := []) #[false, false, false, false, false, false, false, false, false, false, false, false, false, false, false, false, false, false, false, false, false, false, false, false, false, false, false, false, false, false, false, false] (by kernel_rfl) rfl rfl ⟨(blk_cell BK005.out 0).trans rfl, (blk_cell BK005.out 1).trans rfl, (blk_cell BK005.out 2).trans rfl, (blk_cell BK005.out 3).trans rfl, (blk_cell BK005.out 4).trans rfl, ((HB.out.cell (World.block_lt_of_cell? w _ hw008_0)).trans hw008_0), ((HB.out.cell (World.block_lt_of_cell? w _ hw008_1)).trans hw008_1), ((HB.out.cell (World.block_lt_of_cell? w _ hw010_0)).trans hw010_0), ((HB.out.cell (World.block_lt_of_cell? w _ hw010_1)).trans hw010_1), ((HB.out.cell (World.block_lt_of_cell? w _ hw015_0)).trans hw015_0), ((HB.out.cell (World.block_lt_of_cell? w _ hw015_1)).trans hw015_1)⟩ (fun hHeld => ?_); refine with_tabW tinderref08_Formed.tab14 tinderref08_Formed.bits14 (fun HT_ HW_ => ?_)
                      generalize wr.drew = w47 at BK005 HB HR008_1 HR010_1 HR015_1 hx008_0 hx008_1 hx010_0 hx010_1 hx015_0 hx015_1 hHeld ⊢
                      refine pure_ (i := 0) (N := some 99) (v := ?_) (a' := ?_) #[true, false, false, false, false, false, false, false, false, false, false, false, false, false, false, false, false, false, false, false, false, false, false, false, false, false, false, false, false, false, false, false] rfl rfl (any_of HT_.out (by kernel_rfl)) (fun _ _ _ h => h) (Or.inl ⟨by rfl, ?_⟩) ?_ ?_
                      rotate_left
                      ·intro w'
                       go_simp
                       with_reducible rfl
                      rotate_left
                      ·simp only [Act.put, List.setIfInBounds_toArray, List.set_cons_zero, List.set_cons_succ, i64_w, i32_w]
                       rfl
                      refine pure_ (i := 2) (N := some 101) (v := ?_) (a' := ?_) #[true, false, true, false, false, false, false, false, false, false, false, false, false, false, false, false, false, false, false, false, false, false, false, false, false, false, false, false, false, false, false, false] rfl rfl (any_of HT_.out (by kernel_rfl)) (fun _ _ _ h => h) (Or.inl ⟨by rfl, ?_⟩) ?_ ?_
                      rotate_left
                      ·intro w'
                       go_simp
                       with_reducible rfl
                      rotate_left
                      ·simp only [Act.put, List.setIfInBounds_toArray, List.set_cons_zero, List.set_cons_succ, i64_w, i32_w]
                       rfl
                      refine take_ (i := 1) (N := some 100) (v := ?_) (a' := ?_) #[true, true, true, false, false, false, false, false, false, false, false, false, false, false, false, false, false, false, false, false, false, false, false, false, false, false, false, false, false, false, false, false] rfl rfl (take_ofW HT_.out HW_.out (by kernel_rfl)) (fun _ _ _ h => h) (Or.inl ⟨by rfl, ?_⟩) hHeld ?_ ?_
                      rotate_left
                      ·rintro w' ⟨s0, s1, s2, s3, s4, s5, s6, s7, s8, s9, s10⟩
                       go_simp
                       with_reducible rfl
                      rotate_left
                      ·simp only [Act.put, List.setIfInBounds_toArray, List.set_cons_zero, List.set_cons_succ, i64_w, i32_w]
                       rfl
                      refine pure_ (i := 3) (N := some 102) (v := ?_) (a' := ?_) #[true, true, true, true, false, false, false, false, false, false, false, false, false, false, false, false, false, false, false, false, false, false, false, false, false, false, false, false, false, false, false, false] rfl rfl (any_of HT_.out (by kernel_rfl)) (fun _ _ _ h => h) (Or.inl ⟨by rfl, ?_⟩) ?_ ?_
                      rotate_left
                      ·intro w'
                       go_simp
                       with_reducible rfl
                      rotate_left
                      ·simp only [Act.put, List.setIfInBounds_toArray, List.set_cons_zero, List.set_cons_succ, i64_w, i32_w]
                       rfl
                      refine pure_ (i := 4) (N := some 103) (v := ?_) (a' := ?_) #[true, true, true, true, true, false, false, false, false, false, false, false, false, false, false, false, false, false, false, false, false, false, false, false, false, false, false, false, false, false, false, false] rfl rfl (any_of HT_.out (by kernel_rfl)) (fun _ _ _ h => h) (Or.inl ⟨by rfl, ?_⟩) ?_ ?_
                      rotate_left
                      ·intro w'
                       go_simp
                       with_reducible rfl
                      rotate_left
                      ·simp only [Act.put, List.setIfInBounds_toArray, List.set_cons_zero, List.set_cons_succ, i64_w, i32_w]
                       rfl
                      refine take_ (i := 5) (N := some 104) (v := ?_) (a' := ?_) #[true, true, true, true, true, true, false, false, false, false, false, false, false, false, false, false, false, false, false, false, false, false, false, false, false, false, false, false, false, false, false, false] rfl rfl (take_ofW HT_.out HW_.out (by kernel_rfl)) (fun _ _ _ h => h) (Or.inl ⟨by rfl, ?_⟩) hHeld ?_ ?_
                      rotate_left
                      ·rintro w' ⟨s0, s1, s2, s3, s4, s5, s6, s7, s8, s9, s10⟩
                       go_simp
                       with_reducible rfl
                      rotate_left
                      ·simp only [Act.put, List.setIfInBounds_toArray, List.set_cons_zero, List.set_cons_succ, i64_w, i32_w]
                       rfl
                      refine one_ (i := 6) (N := some 105) #[true, true, true, true, true, true, true, false, false, false, false, false, false, false, false, false, false, false, false, false, false, false, false, false, false, false, false, false, false, false, false, false] rfl rfl (one_of HT_.out (by kernel_rfl)) (by decide) (fun K hK => ?_)
                      refine goes_ Tryd.func44 (by kernel_rfl) rfl #[.string ((rd_T53 ((rd_T44 l0 x3_2).f3) x5_5).f0)] (by rfl) rfl rfl (by (try simp only [List.map_toArray, List.map_cons, List.map_nil]); first | done | rfl | (simp only [List.length_drop, List.length_take]; rfl)) ?_
                      with_reducible refine (tinderref05_Named.calls k5 ((rd_T53 ((rd_T44 l0 x3_2).f3) x5_5).f0) true _ A34.out).mono ?_
                      rintro e w' ⟨rfl, ⟨nd, rfl⟩⟩
                      refine ⟨_, rfl, ?_⟩
                      have q48 : (x5_5 : Int) ≤ ((((rd_T44 l0 x3_2).f3).length : Int) : Int) := of_decide_eq_true (by first | (with_reducible assumption) | assumption)
                      obtain ⟨i048, hi048, _, hsz48, _⟩ := info_parts info53
                      have hroom48 : ((rd_T44 l0 x3_2).f3).length ≤ c004_3 := HC004_3.out
                      have hC48 : Kd.C k53 _ (some ad008) ((rd_T44 l0 x3_2).f3).length ((rd_T44 l0 x3_2).f3) := HR004_3.out
                      have hcut48 := cut_to (P := Tryd.prog) 42 53 .i64 Tryd.underlying42 hi048 (some ad008) ((rd_T44 l0 x3_2).f3).length c004_3 x5_5 (of_decide_eq_true (by first | (with_reducible assumption) | assumption)) q48 hroom48
                      have hr48 := Kd.C_take (m := (x5_5 : Int).toNat) hC48 (by omega)
                      have hy48 : y011.length = (x5_5 : Int).toNat := (by rw [Ny011.out, List.length_take]; omega)
                      rw [← Ny011.out] at hr48
                      rw [← hy48] at hcut48
                      have HR014 := Aside0.mk hr48
                      have HC014 := Aside0.mk (show y011.length ≤ c004_3 from by omega)
                      clear hr48 hC48 hroom48 hi048 hsz48
                      have KY48 := Aside0.mk hy48
                      clear hy48
                      replace q48 := eq_true q48
                      refine hK.out _ _ ⟨(blk_cell BK005.out 0).trans rfl, (blk_cell BK005.out 1).trans rfl, (blk_cell BK005.out 2).trans rfl, (blk_cell BK005.out 3).trans rfl, (blk_cell BK005.out 4).trans rfl, ((HB.out.cell (World.block_lt_of_cell? w _ hw008_0)).trans hw008_0), ((HB.out.cell (World.block_lt_of_cell? w _ hw008_1)).trans hw008_1), ((HB.out.cell (World.block_lt_of_cell? w _ hw010_0)).trans hw010_0), ((HB.out.cell (World.block_lt_of_cell? w _ hw010_1)).trans hw010_1), ((HB.out.cell (World.block_lt_of_cell? w _ hw015_0)).trans hw015_0), ((HB.out.cell (World.block_lt_of_cell? w _ hw015_1)).trans hw015_1)⟩ (fun hHeld => ?_)
                      clear hK K
                      refine norm_ (a' := ?_) ?_ ?_
                      rotate_left
                      ·show Act.put _ (some 105) _ = _
                       simp only [Act.put, List.setIfInBounds_toArray, List.set_cons_zero, List.set_cons_succ, i64_w, i32_w]
                       rfl
                      refine pure_ (i := 7) (N := some 106) (v := ?_) (a' := ?_) #[true, true, true, true, true, true, true, true, false, false, false, false, false, false, false, false, false, false, false, false, false, false, false, false, false, false, false, false, false, false, false, false] rfl rfl (any_of HT_.out (by kernel_rfl)) (fun _ _ _ h => h) (Or.inl ⟨by rfl, ?_⟩) ?_ ?_
                      rotate_left
                      ·intro w'
                       go_simp
                       with_reducible rfl
                      rotate_left
                      ·simp only [Act.put, List.setIfInBounds_toArray, List.set_cons_zero, List.set_cons_succ, i64_w, i32_w]
                       rfl
                      refine pure_ (i := 8) (N := some 107) (v := ?_) (a' := ?_) #[true, true, true, true, true, true, true, true, true, false, false, false, false, false, false, false, false, false, false, false, false, false, false, false, false, false, false, false, false, false, false, false] rfl rfl (any_of HT_.out (by kernel_rfl)) (fun _ _ _ h => h) (Or.inl ⟨by rfl, ?_⟩) ?_ ?_
                      rotate_left
                      ·intro w'
                       go_simp
                       with_reducible rfl
                      rotate_left
                      ·simp only [Act.put, List.setIfInBounds_toArray, List.set_cons_zero, List.set_cons_succ, i64_w, i32_w]
                       rfl
                      refine pure_ (i := 9) (N := some 108) (v := ?_) (a' := ?_) #[true, true, true, true, true, true, true, true, true, true, false, false, false, false, false, false, false, false, false, false, false, false, false, false, false, false, false, false, false, false, false, false] rfl rfl (any_of HT_.out (by kernel_rfl)) (fun _ _ _ h => h) (Or.inl ⟨by rfl, ?_⟩) ?_ ?_
                      rotate_left
                      ·intro w'
                       go_simp
                       with_reducible rfl
                      rotate_left
                      ·simp only [Act.put, List.setIfInBounds_toArray, List.set_cons_zero, List.set_cons_succ, i64_w, i32_w]
                       rfl
                      refine pure_ (i := 11) (N := some 110) (v := ?_) (a' := ?_) #[true, true, true, true, true, true, true, true, true, true, false, true, false, false, false, false, false, false, false, false, false, false, false, false, false, false, false, false, false, false, false, false] rfl rfl (any_of HT_.out (by kernel_rfl)) (fun _ _ _ h => h) (Or.inl ⟨by rfl, ?_⟩) ?_ ?_
                      rotate_left
                      ·intro w'
                       go_simp
                       with_reducible rfl
                      rotate_left
                      ·simp only [Act.put, List.setIfInBounds_toArray, List.set_cons_zero, List.set_cons_succ, i64_w, i32_w]
                       rfl
                      refine take_ (i := 10) (N := some 109) (v := ?_) (a' := ?_) #[true, true, true, true, true, true, true, true, true, true, true, true, false, false, false, false, false, false, false, false, false, false, false, false, false, false, false, false, false, false, false, false] rfl rfl (take_ofW HT_.out HW_.out (by kernel_rfl)) (fun _ _ _ h => h) (Or.inl ⟨by rfl, ?_⟩) hHeld ?_ ?_
                      rotate_left
                      ·rintro w' ⟨s0, s1, s2, s3, s4, s5, s6, s7, s8, s9, s10⟩
                       go_simp
                       with_reducible rfl
                      rotate_left
                      ·simp only [Act.put, List.setIfInBounds_toArray, List.set_cons_zero, List.set_cons_succ, i64_w, i32_w]
                       rfl
                      refine pure_ (i := 12) (N := some 111) (v := ?_) (a' := ?_) #[true, true, true, true, true, true, true, true, true, true, true, true, true, false, false, false, false, false, false, false, false, false, false, false, false, false, false, false, false, false, false, false] rfl rfl (any_of HT_.out (by kernel_rfl)) (fun _ _ _ h => h) (Or.inl ⟨by rfl, ?_⟩) ?_ ?_
                      rotate_left
                      ·intro w'
                       go_simp
                       with_reducible rfl
                      rotate_left
                      ·simp only [Act.put, List.setIfInBounds_toArray, List.set_cons_zero, List.set_cons_succ, i64_w, i32_w]
                       rfl
                      refine pure_ (i := 13) (N := some 112) (v := ?_) (a' := ?_) #[true, true, true, true, true, true, true, true, true, true, true, true, true, true, false, false, false, false, false, false, false, false, false, false, false, false, false, false, false, false, false, false] rfl rfl (any_of HT_.out (by kernel_rfl)) (fun _ _ _ h => h) (Or.inl ⟨by rfl, ?_⟩) ?_ ?_
                      rotate_left
                      ·intro w'
                       go_simp
                       with_reducible rfl
                      rotate_left
                      ·simp only [Act.put, List.setIfInBounds_toArray, List.set_cons_zero, List.set_cons_succ, i64_w, i32_w]
                       rfl
                      refine take_ (i := 14) (N := some 113) (v := ?_) (a' := ?_) #[true, true, true, true, true, true, true, true, true, true, true, true, true, true, true, false, false, false, false, false, false, false, false, false, false, false, false, false, false, false, false, false] rfl rfl (take_ofW HT_.out HW_.out (by kernel_rfl)) (fun _ _ _ h => h) (Or.inl ⟨by rfl, ?_⟩) hHeld ?_ ?_
                      rotate_left
                      ·rintro w' ⟨s0, s1, s2, s3, s4, s5, s6, s7, s8, s9, s10⟩
                       go_simp
                       with_reducible rfl
                      rotate_left
                      ·simp only [Act.put, List.setIfInBounds_toArray, List.set_cons_zero, List.set_cons_succ, i64_w, i32_w]
                       rfl
                      refine pure_ (i := 15) (N := some 114) (v := ?_) (a' := ?_) #[true, true, true, true, true, true, true, true, true, true, true, true, true, true, true, true, false, false, false, false, false, false, false, false, false, false, false, false, false, false, false, false] rfl rfl (any_of HT_.out (by kernel_rfl)) (fun _ _ _ h => h) (Or.inl ⟨by rfl, ?_⟩) ?_ ?_
                      rotate_left
                      ·intro w'
                       go_simp
                       with_reducible rfl
                      rotate_left
                      ·simp only [Act.put, List.setIfInBounds_toArray, List.set_cons_zero, List.set_cons_succ, i64_w, i32_w]
                       rfl
                      refine pure_ (i := 16) (N := some 115) (v := ?_) (a' := ?_) #[true, true, true, true, true, true, true, true, true, true, true, true, true, true, true, true, true, false, false, false, false, false, false, false, false, false, false, false, false, false, false, false] rfl rfl (any_of HT_.out (by kernel_rfl)) (fun _ _ _ h => h) (Or.inl ⟨by rfl, ?_⟩) ?_ ?_
                      rotate_left
                      ·intro w'
                       go_simp
                       with_reducible rfl
                      rotate_left
                      ·simp only [Act.put, List.setIfInBounds_toArray, List.set_cons_zero, List.set_cons_succ, i64_w, i32_w]
                       rfl
                      refine pure_ (i := 17) (N := some 116) (v := ?_) (a' := ?_) #[true, true, true, true, true, true, true, true, true, true, true, true, true, true, true, true, true, true, false, false, false, false, false, false, false, false, false, false, false, false, false, false] rfl rfl (any_of HT_.out (by kernel_rfl)) (fun _ _ _ h => h) (Or.inl ⟨by rfl, ?_⟩) ?_ ?_
                      rotate_left
                      ·intro w'
                       go_simp
                       with_reducible rfl
                      rotate_left
                      ·simp only [Act.put, List.setIfInBounds_toArray, List.set_cons_zero, List.set_cons_succ, i64_w, i32_w]
                       rfl
                      refine pure_ (i := 18) (N := some 117) (v := ?_) (a' := ?_) #[true, true, true, true, true, true, true, true, true, true, true, true, true, true, true, true, true, true, true, false, false, false, false, false, false, false, false, false, false, false, false, false] rfl rfl (any_of HT_.out (by kernel_rfl)) (fun _ _ _ h => h) (Or.inl ⟨by rfl, ?_⟩) ?_ ?_
                      rotate_left
                      ·intro w'
                       go_simp
                       with_reducible rfl
                      rotate_left
                      ·simp only [Act.put, List.setIfInBounds_toArray, List.set_cons_zero, List.set_cons_succ, i64_w, i32_w]
                       rfl
                      refine pure_ (i := 19) (N := some 118) (v := ?_) (a' := ?_) #[true, true, true, true, true, true, true, true, true, true, true, true, true, true, true, true, true, true, true, true, false, false, false, false, false, false, false, false, false, false, false, false] rfl rfl (any_of HT_.out (by kernel_rfl)) (fun _ _ _ h => h) (Or.inl ⟨by rfl, ?_⟩) ?_ ?_
                      rotate_left
                      ·intro w'
                       go_simp
                       with_reducible rfl
                      rotate_left
                      ·simp only [Act.put, List.setIfInBounds_toArray, List.set_cons_zero, List.set_cons_succ, i64_w, i32_w]
                       rfl
                      refine pure_ (i := 21) (N := some 120) (v := ?_) (a' := ?_) #[true, true, true, true, true, true, true, true, true, true, true, true, true, true, true, true, true, true, true, true, false, true, false, false, false, false, false, false, false, false, false, false] rfl rfl (any_of HT_.out (by kernel_rfl)) (fun _ _ _ h => h) (Or.inl ⟨by rfl, ?_⟩) ?_ ?_
                      rotate_left
                      ·intro w'
                       go_simp
                       with_reducible rfl
                      rotate_left
                      ·simp only [Act.put, List.setIfInBounds_toArray, List.set_cons_zero, List.set_cons_succ, i64_w, i32_w]
                       rfl
                      refine pure_ (i := 23) (N := some 122) (v := ?_) (a' := ?_) #[true, true, true, true, true, true, true, true, true, true, true, true, true, true, true, true, true, true, true, true, false, true, false, true, false, false, false, false, false, false, false, false] rfl rfl (any_of HT_.out (by kernel_rfl)) (fun _ _ _ h => h) (Or.inl ⟨by rfl, ?_⟩) ?_ ?_
                      rotate_left
                      ·intro w'
                       go_simp
                       with_reducible rfl
                      rotate_left
                      ·simp only [Act.put, List.setIfInBounds_toArray, List.set_cons_zero, List.set_cons_succ, i64_w, i32_w]
                       rfl
                      refine pure_ (i := 25) (N := some 124) (v := ?_) (a' := ?_) #[true, true, true, true, true, true, true, true, true, true, true, true, true, true, true, true, true, true, true, true, false, true, false, true, false, true, false, false, false, false, false, false] rfl rfl (any_of HT_.out (by kernel_rfl)) (fun _ _ _ h => h) (Or.inl ⟨by rfl, ?_⟩) ?_ ?_
                      rotate_left
                      ·intro w'
                       go_simp
                       with_reducible rfl
                      rotate_left
                      ·simp only [Act.put, List.setIfInBounds_toArray, List.set_cons_zero, List.set_cons_succ, i64_w, i32_w]
                       rfl
                      refine take_ (i := 20) (N := some 119) (v := ?_) (a' := ?_) #[true, true, true, true, true, true, true, true, true, true, true, true, true, true, true, true, true, true, true, true, true, true, false, true, false, true, false, false, false, false, false, false] rfl rfl (take_ofW HT_.out HW_.out (by kernel_rfl)) (fun _ _ _ h => h) (Or.inl ⟨by rfl, ?_⟩) hHeld ?_ ?_
                      rotate_left
                      ·rintro w' ⟨s0, s1, s2, s3, s4, s5, s6, s7, s8, s9, s10⟩
                       go_simp
                       with_reducible rfl
                      rotate_left
                      ·simp only [Act.put, List.setIfInBounds_toArray, List.set_cons_zero, List.set_cons_succ, i64_w, i32_w]
                       rfl
                      refine pure_ (i := 22) (N := some 121) (v := ?_) (a' := ?_) #[true, true, true, true, true, true, true, true, true, true, true, true, true, true, true, true, true, true, true, true, true, true, true, true, false, true, false, false, false, false, false, false] rfl rfl (any_of HT_.out (by kernel_rfl)) (fun _ _ _ h => h) (Or.inl ⟨by rfl, ?_⟩) ?_ ?_
                      rotate_left
                      ·intro w'
                       go_simp
                       with_reducible rfl
                      rotate_left
                      ·simp only [Act.put, List.setIfInBounds_toArray, List.set_cons_zero, List.set_cons_succ, i64_w, i32_w]
                       rfl
                      refine take_ (i := 24) (N := some 123) (v := ?_) (a' := ?_) #[true, true, true, true, true, true, true, true, true, true, true, true, true, true, true, true, true, true, true, true, true, true, true, true, true, true, false, false, false, false, false, false] rfl rfl (take_ofW HT_.out HW_.out (by kernel_rfl)) (fun _ _ _ h => h) (Or.inl ⟨by rfl, ?_⟩) hHeld ?_ ?_
                      rotate_left
                      ·rintro w' ⟨s0, s1, s2, s3, s4, s5, s6, s7, s8, s9, s10⟩
                       go_simp
                       with_reducible rfl
                      rotate_left
                      ·simp only [Act.put, List.setIfInBounds_toArray, List.set_cons_zero, List.set_cons_succ, i64_w, i32_w]
                       rfl
                      refine pure_ (i := 26) (N := some 125) (v := ?_) (a' := ?_) #[true, true, true, true, true, true, true, true, true, true, true, true, true, true, true, true, true, true, true, true, true, true, true, true, true, true, true, false, false, false, false, false] rfl rfl (any_of HT_.out (by kernel_rfl)) (fun _ _ _ h => h) (Or.inl ⟨by rfl, ?_⟩) ?_ ?_
                      rotate_left
                      ·intro w'
                       go_simp
                       with_reducible rfl
                      rotate_left
                      ·simp only [Act.put, List.setIfInBounds_toArray, List.set_cons_zero, List.set_cons_succ, i64_w, i32_w]
                       rfl
                      refine pure_ (i := 27) (N := some 126) (v := ?_) (a' := ?_) #[true, true, true, true, true, true, true, true, true, true, true, true, true, true, true, true, true, true, true, true, true, true, true, true, true, true, true, true, false, false, false, false] rfl rfl (any_of HT_.out (by kernel_rfl)) (fun _ _ _ h => h) (Or.inl ⟨by rfl, ?_⟩) ?_ ?_
                      rotate_left
                      ·intro w'
                       go_simp
                       with_reducible rfl
                      rotate_left
                      ·simp only [Act.put, List.setIfInBounds_toArray, List.set_cons_zero, List.set_cons_succ, i64_w, i32_w]
                       rfl
                      refine take_ (i := 28) (N := some 127) (v := ?_) (a' := ?_) #[true, true, true, true, true, true, true, true, true, true, true, true, true, true, true, true, true, true, true, true, true, true, true, true, true, true, true, true, true, false, false, false] rfl rfl (take_ofW HT_.out HW_.out (by kernel_rfl)) (fun _ _ _ h => h) (Or.inl ⟨by rfl, ?_⟩) hHeld ?_ ?_
                      rotate_left
                      ·rintro w' ⟨s0, s1, s2, s3, s4, s5, s6, s7, s8, s9, s10⟩
                       go_simp
                       with_reducible rfl
                      rotate_left
                      ·simp only [Act.put, List.setIfInBounds_toArray, List.set_cons_zero, List.set_cons_succ, i64_w, i32_w]
                       rfl
                      refine one_ (i := 29) (N := some 128) #[true, true, true, true, true, true, true, true, true, true, true, true, true, true, true, true, true, true, true, true, true, true, true, true, true, true, true, true, true, true, false, false] rfl rfl (one_of HT_.out (by kernel_rfl)) (by decide) (fun K hK => ?_)
                      refine goes_ Tryd.func46 (by kernel_rfl) rfl #[.slice (some ad008) y011.length c004_3, .string ((rd_T53 ((rd_T44 l0 x3_2).f3) x5_5).f0)] (by rfl) rfl rfl (by (try simp only [List.map_toArray, List.map_cons, List.map_nil]); first | done | rfl | (simp only [List.length_drop, List.length_take]; rfl)) ?_
                      with_reducible refine (tinderref08_find.calls k5 _ _ y011 ((rd_T53 ((rd_T44 l0 x3_2).f3) x5_5).f0) t016 _ ?side1 ?side2 A41.out).mono ?_
                      (case side1 => repeat (first | exact (Kd.C_below HR014.out (by repeat (first | (with_reducible first | exact HB.out | apply below_alloc | apply pw_below_drewN | apply below_drew1 | refine below_set ?_ GE005.out) | exact HB.out))) | (with_reducible refine Kd.C_alloc ?_ _) | (with_reducible refine Kd.C_drewN ?_ _) | (with_reducible refine Kd.C_drew ?_)))
                      (case side2 => exact HC014.out)
                      rintro e w' ⟨rfl, ⟨nd, rfl⟩⟩
                      refine ⟨_, rfl, ?_⟩
                      refine hK.out _ _ ⟨(blk_cell BK005.out 0).trans rfl, (blk_cell BK005.out 1).trans rfl, (blk_cell BK005.out 2).trans rfl, (blk_cell BK005.out 3).trans rfl, (blk_cell BK005.out 4).trans rfl, ((HB.out.cell (World.block_lt_of_cell? w _ hw008_0)).trans hw008_0), ((HB.out.cell (World.block_lt_of_cell? w _ hw008_1)).trans hw008_1), ((HB.out.cell (World.block_lt_of_cell? w _ hw010_0)).trans hw010_0), ((HB.out.cell (World.block_lt_of_cell? w _ hw010_1)).trans hw010_1), ((HB.out.cell (World.block_lt_of_cell? w _ hw015_0)).trans hw015_0), ((HB.out.cell (World.block_lt_of_cell? w _ hw015_1)).trans hw015_1)⟩ (fun hHeld => ?_)
                      clear hK K
                      refine norm_ (a' := ?_) ?_ ?_
                      rotate_left
                      ·show Act.put _ (some 128) _ = _
                       simp only [Act.put, List.setIfInBounds_toArray, List.set_cons_zero, List.set_cons_succ, i64_w, i32_w]
                       rfl
                      refine pure_ (i := 30) (N := some 129) (v := ?_) (a' := ?_) #[true, true, true, true, true, true, true, true, true, true, true, true, true, true, true, true, true, true, true, true, true, true, true, true, true, true, true, true, true, true, true, false] rfl rfl (any_of HT_.out (by kernel_rfl)) (fun _ _ _ h => h) (Or.inl ⟨by rfl, ?_⟩) ?_ ?_
                      rotate_left
                      ·intro w'
                       go_simp
                       with_reducible rfl
                      rotate_left
                      ·simp only [Act.put, List.setIfInBounds_toArray, List.set_cons_zero, List.set_cons_succ, i64_w, i32_w]
                       rfl
                      refine pure_ (i := 31) (N := some 130) (v := ?_) (a' := ?_) #[true, true, true, true, true, true, true, true, true, true, true, true, true, true, true, true, true, true, true, true, true, true, true, true, true, true, true, true, true, true, true, true] rfl rfl (any_of HT_.out (by kernel_rfl)) (fun _ _ _ h => h) (Or.inl ⟨by rfl, ?_⟩) ?_ ?_
                      rotate_left
                      ·intro w'
                       go_simp
                       with_reducible rfl
                      rotate_left
                      ·simp only [Act.put, List.setIfInBounds_toArray, List.set_cons_zero, List.set_cons_succ, i64_w, i32_w]
                       rfl
                      refine done_ (done_of HT_.out (by kernel_rfl)) ?_
                      try go_wp2
                      go_roundg k5
                      case measure => have := HJ1.out; have := HK2.out; have := HJ10.out; have := HJ26.out; have := HK5.out; omega
                      case rel => exact ⟨(wrap64 (x5_5 + 1)), (by first | rfl | (simp; done) | (simp [*]; done)), H', ⟨by have := HJ1.out; have := HK2.out; have := HJ10.out; have := HJ26.out; have := HK5.out; omega⟩, ⟨by (with_reducible repeat (first | refine blk_drewN ?_ _ | refine blk_drew ?_ | refine blk_alloc ?_ _)); exact BK005.out⟩, ⟨by repeat (first | (with_reducible first | exact HB.out | apply below_alloc | apply pw_below_drewN | apply below_drew1 | refine below_set ?_ GE005.out) | exact HB.out)⟩⟩
                    ·rw [if_neg c40] at H
                     exact absurd H (by simp)
                  ·replace c35 := Bool.eq_false_iff.mpr c35
                   subst c35
                   have H1 : (some false) = some r := by rw [if_neg (show ¬ (false = true) by decide)] at H; exact H
                   clear H
                   have H := H1
                   clear H1
                   obtain rfl := Option.some.inj H
                   have hcz49_0 : wr.cell? ⟨gb005, 0, none⟩ = some (.string ((rd_T44 l0 x3_2).f0)) := (blk_cell BK005.out 0).trans rfl
                   have hcz49_1 : wr.cell? ⟨gb005, 1, none⟩ = some (.slice A004_1 ((rd_T44 l0 x3_2).f1).length c004_1) := (blk_cell BK005.out 1).trans rfl
                   have hcz49_2 : wr.cell? ⟨gb005, 2, none⟩ = some (.int .i64 ((rd_T44 l0 x3_2).f2)) := (blk_cell BK005.out 2).trans rfl
                   have hcz49_3 : wr.cell? ⟨gb005, 3, none⟩ = some (.slice A004_3 ((rd_T44 l0 x3_2).f3).length c004_3) := (blk_cell BK005.out 3).trans rfl
                   have hcz49_4 : wr.cell? ⟨gb005, 4, none⟩ = some (.slice A004_4 ((rd_T44 l0 x3_2).f4).length c004_4) := (blk_cell BK005.out 4).trans rfl
                   have hfz49_0 := blk_frozen BK005.out 0
                   have hfz49_1 := blk_frozen BK005.out 1
                   have hfz49_2 := blk_frozen BK005.out 2
                   have hfz49_3 := blk_frozen BK005.out 3
                   have hfz49_4 := blk_frozen BK005.out 4
                   try go_wp2
                   have n0_ := Aside0.mk (blk_drew BK005.out)
                   have n1_ := Aside0.mk (below_drew1 HB.out)
                   clear BK005
                   clear HB
                   have BK005 := n0_
                   have HB := n1_
                   clear n0_ n1_
                   have p008 : 0 ≤ (x5_5 : Int) := of_decide_eq_true (by first | (with_reducible assumption) | assumption)
                   have q008 : x5_5 < (((rd_T44 l0 x3_2).f3).length : Int) := of_decide_eq_true (by first | (with_reducible assumption) | assumption)
                   obtain ⟨ad008, A008_1, c008_1, e008, hx008_0, hx008_1, hl008_1, hi008_1⟩ := at_T53 HR004_3.out x5_5 p008 q008
                   have hw008_1 := hx008_1
                   have hw008_0 := hx008_0
                   cases e008
                   replace hx008_0 := (HB.out.cell (World.block_lt_of_cell? w _ hx008_0)).trans hx008_0
                   replace hx008_1 := (HB.out.cell (World.block_lt_of_cell? w _ hx008_1)).trans hx008_1
                   have HR008_1 := Aside0.mk hi008_1
                   have HC008_1 := Aside0.mk hl008_1
                   clear hi008_1 hl008_1
                   replace p008 := eq_true p008
                   replace q008 := eq_true q008
                   refine start_ (n := 32) (S := fun w' => w'.cell? ⟨gb005, 0, none⟩ = some (.string ((rd_T44 l0 x3_2).f0)) ∧ w'.cell? ⟨gb005, 1, none⟩ = some (.slice A004_1 ((rd_T44 l0 x3_2).f1).length c004_1) ∧ w'.cell? ⟨gb005, 2, none⟩ = some (.int .i64 ((rd_T44 l0 x3_2).f2)) ∧ w'.cell? ⟨gb005, 3, none⟩ = some (.slice (some ad008) ((rd_T44 l0 x3_2).f3).length c004_3) ∧ w'.cell? ⟨gb005, 4, none⟩ = some (.slice A004_4 ((rd_T44 l0 x3_2).f4).length c004_4) ∧ w'.cell? (ad008.add ((x5_5).toNat * 2)) = some (.string ((rd_T53 ((rd_T44 l0 x3_2).f3) x5_5).f0)) ∧ w'.cell? ⟨(ad008.add ((x5_5).toNat * 2)).block, (ad008.add ((x5_5).toNat * 2)).off + 1, none⟩ = some (.slice A008_1 ((rd_T53 ((rd_T44 l0 x3_2).f3) x5_5).f1).length c008_1)) (ds := []) #[false, false, false, false, false, false, false, false, false, false, false, false, false, false, false, false, false, false, false, false, false, false, false, false, false, false, false, false, false, false, false, false] (by kernel_rfl) rfl rfl ⟨(blk_cell BK005.out 0).trans rfl, (blk_cell BK005.out 1).trans rfl, (blk_cell BK005.out 2).trans rfl, (blk_cell BK005.out 3).trans rfl, (blk_cell BK005.out 4).trans rfl, ((HB.out.cell (World.block_lt_of_cell? w _ hw008_0)).trans hw008_0), ((HB.out.cell (World.block_lt_of_cell? w _ hw008_1)).trans hw008_1)⟩ (fun hHeld => ?_); refine with_tabW tinderref08_Formed.tab14 tinderref08_Formed.bits14 (fun HT_ HW_ => ?_)
                   generalize wr.drew = w50 at BK005 HB HR008_1 hx008_0 hx008_1 hHeld ⊢
                   refine pure_ (i := 0) (N := some 99) (v := ?_) (a' := ?_) #[true, false, false, false, false, false, false, false, false, false, false, false, false, false, false, false, false, false, false, false, false, false, false, false, false, false, false, false, false, false, false, false] rfl rfl (any_of HT_.out (by kernel_rfl)) (fun _ _ _ h => h) (Or.inl ⟨by rfl, ?_⟩) ?_ ?_
                   rotate_left
                   ·intro w'
                    go_simp
                    with_reducible rfl
                   rotate_left
                   ·simp only [Act.put, List.setIfInBounds_toArray, List.set_cons_zero, List.set_cons_succ, i64_w, i32_w]
                    rfl
                   refine pure_ (i := 2) (N := some 101) (v := ?_) (a' := ?_) #[true, false, true, false, false, false, false, false, false, false, false, false, false, false, false, false, false, false, false, false, false, false, false, false, false, false, false, false, false, false, false, false] rfl rfl (any_of HT_.out (by kernel_rfl)) (fun _ _ _ h => h) (Or.inl ⟨by rfl, ?_⟩) ?_ ?_
                   rotate_left
                   ·intro w'
                    go_simp
                    with_reducible rfl
                   rotate_left
                   ·simp only [Act.put, List.setIfInBounds_toArray, List.set_cons_zero, List.set_cons_succ, i64_w, i32_w]
                    rfl
                   refine take_ (i := 1) (N := some 100) (v := ?_) (a' := ?_) #[true, true, true, false, false, false, false, false, false, false, false, false, false, false, false, false, false, false, false, false, false, false, false, false, false, false, false, false, false, false, false, false] rfl rfl (take_ofW HT_.out HW_.out (by kernel_rfl)) (fun _ _ _ h => h) (Or.inl ⟨by rfl, ?_⟩) hHeld ?_ ?_
                   rotate_left
                   ·rintro w' ⟨s0, s1, s2, s3, s4, s5, s6⟩
                    go_simp
                    with_reducible rfl
                   rotate_left
                   ·simp only [Act.put, List.setIfInBounds_toArray, List.set_cons_zero, List.set_cons_succ, i64_w, i32_w]
                    rfl
                   refine pure_ (i := 3) (N := some 102) (v := ?_) (a' := ?_) #[true, true, true, true, false, false, false, false, false, false, false, false, false, false, false, false, false, false, false, false, false, false, false, false, false, false, false, false, false, false, false, false] rfl rfl (any_of HT_.out (by kernel_rfl)) (fun _ _ _ h => h) (Or.inl ⟨by rfl, ?_⟩) ?_ ?_
                   rotate_left
                   ·intro w'
                    go_simp
                    with_reducible rfl
                   rotate_left
                   ·simp only [Act.put, List.setIfInBounds_toArray, List.set_cons_zero, List.set_cons_succ, i64_w, i32_w]
                    rfl
                   refine pure_ (i := 4) (N := some 103) (v := ?_) (a' := ?_) #[true, true, true, true, true, false, false, false, false, false, false, false, false, false, false, false, false, false, false, false, false, false, false, false, false, false, false, false, false, false, false, false] rfl rfl (any_of HT_.out (by kernel_rfl)) (fun _ _ _ h => h) (Or.inl ⟨by rfl, ?_⟩) ?_ ?_
                   rotate_left
                   ·intro w'
                    go_simp
                    with_reducible rfl
                   rotate_left
                   ·simp only [Act.put, List.setIfInBounds_toArray, List.set_cons_zero, List.set_cons_succ, i64_w, i32_w]
                    rfl
                   refine take_ (i := 5) (N := some 104) (v := ?_) (a' := ?_) #[true, true, true, true, true, true, false, false, false, false, false, false, false, false, false, false, false, false, false, false, false, false, false, false, false, false, false, false, false, false, false, false] rfl rfl (take_ofW HT_.out HW_.out (by kernel_rfl)) (fun _ _ _ h => h) (Or.inl ⟨by rfl, ?_⟩) hHeld ?_ ?_
                   rotate_left
                   ·rintro w' ⟨s0, s1, s2, s3, s4, s5, s6⟩
                    go_simp
                    with_reducible rfl
                   rotate_left
                   ·simp only [Act.put, List.setIfInBounds_toArray, List.set_cons_zero, List.set_cons_succ, i64_w, i32_w]
                    rfl
                   refine one_ (i := 6) (N := some 105) #[true, true, true, true, true, true, true, false, false, false, false, false, false, false, false, false, false, false, false, false, false, false, false, false, false, false, false, false, false, false, false, false] rfl rfl (one_of HT_.out (by kernel_rfl)) (by decide) (fun K hK => ?_)
                   refine goes_ Tryd.func44 (by kernel_rfl) rfl #[.string ((rd_T53 ((rd_T44 l0 x3_2).f3) x5_5).f0)] (by rfl) rfl rfl (by (try simp only [List.map_toArray, List.map_cons, List.map_nil]); first | done | rfl | (simp only [List.length_drop, List.length_take]; rfl)) ?_
                   with_reducible refine (tinderref05_Named.calls k5 ((rd_T53 ((rd_T44 l0 x3_2).f3) x5_5).f0) false _ A34.out).mono ?_
                   rintro e w' ⟨rfl, ⟨nd, rfl⟩⟩
                   refine ⟨_, rfl, ?_⟩
                   refine hK.out _ _ ⟨(blk_cell BK005.out 0).trans rfl, (blk_cell BK005.out 1).trans rfl, (blk_cell BK005.out 2).trans rfl, (blk_cell BK005.out 3).trans rfl, (blk_cell BK005.out 4).trans rfl, ((HB.out.cell (World.block_lt_of_cell? w _ hw008_0)).trans hw008_0), ((HB.out.cell (World.block_lt_of_cell? w _ hw008_1)).trans hw008_1)⟩ (fun hHeld => ?_)
                   clear hK K
                   refine norm_ (a' := ?_) ?_ ?_
                   rotate_left
                   ·show Act.put _ (some 105) _ = _
                    simp only [Act.put, List.setIfInBounds_toArray, List.set_cons_zero, List.set_cons_succ, i64_w, i32_w]
                    rfl
                   refine pure_ (i := 7) (N := some 106) (v := ?_) (a' := ?_) #[true, true, true, true, true, true, true, true, false, false, false, false, false, false, false, false, false, false, false, false, false, false, false, false, false, false, false, false, false, false, false, false] rfl rfl (any_of HT_.out (by kernel_rfl)) (fun _ _ _ h => h) (Or.inl ⟨by rfl, ?_⟩) ?_ ?_
                   rotate_left
                   ·intro w'
                    go_simp
                    with_reducible rfl
                   rotate_left
                   ·simp only [Act.put, List.setIfInBounds_toArray, List.set_cons_zero, List.set_cons_succ, i64_w, i32_w]
                    rfl
                   refine pure_ (i := 8) (N := some 107) (v := ?_) (a' := ?_) #[true, true, true, true, true, true, true, true, true, false, false, false, false, false, false, false, false, false, false, false, false, false, false, false, false, false, false, false, false, false, false, false] rfl rfl (any_of HT_.out (by kernel_rfl)) (fun _ _ _ h => h) (Or.inl ⟨by rfl, ?_⟩) ?_ ?_
                   rotate_left
                   ·intro w'
                    go_simp
                    with_reducible rfl
                   rotate_left
                   ·simp only [Act.put, List.setIfInBounds_toArray, List.set_cons_zero, List.set_cons_succ, i64_w, i32_w]
                    rfl
                   refine pure_ (i := 9) (N := some 108) (v := undef) (a' := ?_) #[true, true, true, true, true, true, true, true, true, true, false, false, false, false, false, false, false, false, false, false, false, false, false, false, false, false, false, false, false, false, false, false] rfl rfl (any_of HT_.out (by kernel_rfl)) (fun _ _ _ h => h) (Or.inr ⟨by rfl, rfl⟩) ?_ ?_
                   rotate_left
                   ·simp only [Act.put, List.setIfInBounds_toArray, List.set_cons_zero, List.set_cons_succ, i64_w, i32_w]
                    rfl
                   refine pure_ (i := 10) (N := some 109) (v := undef) (a' := ?_) #[true, true, true, true, true, true, true, true, true, true, true, false, false, false, false, false, false, false, false, false, false, false, false, false, false, false, false, false, false, false, false, false] rfl rfl (any_of HT_.out (by kernel_rfl)) (fun _ _ _ h => h) (Or.inr ⟨by rfl, rfl⟩) ?_ ?_
                   rotate_left
                   ·simp only [Act.put, List.setIfInBounds_toArray, List.set_cons_zero, List.set_cons_succ, i64_w, i32_w]
                    rfl
                   refine pure_ (i := 11) (N := some 110) (v := undef) (a' := ?_) #[true, true, true, true, true, true, true, true, true, true, true, true, false, false, false, false, false, false, false, false, false, false, false, false, false, false, false, false, false, false, false, false] rfl rfl (any_of HT_.out (by kernel_rfl)) (fun _ _ _ h => h) (Or.inr ⟨by rfl, rfl⟩) ?_ ?_
                   rotate_left
                   ·simp only [Act.put, List.setIfInBounds_toArray, List.set_cons_zero, List.set_cons_succ, i64_w, i32_w]
                    rfl
                   refine pure_ (i := 12) (N := some 111) (v := undef) (a' := ?_) #[true, true, true, true, true, true, true, true, true, true, true, true, true, false, false, false, false, false, false, false, false, false, false, false, false, false, false, false, false, false, false, false] rfl rfl (any_of HT_.out (by kernel_rfl)) (fun _ _ _ h => h) (Or.inr ⟨by rfl, rfl⟩) ?_ ?_
                   rotate_left
                   ·simp only [Act.put, List.setIfInBounds_toArray, List.set_cons_zero, List.set_cons_succ, i64_w, i32_w]
                    rfl
                   refine pure_ (i := 13) (N := some 112) (v := undef) (a' := ?_) #[true, true, true, true, true, true, true, true, true, true, true, true, true, true, false, false, false, false, false, false, false, false, false, false, false, false, false, false, false, false, false, false] rfl rfl (any_of HT_.out (by kernel_rfl)) (fun _ _ _ h => h) (Or.inr ⟨by rfl, rfl⟩) ?_ ?_
                   rotate_left
                   ·simp only [Act.put, List.setIfInBounds_toArray, List.set_cons_zero, List.set_cons_succ, i64_w, i32_w]
                    rfl
                   refine pure_ (i := 14) (N := some 113) (v := undef) (a' := ?_) #[true, true, true, true, true, true, true, true, true, true, true, true, true, true, true, false, false, false, false, false, false, false, false, false, false, false, false, false, false, false, false, false] rfl rfl (any_of HT_.out (by kernel_rfl)) (fun _ _ _ h => h) (Or.inr ⟨by rfl, rfl⟩) ?_ ?_
                   rotate_left
                   ·simp only [Act.put, List.setIfInBounds_toArray, List.set_cons_zero, List.set_cons_succ, i64_w, i32_w]
                    rfl
                   refine pure_ (i := 15) (N := some 114) (v := undef) (a' := ?_) #[true, true, true, true, true, true, true, true, true, true, true, true, true, true, true, true, false, false, false, false, false, false, false, false, false, false, false, false, false, false, false, false] rfl rfl (any_of HT_.out (by kernel_rfl)) (fun _ _ _ h => h) (Or.inr ⟨by rfl, rfl⟩) ?_ ?_
                   rotate_left
                   ·simp only [Act.put, List.setIfInBounds_toArray, List.set_cons_zero, List.set_cons_succ, i64_w, i32_w]
                    rfl
                   refine pure_ (i := 16) (N := some 115) (v := undef) (a' := ?_) #[true, true, true, true, true, true, true, true, true, true, true, true, true, true, true, true, true, false, false, false, false, false, false, false, false, false, false, false, false, false, false, false] rfl rfl (any_of HT_.out (by kernel_rfl)) (fun _ _ _ h => h) (Or.inr ⟨by rfl, rfl⟩) ?_ ?_
                   rotate_left
                   ·simp only [Act.put, List.setIfInBounds_toArray, List.set_cons_zero, List.set_cons_succ, i64_w, i32_w]
                    rfl
                   refine pure_ (i := 17) (N := some 116) (v := ?_) (a' := ?_) #[true, true, true, true, true, true, true, true, true, true, true, true, true, true, true, true, true, true, false, false, false, false, false, false, false, false, false, false, false, false, false, false] rfl rfl (any_of HT_.out (by kernel_rfl)) (fun _ _ _ h => h) (Or.inl ⟨by rfl, ?_⟩) ?_ ?_
                   rotate_left
                   ·intro w'
                    go_simp
                    with_reducible rfl
                   rotate_left
                   ·simp only [Act.put, List.setIfInBounds_toArray, List.set_cons_zero, List.set_cons_succ, i64_w, i32_w]
                    rfl
                   refine pure_ (i := 18) (N := some 117) (v := ?_) (a' := ?_) #[true, true, true, true, true, true, true, true, true, true, true, true, true, true, true, true, true, true, true, false, false, false, false, false, false, false, false, false, false, false, false, false] rfl rfl (any_of HT_.out (by kernel_rfl)) (fun _ _ _ h => h) (Or.inl ⟨by rfl, ?_⟩) ?_ ?_
                   rotate_left
                   ·intro w'
                    go_simp
                    with_reducible rfl
                   rotate_left
                   ·simp only [Act.put, List.setIfInBounds_toArray, List.set_cons_zero, List.set_cons_succ, i64_w, i32_w]
                    rfl
                   refine pure_ (i := 19) (N := some 118) (v := undef) (a' := ?_) #[true, true, true, true, true, true, true, true, true, true, true, true, true, true, true, true, true, true, true, true, false, false, false, false, false, false, false, false, false, false, false, false] rfl rfl (any_of HT_.out (by kernel_rfl)) (fun _ _ _ h => h) (Or.inr ⟨by rfl, rfl⟩) ?_ ?_
                   rotate_left
                   ·simp only [Act.put, List.setIfInBounds_toArray, List.set_cons_zero, List.set_cons_succ, i64_w, i32_w]
                    rfl
                   refine pure_ (i := 20) (N := some 119) (v := undef) (a' := ?_) #[true, true, true, true, true, true, true, true, true, true, true, true, true, true, true, true, true, true, true, true, true, false, false, false, false, false, false, false, false, false, false, false] rfl rfl (any_of HT_.out (by kernel_rfl)) (fun _ _ _ h => h) (Or.inr ⟨by rfl, rfl⟩) ?_ ?_
                   rotate_left
                   ·simp only [Act.put, List.setIfInBounds_toArray, List.set_cons_zero, List.set_cons_succ, i64_w, i32_w]
                    rfl
                   refine pure_ (i := 21) (N := some 120) (v := undef) (a' := ?_) #[true, true, true, true, true, true, true, true, true, true, true, true, true, true, true, true, true, true, true, true, true, true, false, false, false, false, false, false, false, false, false, false] rfl rfl (any_of HT_.out (by kernel_rfl)) (fun _ _ _ h => h) (Or.inr ⟨by rfl, rfl⟩) ?_ ?_
                   rotate_left
                   ·simp only [Act.put, List.setIfInBounds_toArray, List.set_cons_zero, List.set_cons_succ, i64_w, i32_w]
                    rfl
                   refine pure_ (i := 22) (N := some 121) (v := undef) (a' := ?_) #[true, true, true, true, true, true, true, true, true, true, true, true, true, true, true, true, true, true, true, true, true, true, true, false, false, false, false, false, false, false, false, false] rfl rfl (any_of HT_.out (by kernel_rfl)) (fun _ _ _ h => h) (Or.inr ⟨by rfl, rfl⟩) ?_ ?_
                   rotate_left
                   ·simp only [Act.put, List.setIfInBounds_toArray, List.set_cons_zero, List.set_cons_succ, i64_w, i32_w]
                    rfl
                   refine pure_ (i := 23) (N := some 122) (v := undef) (a' := ?_) #[true, true, true, true, true, true, true, true, true, true, true, true, true, true, true, true, true, true, true, true, true, true, true, true, false, false, false, false, false, false, false, false] rfl rfl (any_of HT_.out (by kernel_rfl)) (fun _ _ _ h => h) (Or.inr ⟨by rfl, rfl⟩) ?_ ?_
                   rotate_left
                   ·simp only [Act.put, List.setIfInBounds_toArray, List.set_cons_zero, List.set_cons_succ, i64_w, i32_w]
                    rfl
                   refine pure_ (i := 24) (N := some 123) (v := undef) (a' := ?_) #[true, true, true, true, true, true, true, true, true, true, true, true, true, true, true, true, true, true, true, true, true, true, true, true, true, false, false, false, false, false, false, false] rfl rfl (any_of HT_.out (by kernel_rfl)) (fun _ _ _ h => h) (Or.inr ⟨by rfl, rfl⟩) ?_ ?_
                   rotate_left
                   ·simp only [Act.put, List.setIfInBounds_toArray, List.set_cons_zero, List.set_cons_succ, i64_w, i32_w]
                    rfl
                   refine pure_ (i := 25) (N := some 124) (v := undef) (a' := ?_) #[true, true, true, true, true, true, true, true, true, true, true, true, true, true, true, true, true, true, true, true, true, true, true, true, true, true, false, false, false, false, false, false] rfl rfl (any_of HT_.out (by kernel_rfl)) (fun _ _ _ h => h) (Or.inr ⟨by rfl, rfl⟩) ?_ ?_
                   rotate_left
                   ·simp only [Act.put, List.setIfInBounds_toArray, List.set_cons_zero, List.set_cons_succ, i64_w, i32_w]
                    rfl
                   refine pure_ (i := 26) (N := some 125) (v := undef) (a' := ?_) #[true, true, true, true, true, true, true, true, true, true, true, true, true, true, true, true, true, true, true, true, true, true, true, true, true, true, true, false, false, false, false, false] rfl rfl (any_of HT_.out (by kernel_rfl)) (fun _ _ _ h => h) (Or.inr ⟨by rfl, rfl⟩) ?_ ?_
                   rotate_left
                   ·simp only [Act.put, List.setIfInBounds_toArray, List.set_cons_zero, List.set_cons_succ, i64_w, i32_w]
                    rfl
                   refine pure_ (i := 27) (N := some 126) (v := undef) (a' := ?_) #[true, true, true, true, true, true, true, true, true, true, true, true, true, true, true, true, true, true, true, true, true, true, true, true, true, true, true, true, false, false, false, false] rfl rfl (any_of HT_.out (by kernel_rfl)) (fun _ _ _ h => h) (Or.inr ⟨by rfl, rfl⟩) ?_ ?_
                   rotate_left
                   ·simp only [Act.put, List.setIfInBounds_toArray, List.set_cons_zero, List.set_cons_succ, i64_w, i32_w]
                    rfl
                   refine pure_ (i := 28) (N := some 127) (v := undef) (a' := ?_) #[true, true, true, true, true, true, true, true, true, true, true, true, true, true, true, true, true, true, true, true, true, true, true, true, true, true, true, true, true, false, false, false] rfl rfl (any_of HT_.out (by kernel_rfl)) (fun _ _ _ h => h) (Or.inr ⟨by rfl, rfl⟩) ?_ ?_
                   rotate_left
                   ·simp only [Act.put, List.setIfInBounds_toArray, List.set_cons_zero, List.set_cons_succ, i64_w, i32_w]
                    rfl
                   refine pure_ (i := 29) (N := some 128) (v := undef) (a' := ?_) #[true, true, true, true, true, true, true, true, true, true, true, true, true, true, true, true, true, true, true, true, true, true, true, true, true, true, true, true, true, true, false, false] rfl rfl (any_of HT_.out (by kernel_rfl)) (fun _ _ _ h => h) (Or.inr ⟨by rfl, rfl⟩) ?_ ?_
                   rotate_left
                   ·simp only [Act.put, List.setIfInBounds_toArray, List.set_cons_zero, List.set_cons_succ, i64_w, i32_w]
                    rfl
                   refine pure_ (i := 30) (N := some 129) (v := undef) (a' := ?_) #[true, true, true, true, true, true, true, true, true, true, true, true, true, true, true, true, true, true, true, true, true, true, true, true, true, true, true, true, true, true, true, false] rfl rfl (any_of HT_.out (by kernel_rfl)) (fun _ _ _ h => h) (Or.inr ⟨by rfl, rfl⟩) ?_ ?_
                   rotate_left
                   ·simp only [Act.put, List.setIfInBounds_toArray, List.set_cons_zero, List.set_cons_succ, i64_w, i32_w]
                    rfl
                   refine pure_ (i := 31) (N := some 130) (v := ?_) (a' := ?_) #[true, true, true, true, true, true, true, true, true, true, true, true, true, true, true, true, true, true, true, true, true, true, true, true, true, true, true, true, true, true, true, true] rfl rfl (any_of HT_.out (by kernel_rfl)) (fun _ _ _ h => h) (Or.inl ⟨by rfl, ?_⟩) ?_ ?_
                   rotate_left
                   ·intro w'
                    go_simp
                    with_reducible rfl
                   rotate_left
                   ·simp only [Act.put, List.setIfInBounds_toArray, List.set_cons_zero, List.set_cons_succ, i64_w, i32_w]
                    rfl
                   refine done_ (done_of HT_.out (by kernel_rfl)) ?_
                   try go_wp2
                   go_ret
                   exact ⟨by first | rfl | (simp [errW_none, errW_some] <;> rfl) | (simp [*, errW_none, errW_some] <;> rfl), by repeat (first | (with_reducible first | exact HB.out | apply below_alloc | apply pw_below_drewN | apply below_drew1 | refine below_set ?_ GE005.out) | exact HB.out)⟩
                 ·rw [if_neg c33] at H
                  exact absurd H (by simp)
                ·rw [if_neg c32] at H
                 have c32b0 : decide (x5_5 < (((rd_T44 l0 x3_2).f3).length : Int)) = false := decide_eq_false c32
                 clear c32
                 have H' := Aside0.mk H
                 clear H
                 have hcz51_0 : wr.cell? ⟨gb005, 0, none⟩ = some (.string ((rd_T44 l0 x3_2).f0)) := (blk_cell BK005.out 0).trans rfl
                 have hcz51_1 : wr.cell? ⟨gb005, 1, none⟩ = some (.slice A004_1 ((rd_T44 l0 x3_2).f1).length c004_1) := (blk_cell BK005.out 1).trans rfl
                 have hcz51_2 : wr.cell? ⟨gb005, 2, none⟩ = some (.int .i64 ((rd_T44 l0 x3_2).f2)) := (blk_cell BK005.out 2).trans rfl
                 have hcz51_3 : wr.cell? ⟨gb005, 3, none⟩ = some (.slice A004_3 ((rd_T44 l0 x3_2).f3).length c004_3) := (blk_cell BK005.out 3).trans rfl
                 have hcz51_4 : wr.cell? ⟨gb005, 4, none⟩ = some (.slice A004_4 ((rd_T44 l0 x3_2).f4).length c004_4) := (blk_cell BK005.out 4).trans rfl
                 have hfz51_0 := blk_frozen BK005.out 0
                 have hfz51_1 := blk_frozen BK005.out 1
                 have hfz51_2 := blk_frozen BK005.out 2
                 have hfz51_3 := blk_frozen BK005.out 3
                 have hfz51_4 := blk_frozen BK005.out 4
                 go_wp2
                 go_roundg k5
                 case measure => have := HJ1.out; have := HK2.out; have := HJ10.out; have := HJ26.out; have := HK5.out; omega
                 case rel => exact ⟨(wrap64 (x3_2 + 1)), (by first | rfl | (simp; done) | (simp [*]; done)), H', ⟨by have := HJ1.out; have := HK2.out; have := HJ10.out; have := HJ26.out; have := HK5.out; omega⟩, ⟨by repeat (first | (with_reducible first | exact HB.out | apply below_alloc | apply pw_below_drewN | apply below_drew1 | refine below_set ?_ GE005.out) | exact HB.out)⟩⟩
       ·rw [if_neg c10] at H
        exact absurd H (by simp)
      ·rw [if_neg c9] at H
       have c9b0 : decide (x3_2 < (l0.length : Int)) = false := decide_eq_false c9
       clear c9
       obtain rfl := Option.some.inj H
       go_wp2
       go_ret
       exact ⟨by first | rfl | (simp [errW_none, errW_some] <;> rfl) | (simp [*, errW_none, errW_some] <;> rfl), by repeat (first | (with_reducible first | exact HB.out | apply below_alloc | apply pw_below_drewN | apply below_drew1) | exact HB.out)⟩

end Go.Proofs.YtnalcjgefbelnaaDoor.Q
end
