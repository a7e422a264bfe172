/- Contracts of Go functions and plain facts, of several texts, one behind the other; no condition. -/
import Derived.Test.YtfpkakedlapmkaaMDictForms2
import Derived.Test.YtfpkakedlapmkaaMDictForms4
import Derived.Test.YtfpkakedlapmkaaMDictForms6
import Derived.Test.YtfpkakedlapmkaaMDictForms5
section
namespace Go.Proofs.Ytfpkakedlapmkaa.Q
open Go.RowKit Go.Proofs.YtfpkakedlapmkaaW.PrintWords Go.Proofs.YtfpkakedlapmkaaW.PrintLast Go.Proofs.YtfpkakedlapmkaaW.PrintMore
set_option linter.unusedVariables false
set_option linter.unusedSimpArgs false

attribute [local go_sem] max2_int min2_int max_two min_two max_three min_three max_four min_four
/-! ### tinderref08_twin: function 83 -/
def tinderref08_twin.l0 : Nat → List (S91) → Int → Int → ByteArray → List Int → Int → Option (Bool)
 | 0, _, _, _, _, _, _ => none
 | k + 1, x0, x1, x2, x3, x4, x11 => if x11 < x1 then (if 0 ≤ x11 then (if x11 < (x0.length : Int) then (if ((rd_T91 x0 x11).f2) = x2 then (if ((rd_T91 x0 x11).f0).toList = x3.toList then ((tinderref03_Same.f k ((rd_T91 x0 x11).f1) x4).bind fun t84004 => (if t84004 = true then (some true) else (tinderref08_twin.l0 k x0 x1 x2 x3 x4 (wrap64 (x11 + 1))))) else (tinderref08_twin.l0 k x0 x1 x2 x3 x4 (wrap64 (x11 + 1)))) else (tinderref08_twin.l0 k x0 x1 x2 x3 x4 (wrap64 (x11 + 1)))) else (none)) else (none)) else (some false)
def tinderref08_twin.f (k : Nat) (l0 : List (S91)) (a1 : Int) (a2 : Int) (a3 : ByteArray) (l4 : List Int) : Option (Bool) := tinderref08_twin.l0 k l0 a1 a2 a3 l4 0
set_option maxHeartbeats 8000000 in
set_option maxRecDepth 100000 in
theorem tinderref08_twin.calls (k : Nat) (A0 : Option Addr) (c0 : Nat) (l0 : List (S91)) (a1 : Int) (a2 : Int) (a3 : ByteArray) (A4 : Option Addr) (c4 : Nat) (l4 : List Int) (r : Bool) (w : World) (hr0 : Kd.C k91 w A0 l0.length l0) (hc0 : l0.length ≤ c0) (hr4 : Kd.C (Kd.int .u32) w A4 l4.length l4) (hc4 : l4.length ≤ c4) (h : tinderref08_twin.f k l0 a1 a2 a3 l4 = some r) :
  Calls Try.prog 83 #[.slice A0 l0.length c0, .int .i64 a1, .int .i64 a2, .string a3, .slice A4 l4.length c4] w fun e w' => e = .returned (.bool r) ∧ Drawn0 w w' := by
 have HR0 := Aside0.mk hr0
 have HC0 := Aside0.mk hc0
 clear hr0 hc0
 have HR4 := Aside0.mk hr4
 have HC4 := Aside0.mk hc4
 clear hr4 hc4
 have H : (tinderref08_twin.l0 k l0 a1 a2 a3 l4 0) = some r := h
 clear h
 have H' := Aside0.mk H
 clear H
 go_enter Try.func83, Try.ntmps83
 go_wp2
 go_loopg [11] k (fun kq v11 w' => ∃ (x11_1 : Int), v11 = .int .i64 x11_1 ∧ Aside0 (tinderref08_twin.l0 kq l0 a1 a2 a3 l4 x11_1 = some r) ∧ Aside0 (kq ≤ k) ∧ Drawn0 w w')
 case atStart => exact ⟨(0), (by first | rfl | (simp; done) | (simp [*]; done)), H', ⟨Nat.le_refl _⟩, by repeat (first | exact Drawn0.refl _ | apply Drawn0.step)⟩
 case round =>
  clear H'
  try clear p2
  try clear c4
  obtain ⟨x11_1, rfl, HA, HK1, ⟨m1, rfl⟩⟩ := hrel
  cases gk with
  | zero => exact absurd HA.out (by simp [tinderref08_twin.l0])
  | succ k1 =>
   have H := HA.out
   clear HA
   simp only [tinderref08_twin.l0] at H
   by_cases c6 : x11_1 < a1
   ·rw [if_pos c6] at H
    have c6b0 : decide (x11_1 < a1) = true := decide_eq_true c6
    clear c6
    by_cases c7 : 0 ≤ x11_1
    ·rw [if_pos c7] at H
     have c7b0 : decide (0 ≤ x11_1) = true := decide_eq_true c7
     clear c7
     by_cases c8 : x11_1 < (l0.length : Int)
     ·rw [if_pos c8] at H
      have c8b0 : decide (x11_1 < (l0.length : Int)) = true := decide_eq_true c8
      clear c8
      by_cases c9 : ((rd_T91 l0 x11_1).f2) = a2
      ·rw [if_pos c9] at H
       have c9b0 : (((rd_T91 l0 x11_1).f2) == a2) = true := beq_iff_eq.mpr c9
       have c9b1 : (((rd_T91 l0 x11_1).f2) != a2) = false := bne_eq_false_iff_eq.mpr c9
       clear c9
       by_cases c10 : ((rd_T91 l0 x11_1).f0).toList = a3.toList
       ·rw [if_pos c10] at H
        have c10b0 : (((rd_T91 l0 x11_1).f0).toList == a3.toList) = true := beq_iff_eq.mpr c10
        have c10b1 : (((rd_T91 l0 x11_1).f0).toList != a3.toList) = false := bne_eq_false_iff_eq.mpr c10
        clear c10
        replace H := Option.bind_eq_some_iff.mp H
        obtain ⟨t84004, A110, H⟩ := H
        replace H : (if t84004 = true then (some true) else (tinderref08_twin.l0 k1 l0 a1 a2 a3 l4 (wrap64 (x11_1 + 1)))) = some r := H
        have A11 := Aside0.mk A110
        clear A110
        by_cases c12 : t84004 = true
        ·subst c12
         have H1 : (some true) = some r := by rw [if_pos rfl] at H; exact H
         clear H
         have H := H1
         clear H1
         obtain rfl := Option.some.inj H
         have p84001 : 0 ≤ (x11_1 : Int) := of_decide_eq_true (by first | (with_reducible assumption) | assumption)
         have q84001 : x11_1 < (l0.length : Int) := of_decide_eq_true (by first | (with_reducible assumption) | assumption)
         obtain ⟨ad84001, A84001_1, c84001_1, A84001_3, c84001_3, A84001_4, c84001_4, e84001, hx84001_0, hx84001_1, hx84001_2, hx84001_3, hx84001_4, hl84001_1, hi84001_1, hl84001_3, hi84001_3, hl84001_4, hi84001_4⟩ := at_T91 HR0.out x11_1 p84001 q84001
         cases e84001
         have HR84001_1 := Aside0.mk hi84001_1
         have HC84001_1 := Aside0.mk hl84001_1
         clear hi84001_1 hl84001_1
         have HR84001_3 := Aside0.mk hi84001_3
         have HC84001_3 := Aside0.mk hl84001_3
         clear hi84001_3 hl84001_3
         have HR84001_4 := Aside0.mk hi84001_4
         have HC84001_4 := Aside0.mk hl84001_4
         clear hi84001_4 hl84001_4
         replace p84001 := eq_true p84001
         replace q84001 := eq_true q84001
         have p84002 : 0 ≤ (x11_1 : Int) := of_decide_eq_true (by first | (with_reducible assumption) | assumption)
         have q84002 : x11_1 < (l0.length : Int) := of_decide_eq_true (by first | (with_reducible assumption) | assumption)
         obtain ⟨ad84002, A84002_1, c84002_1, A84002_3, c84002_3, A84002_4, c84002_4, e84002, hx84002_0, hx84002_1, hx84002_2, hx84002_3, hx84002_4, hl84002_1, hi84002_1, hl84002_3, hi84002_3, hl84002_4, hi84002_4⟩ := at_T91 HR0.out x11_1 p84002 q84002
         obtain rfl : ad84001 = ad84002 := (by injection e84002)
         have HR84002_1 := Aside0.mk hi84002_1
         have HC84002_1 := Aside0.mk hl84002_1
         clear hi84002_1 hl84002_1
         have HR84002_3 := Aside0.mk hi84002_3
         have HC84002_3 := Aside0.mk hl84002_3
         clear hi84002_3 hl84002_3
         have HR84002_4 := Aside0.mk hi84002_4
         have HC84002_4 := Aside0.mk hl84002_4
         clear hi84002_4 hl84002_4
         replace p84002 := eq_true p84002
         replace q84002 := eq_true q84002
         have ea_ := Option.some.inj (hx84001_1.symm.trans hx84002_1)
         injection ea_ with ea_ en_ ec_
         subst ea_
         subst ec_
         clear en_
         have ea_ := Option.some.inj (hx84001_3.symm.trans hx84002_3)
         injection ea_ with ea_ en_ ec_
         subst ea_
         subst ec_
         clear en_
         have ea_ := Option.some.inj (hx84001_4.symm.trans hx84002_4)
         injection ea_ with ea_ en_ ec_
         subst ea_
         subst ec_
         clear en_
         have p84003 : 0 ≤ (x11_1 : Int) := of_decide_eq_true (by first | (with_reducible assumption) | assumption)
         have q84003 : x11_1 < (l0.length : Int) := of_decide_eq_true (by first | (with_reducible assumption) | assumption)
         obtain ⟨ad84003, A84003_1, c84003_1, A84003_3, c84003_3, A84003_4, c84003_4, e84003, hx84003_0, hx84003_1, hx84003_2, hx84003_3, hx84003_4, hl84003_1, hi84003_1, hl84003_3, hi84003_3, hl84003_4, hi84003_4⟩ := at_T91 HR0.out x11_1 p84003 q84003
         obtain rfl : ad84001 = ad84003 := (by injection e84003)
         have HR84003_1 := Aside0.mk hi84003_1
         have HC84003_1 := Aside0.mk hl84003_1
         clear hi84003_1 hl84003_1
         have HR84003_3 := Aside0.mk hi84003_3
         have HC84003_3 := Aside0.mk hl84003_3
         clear hi84003_3 hl84003_3
         have HR84003_4 := Aside0.mk hi84003_4
         have HC84003_4 := Aside0.mk hl84003_4
         clear hi84003_4 hl84003_4
         replace p84003 := eq_true p84003
         replace q84003 := eq_true q84003
         have ea_ := Option.some.inj (hx84001_1.symm.trans hx84003_1)
         injection ea_ with ea_ en_ ec_
         subst ea_
         subst ec_
         clear en_
         have ea_ := Option.some.inj (hx84001_3.symm.trans hx84003_3)
         injection ea_ with ea_ en_ ec_
         subst ea_
         subst ec_
         clear en_
         have ea_ := Option.some.inj (hx84001_4.symm.trans hx84003_4)
         injection ea_ with ea_ en_ ec_
         subst ea_
         subst ec_
         clear en_
         go_wp2_with (first | (go_at_call 66; (with_reducible refine (tinderref03_Same.calls k1 _ _ ((rd_T91 l0 x11_1).f1) _ _ l4 true _ ?side1 ?side2 ?side3 ?side4 A11.out).mono ?_); (case side1 => repeat (first | exact HR84003_1.out | (with_reducible refine Kd.C_alloc ?_ _) | (with_reducible refine Kd.C_drewN ?_ _) | (with_reducible refine Kd.C_drew ?_))); (case side2 => exact HC84003_1.out); (case side3 => repeat (first | exact HR4.out | (with_reducible refine Kd.C_alloc ?_ _) | (with_reducible refine Kd.C_drewN ?_ _) | (with_reducible refine Kd.C_drew ?_))); (case side4 => exact HC4.out); rintro e w' ⟨rfl, ⟨nd, rfl⟩⟩))
         go_ret
         exact ⟨by first | rfl | (simp; done) | (simp [*]; done), by repeat (first | exact Drawn0.refl _ | apply Drawn0.step)⟩
        ·replace c12 := Bool.eq_false_iff.mpr c12
         subst c12
         have H1 : (tinderref08_twin.l0 k1 l0 a1 a2 a3 l4 (wrap64 (x11_1 + 1))) = some r := by rw [if_neg (show ¬ (false = true) by decide)] at H; exact H
         clear H
         have H := H1
         clear H1
         have H' := Aside0.mk H
         clear H
         have p84001 : 0 ≤ (x11_1 : Int) := of_decide_eq_true (by first | (with_reducible assumption) | assumption)
         have q84001 : x11_1 < (l0.length : Int) := of_decide_eq_true (by first | (with_reducible assumption) | assumption)
         obtain ⟨ad84001, A84001_1, c84001_1, A84001_3, c84001_3, A84001_4, c84001_4, e84001, hx84001_0, hx84001_1, hx84001_2, hx84001_3, hx84001_4, hl84001_1, hi84001_1, hl84001_3, hi84001_3, hl84001_4, hi84001_4⟩ := at_T91 HR0.out x11_1 p84001 q84001
         cases e84001
         have HR84001_1 := Aside0.mk hi84001_1
         have HC84001_1 := Aside0.mk hl84001_1
         clear hi84001_1 hl84001_1
         have HR84001_3 := Aside0.mk hi84001_3
         have HC84001_3 := Aside0.mk hl84001_3
         clear hi84001_3 hl84001_3
         have HR84001_4 := Aside0.mk hi84001_4
         have HC84001_4 := Aside0.mk hl84001_4
         clear hi84001_4 hl84001_4
         replace p84001 := eq_true p84001
         replace q84001 := eq_true q84001
         have p84002 : 0 ≤ (x11_1 : Int) := of_decide_eq_true (by first | (with_reducible assumption) | assumption)
         have q84002 : x11_1 < (l0.length : Int) := of_decide_eq_true (by first | (with_reducible assumption) | assumption)
         obtain ⟨ad84002, A84002_1, c84002_1, A84002_3, c84002_3, A84002_4, c84002_4, e84002, hx84002_0, hx84002_1, hx84002_2, hx84002_3, hx84002_4, hl84002_1, hi84002_1, hl84002_3, hi84002_3, hl84002_4, hi84002_4⟩ := at_T91 HR0.out x11_1 p84002 q84002
         obtain rfl : ad84001 = ad84002 := (by injection e84002)
         have HR84002_1 := Aside0.mk hi84002_1
         have HC84002_1 := Aside0.mk hl84002_1
         clear hi84002_1 hl84002_1
         have HR84002_3 := Aside0.mk hi84002_3
         have HC84002_3 := Aside0.mk hl84002_3
         clear hi84002_3 hl84002_3
         have HR84002_4 := Aside0.mk hi84002_4
         have HC84002_4 := Aside0.mk hl84002_4
         clear hi84002_4 hl84002_4
         replace p84002 := eq_true p84002
         replace q84002 := eq_true q84002
         have ea_ := Option.some.inj (hx84001_1.symm.trans hx84002_1)
         injection ea_ with ea_ en_ ec_
         subst ea_
         subst ec_
         clear en_
         have ea_ := Option.some.inj (hx84001_3.symm.trans hx84002_3)
         injection ea_ with ea_ en_ ec_
         subst ea_
         subst ec_
         clear en_
         have ea_ := Option.some.inj (hx84001_4.symm.trans hx84002_4)
         injection ea_ with ea_ en_ ec_
         subst ea_
         subst ec_
         clear en_
         have p84003 : 0 ≤ (x11_1 : Int) := of_decide_eq_true (by first | (with_reducible assumption) | assumption)
         have q84003 : x11_1 < (l0.length : Int) := of_decide_eq_true (by first | (with_reducible assumption) | assumption)
         obtain ⟨ad84003, A84003_1, c84003_1, A84003_3, c84003_3, A84003_4, c84003_4, e84003, hx84003_0, hx84003_1, hx84003_2, hx84003_3, hx84003_4, hl84003_1, hi84003_1, hl84003_3, hi84003_3, hl84003_4, hi84003_4⟩ := at_T91 HR0.out x11_1 p84003 q84003
         obtain rfl : ad84001 = ad84003 := (by injection e84003)
         have HR84003_1 := Aside0.mk hi84003_1
         have HC84003_1 := Aside0.mk hl84003_1
         clear hi84003_1 hl84003_1
         have HR84003_3 := Aside0.mk hi84003_3
         have HC84003_3 := Aside0.mk hl84003_3
         clear hi84003_3 hl84003_3
         have HR84003_4 := Aside0.mk hi84003_4
         have HC84003_4 := Aside0.mk hl84003_4
         clear hi84003_4 hl84003_4
         replace p84003 := eq_true p84003
         replace q84003 := eq_true q84003
         have ea_ := Option.some.inj (hx84001_1.symm.trans hx84003_1)
         injection ea_ with ea_ en_ ec_
         subst ea_
         subst ec_
         clear en_
         have ea_ := Option.some.inj (hx84001_3.symm.trans hx84003_3)
         injection ea_ with ea_ en_ ec_
         subst ea_
         subst ec_
         clear en_
         have ea_ := Option.some.inj (hx84001_4.symm.trans hx84003_4)
         injection ea_ with ea_ en_ ec_
         subst ea_
         subst ec_
         clear en_
         go_wp2_with (first | (go_at_call 66; (with_reducible refine (tinderref03_Same.calls k1 _ _ ((rd_T91 l0 x11_1).f1) _ _ l4 false _ ?side1 ?side2 ?side3 ?side4 A11.out).mono ?_); (case side1 => repeat (first | exact HR84003_1.out | (with_reducible refine Kd.C_alloc ?_ _) | (with_reducible refine Kd.C_drewN ?_ _) | (with_reducible refine Kd.C_drew ?_))); (case side2 => exact HC84003_1.out); (case side3 => repeat (first | exact HR4.out | (with_reducible refine Kd.C_alloc ?_ _) | (with_reducible refine Kd.C_drewN ?_ _) | (with_reducible refine Kd.C_drew ?_))); (case side4 => exact HC4.out); rintro e w' ⟨rfl, ⟨nd, rfl⟩⟩))
         go_roundg k1
         case measure => have := HK1.out; omega
         case rel => exact ⟨(wrap64 (x11_1 + 1)), (by first | rfl | (simp; done) | (simp [*]; done)), H', ⟨by have := HK1.out; omega⟩, by repeat (first | exact Drawn0.refl _ | apply Drawn0.step)⟩
       ·rw [if_neg c10] at H
        have c10b0 : (((rd_T91 l0 x11_1).f0).toList == a3.toList) = false := beq_eq_false_iff_ne.mpr c10
        have c10b1 : (((rd_T91 l0 x11_1).f0).toList != a3.toList) = true := bne_iff_ne.mpr c10
        have H' := Aside0.mk H
        clear H
        have p84001 : 0 ≤ (x11_1 : Int) := of_decide_eq_true (by first | (with_reducible assumption) | assumption)
        have q84001 : x11_1 < (l0.length : Int) := of_decide_eq_true (by first | (with_reducible assumption) | assumption)
        obtain ⟨ad84001, A84001_1, c84001_1, A84001_3, c84001_3, A84001_4, c84001_4, e84001, hx84001_0, hx84001_1, hx84001_2, hx84001_3, hx84001_4, hl84001_1, hi84001_1, hl84001_3, hi84001_3, hl84001_4, hi84001_4⟩ := at_T91 HR0.out x11_1 p84001 q84001
        cases e84001
        have HR84001_1 := Aside0.mk hi84001_1
        have HC84001_1 := Aside0.mk hl84001_1
        clear hi84001_1 hl84001_1
        have HR84001_3 := Aside0.mk hi84001_3
        have HC84001_3 := Aside0.mk hl84001_3
        clear hi84001_3 hl84001_3
        have HR84001_4 := Aside0.mk hi84001_4
        have HC84001_4 := Aside0.mk hl84001_4
        clear hi84001_4 hl84001_4
        replace p84001 := eq_true p84001
        replace q84001 := eq_true q84001
        have p84002 : 0 ≤ (x11_1 : Int) := of_decide_eq_true (by first | (with_reducible assumption) | assumption)
        have q84002 : x11_1 < (l0.length : Int) := of_decide_eq_true (by first | (with_reducible assumption) | assumption)
        obtain ⟨ad84002, A84002_1, c84002_1, A84002_3, c84002_3, A84002_4, c84002_4, e84002, hx84002_0, hx84002_1, hx84002_2, hx84002_3, hx84002_4, hl84002_1, hi84002_1, hl84002_3, hi84002_3, hl84002_4, hi84002_4⟩ := at_T91 HR0.out x11_1 p84002 q84002
        obtain rfl : ad84001 = ad84002 := (by injection e84002)
        have HR84002_1 := Aside0.mk hi84002_1
        have HC84002_1 := Aside0.mk hl84002_1
        clear hi84002_1 hl84002_1
        have HR84002_3 := Aside0.mk hi84002_3
        have HC84002_3 := Aside0.mk hl84002_3
        clear hi84002_3 hl84002_3
        have HR84002_4 := Aside0.mk hi84002_4
        have HC84002_4 := Aside0.mk hl84002_4
        clear hi84002_4 hl84002_4
        replace p84002 := eq_true p84002
        replace q84002 := eq_true q84002
        have ea_ := Option.some.inj (hx84001_1.symm.trans hx84002_1)
        injection ea_ with ea_ en_ ec_
        subst ea_
        subst ec_
        clear en_
        have ea_ := Option.some.inj (hx84001_3.symm.trans hx84002_3)
        injection ea_ with ea_ en_ ec_
        subst ea_
        subst ec_
        clear en_
        have ea_ := Option.some.inj (hx84001_4.symm.trans hx84002_4)
        injection ea_ with ea_ en_ ec_
        subst ea_
        subst ec_
        clear en_
        go_wp2
        go_roundg k1
        case measure => have := HK1.out; omega
        case rel => exact ⟨(wrap64 (x11_1 + 1)), (by first | rfl | (simp; done) | (simp [*]; done)), H', ⟨by have := HK1.out; omega⟩, by repeat (first | exact Drawn0.refl _ | apply Drawn0.step)⟩
      ·rw [if_neg c9] at H
       have c9b0 : (((rd_T91 l0 x11_1).f2) == a2) = false := beq_eq_false_iff_ne.mpr c9
       have c9b1 : (((rd_T91 l0 x11_1).f2) != a2) = true := bne_iff_ne.mpr c9
       have H' := Aside0.mk H
       clear H
       have p84001 : 0 ≤ (x11_1 : Int) := of_decide_eq_true (by first | (with_reducible assumption) | assumption)
       have q84001 : x11_1 < (l0.length : Int) := of_decide_eq_true (by first | (with_reducible assumption) | assumption)
       obtain ⟨ad84001, A84001_1, c84001_1, A84001_3, c84001_3, A84001_4, c84001_4, e84001, hx84001_0, hx84001_1, hx84001_2, hx84001_3, hx84001_4, hl84001_1, hi84001_1, hl84001_3, hi84001_3, hl84001_4, hi84001_4⟩ := at_T91 HR0.out x11_1 p84001 q84001
       cases e84001
       have HR84001_1 := Aside0.mk hi84001_1
       have HC84001_1 := Aside0.mk hl84001_1
       clear hi84001_1 hl84001_1
       have HR84001_3 := Aside0.mk hi84001_3
       have HC84001_3 := Aside0.mk hl84001_3
       clear hi84001_3 hl84001_3
       have HR84001_4 := Aside0.mk hi84001_4
       have HC84001_4 := Aside0.mk hl84001_4
       clear hi84001_4 hl84001_4
       replace p84001 := eq_true p84001
       replace q84001 := eq_true q84001
       go_wp2
       go_roundg k1
       case measure => have := HK1.out; omega
       case rel => exact ⟨(wrap64 (x11_1 + 1)), (by first | rfl | (simp; done) | (simp [*]; done)), H', ⟨by have := HK1.out; omega⟩, by repeat (first | exact Drawn0.refl _ | apply Drawn0.step)⟩
     ·rw [if_neg c8] at H
      exact absurd H (by simp)
    ·rw [if_neg c7] at H
     exact absurd H (by simp)
   ·rw [if_neg c6] at H
    have c6b0 : decide (x11_1 < a1) = false := decide_eq_false c6
    clear c6
    obtain rfl := Option.some.inj H
    go_wp2
    go_ret
    exact ⟨by first | rfl | (simp; done) | (simp [*]; done), by repeat (first | exact Drawn0.refl _ | apply Drawn0.step)⟩

end Go.Proofs.Ytfpkakedlapmkaa.Q
end
section
namespace Go.Proofs.Ytfpkakedlapmkaa.Q
open Go.RowKit Go.Proofs.YtfpkakedlapmkaaW.PrintWords Go.Proofs.YtfpkakedlapmkaaW.PrintLast Go.Proofs.YtfpkakedlapmkaaW.PrintMore
set_option linter.unusedVariables false
set_option linter.unusedSimpArgs false

attribute [local go_sem] max2_int min2_int max_two min_two max_three min_three max_four min_four
/-! ### tinderref08_find: function 84 -/
def tinderref08_find.l0 : Nat → List (S106) → ByteArray → Int → Option (Int)
 | 0, _, _, _ => none
 | k + 1, x0, x1, x5 => if x5 < (x0.length : Int) then (if 0 ≤ x5 then (if ((rd_T106 x0 x5).f0).toList = x1.toList then (some x5) else (tinderref08_find.l0 k x0 x1 (wrap64 (x5 + 1)))) else (none)) else (some (-1))
def tinderref08_find.f (k : Nat) (l0 : List (S106)) (a1 : ByteArray) : Option (Int) := tinderref08_find.l0 k l0 a1 0
set_option maxHeartbeats 8000000 in
set_option maxRecDepth 100000 in
theorem tinderref08_find.calls (k : Nat) (A0 : Option Addr) (c0 : Nat) (l0 : List (S106)) (a1 : ByteArray) (r : Int) (w : World) (hr0 : Kd.C k106 w A0 l0.length l0) (hc0 : l0.length ≤ c0) (h : tinderref08_find.f k l0 a1 = some r) :
  Calls Try.prog 84 #[.slice A0 l0.length c0, .string a1] w fun e w' => e = .returned (.int .i64 r) ∧ Drawn0 w w' := by
 have HR0 := Aside0.mk hr0
 have HC0 := Aside0.mk hc0
 clear hr0 hc0
 have H : (tinderref08_find.l0 k l0 a1 0) = some r := h
 clear h
 have H' := Aside0.mk H
 clear H
 go_enter Try.func84, Try.ntmps84
 go_wp2
 go_loopg [5] k (fun kq v5 w' => ∃ (x5_1 : Int), v5 = .int .i64 x5_1 ∧ Aside0 (tinderref08_find.l0 kq l0 a1 x5_1 = some r) ∧ Aside0 (kq ≤ k) ∧ Drawn0 w w')
 case atStart => exact ⟨(0), (by first | rfl | (simp; done) | (simp [*]; done)), H', ⟨Nat.le_refl _⟩, by repeat (first | exact Drawn0.refl _ | apply Drawn0.step)⟩
 case round =>
  clear H'
  try clear p2
  obtain ⟨x5_1, rfl, HA, HK1, ⟨m1, rfl⟩⟩ := hrel
  cases gk with
  | zero => exact absurd HA.out (by simp [tinderref08_find.l0])
  | succ k1 =>
   have H := HA.out
   clear HA
   simp only [tinderref08_find.l0] at H
   by_cases c3 : x5_1 < (l0.length : Int)
   ·rw [if_pos c3] at H
    have c3b0 : decide (x5_1 < (l0.length : Int)) = true := decide_eq_true c3
    clear c3
    by_cases c4 : 0 ≤ x5_1
    ·rw [if_pos c4] at H
     have c4b0 : decide (0 ≤ x5_1) = true := decide_eq_true c4
     clear c4
     by_cases c5 : ((rd_T106 l0 x5_1).f0).toList = a1.toList
     ·rw [if_pos c5] at H
      have c5b0 : (((rd_T106 l0 x5_1).f0).toList == a1.toList) = true := beq_iff_eq.mpr c5
      have c5b1 : (((rd_T106 l0 x5_1).f0).toList != a1.toList) = false := bne_eq_false_iff_eq.mpr c5
      clear c5
      obtain rfl := Option.some.inj H
      have p85001 : 0 ≤ (x5_1 : Int) := of_decide_eq_true (by first | (with_reducible assumption) | assumption)
      have q85001 : x5_1 < (l0.length : Int) := of_decide_eq_true (by first | (with_reducible assumption) | assumption)
      obtain ⟨ad85001, A85001_1, c85001_1, e85001, hx85001_0, hx85001_1, hl85001_1, hi85001_1⟩ := at_T106 HR0.out x5_1 p85001 q85001
      cases e85001
      have HR85001_1 := Aside0.mk hi85001_1
      have HC85001_1 := Aside0.mk hl85001_1
      clear hi85001_1 hl85001_1
      replace p85001 := eq_true p85001
      replace q85001 := eq_true q85001
      go_wp2
      go_ret
      exact ⟨by first | rfl | (simp; done) | (simp [*]; done), by repeat (first | exact Drawn0.refl _ | apply Drawn0.step)⟩
     ·rw [if_neg c5] at H
      have c5b0 : (((rd_T106 l0 x5_1).f0).toList == a1.toList) = false := beq_eq_false_iff_ne.mpr c5
      have c5b1 : (((rd_T106 l0 x5_1).f0).toList != a1.toList) = true := bne_iff_ne.mpr c5
      have H' := Aside0.mk H
      clear H
      have p85001 : 0 ≤ (x5_1 : Int) := of_decide_eq_true (by first | (with_reducible assumption) | assumption)
      have q85001 : x5_1 < (l0.length : Int) := of_decide_eq_true (by first | (with_reducible assumption) | assumption)
      obtain ⟨ad85001, A85001_1, c85001_1, e85001, hx85001_0, hx85001_1, hl85001_1, hi85001_1⟩ := at_T106 HR0.out x5_1 p85001 q85001
      cases e85001
      have HR85001_1 := Aside0.mk hi85001_1
      have HC85001_1 := Aside0.mk hl85001_1
      clear hi85001_1 hl85001_1
      replace p85001 := eq_true p85001
      replace q85001 := eq_true q85001
      go_wp2
      go_roundg k1
      case measure => have := HK1.out; omega
      case rel => exact ⟨(wrap64 (x5_1 + 1)), (by first | rfl | (simp; done) | (simp [*]; done)), H', ⟨by have := HK1.out; omega⟩, by repeat (first | exact Drawn0.refl _ | apply Drawn0.step)⟩
    ·rw [if_neg c4] at H
     exact absurd H (by simp)
   ·rw [if_neg c3] at H
    have c3b0 : decide (x5_1 < (l0.length : Int)) = false := decide_eq_false c3
    clear c3
    obtain rfl := Option.some.inj H
    go_wp2
    go_ret
    exact ⟨by first | rfl | (simp; done) | (simp [*]; done), by repeat (first | exact Drawn0.refl _ | apply Drawn0.step)⟩

end Go.Proofs.Ytfpkakedlapmkaa.Q
end
section
set_option linter.unusedSimpArgs false
set_option linter.unusedVariables false
namespace Go.Proofs.Ytfpkakedlapmkaa.Q
open Go.RowKit Go.Proofs.YtfpkakedlapmkaaW.PrintWords Go.Proofs.YtfpkakedlapmkaaW.PrintLast
theorem same3_go (a b : List Int) (hl : a.length = b.length) (hm : a.length ≤ 9223372036854775807) : ∀ (d k : Nat) (i : Int), 0 ≤ i → i + d = a.length → d < k → tinderref03_Same.l0 k a b i = some (decide (a.drop i.toNat = b.drop i.toNat))
 | 0, k, i, h0, h1, hk => by
  obtain ⟨k, rfl⟩ : ∃ m, k = m + 1 := ⟨k - 1, by omega⟩
  rw [tinderref03_Same.l0, if_neg (by omega), List.drop_eq_nil_of_le (by omega), List.drop_eq_nil_of_le (by omega), decide_eq_true rfl]
 | d + 1, k, i, h0, h1, hk => by
  obtain ⟨k, rfl⟩ : ∃ m, k = m + 1 := ⟨k - 1, by omega⟩
  have hw : wrap64 (i + 1) = i + 1 := by unfold wrap64; omega
  rw [tinderref03_Same.l0, if_pos (by omega), if_pos h0, if_pos (by omega), hw, same3_go a b hl hm d k (i + 1) (by omega) (by omega) (by omega), int_drop a i h0 (by omega), int_drop b i h0 (by omega)]
  by_cases he : rd a i = rd b i
  ·rw [if_pos he]
   congr 1
   refine decide_eq_decide.2 ⟨fun h => by rw [he, h], fun h => (List.cons.inj h).2⟩
  ·rw [if_neg he, decide_eq_false (fun h => he (List.cons.inj h).1)]
theorem same3_eq (a b : List Int) (hm : a.length ≤ 9223372036854775807) (k : Nat) (hk : a.length < k) : tinderref03_Same.f k a b = some (decide (a = b)) := by
 unfold tinderref03_Same.f
 by_cases hl : a.length = b.length
 ·rw [if_pos (by omega), same3_go a b hl hm a.length k 0 (Int.le_refl _) (by omega) hk]
  rfl
 ·rw [if_neg (by omega), decide_eq_false (fun h => hl (by rw [h]))]
theorem any_take {α : Type} (P : α → Bool) (z : α) (l : List α) (n i : Nat) (hi : i < n) (hn : n ≤ l.length) : ((l.take n).drop i).any P = (P (l.getD i z) || ((l.take n).drop (i + 1)).any P) := by
 rw [List.drop_eq_getElem_cons (show i < (l.take n).length by rw [List.length_take]; omega), List.any_cons]
 congr 2
 rw [List.getElem_take, List.getD_eq_getElem?_getD, List.getElem?_eq_getElem (show i < l.length by omega)]
 rfl
theorem twin_go (t : List S91) (p : Int) (s : ByteArray) (u : List Int) (n : Nat) (hn : n ≤ t.length) (ht : t.length ≤ 1000) (hU : ∀ x ∈ t, x.f1.length ≤ 9223372036854775807) (F : Nat) (hF : ∀ x ∈ t, x.f1.length < F) : ∀ (d k : Nat) (i : Int), 0 ≤ i → i + d = n → d + F + 1 ≤ k → tinderref08_twin.l0 k t n p s u i = some (((t.take n).drop i.toNat).any (isN p s u))
 | 0, k, i, h0, h1, hk => by
  obtain ⟨k, rfl⟩ : ∃ m, k = m + 1 := ⟨k - 1, by omega⟩
  rw [tinderref08_twin.l0, if_neg (by omega), List.drop_eq_nil_of_le (by rw [List.length_take]; omega)]
  rfl
 | d + 1, k, i, h0, h1, hk => by
  obtain ⟨k, rfl⟩ : ∃ m, k = m + 1 := ⟨k - 1, by omega⟩
  have hw : wrap64 (i + 1) = i + 1 := by unfold wrap64; omega
  have hx : rd_T91 t i ∈ t := by
   unfold rd_T91
   rw [List.getD_eq_getElem?_getD, List.getElem?_eq_getElem (show i.toNat < t.length by omega)]
   exact List.getElem_mem _
  have ih := twin_go t p s u n hn ht hU F hF d k (i + 1) (by omega) (by omega) (by omega)
  rw [tinderref08_twin.l0, if_pos (by omega), if_pos h0, if_pos (by omega), hw, ih, same3_eq _ _ (hU _ hx) k (by have := hF _ hx; omega), Option.bind_some, any_take (isN p s u) z91 t n i.toNat (by omega) hn, show (i + 1).toNat = i.toNat + 1 by omega]
  rw [show t.getD i.toNat z91 = rd_T91 t i from rfl, isN]
  by_cases h2 : (rd_T91 t i).f2 = p
  ·rw [if_pos h2]
   by_cases h3 : (rd_T91 t i).f0.toList = s.toList
   ·rw [if_pos h3]
    by_cases h4 : (rd_T91 t i).f1 = u
    ·simp [h2, h3, h4]
    ·simp [h2, h3, h4]
   ·rw [if_neg h3]
    simp [h3]
  ·rw [if_neg h2]
   simp [h2]
theorem pfind_go (l : List S106) (s : ByteArray) (hl : l.length ≤ 1000000) : ∀ (d k : Nat) (i : Int), 0 ≤ i → i + d = l.length → d < k → tinderref08_find.l0 k l s i = some (if idxP (isP s) (l.drop i.toNat) < 0 then -1 else idxP (isP s) (l.drop i.toNat) + i)
 | 0, k, i, h0, h1, hk => by
  obtain ⟨k, rfl⟩ : ∃ m, k = m + 1 := ⟨k - 1, by omega⟩
  rw [tinderref08_find.l0, if_neg (by omega), List.drop_eq_nil_of_le (by omega)]
  rfl
 | d + 1, k, i, h0, h1, hk => by
  obtain ⟨k, rfl⟩ : ∃ m, k = m + 1 := ⟨k - 1, by omega⟩
  have hw : wrap64 (i + 1) = i + 1 := by unfold wrap64; omega
  have hr := idxP_range (isP s) (l.drop (i + 1).toNat)
  have he : l.drop i.toNat = rd_T106 l i :: l.drop (i + 1).toNat := by
   rw [List.drop_eq_getElem_cons (show i.toNat < l.length by omega), show (i + 1).toNat = i.toNat + 1 by omega]
   simp [rd_T106, List.getD_eq_getElem?_getD, List.getElem?_eq_getElem (show i.toNat < l.length by omega)]
  rw [tinderref08_find.l0, if_pos (by omega), if_pos h0, hw, pfind_go l s hl d k (i + 1) (by omega) (by omega) (by omega), he, idxP]
  by_cases h2 : (rd_T106 l i).f0.toList = s.toList
  ·have hp : isP s (rd_T106 l i) = true := beq_iff_eq.2 h2
   rw [if_pos h2, if_pos hp, if_neg (by decide), Int.zero_add]
  ·have hp : isP s (rd_T106 l i) = false := beq_eq_false_iff_ne.2 h2
   rw [if_neg h2, if_neg (show ¬ isP s (rd_T106 l i) = true by rw [hp]; exact Bool.false_ne_true)]
   by_cases h3 : idxP (isP s) (l.drop (i + 1).toNat) < 0
   ·rw [if_pos h3, if_pos h3, if_pos (by decide)]
   ·rw [if_neg h3, if_neg h3, if_neg (by omega)]
    congr 1
    omega
theorem pfind_eq (l : List S106) (s : ByteArray) (hl : l.length ≤ 1000000) (k : Nat) (hk : l.length < k) : tinderref08_find.f k l s = some (idxP (isP s) l) := by
 have hr := idxP_range (isP s) l
 unfold tinderref08_find.f
 rw [pfind_go l s hl l.length k 0 (Int.le_refl _) (by omega) hk]
 rw [show l.drop (0 : Int).toNat = l from rfl]
 congr 1
 split <;> omega
theorem range_at (n i : Nat) (h : i < n) (p : Nat → Bool) : ((List.range n).drop i).all p = (p i && ((List.range n).drop (i + 1)).all p) := by
 rw [List.drop_eq_getElem_cons (show i < (List.range n).length by rw [List.length_range]; exact h), List.all_cons, List.getElem_range]
/-- The round over a device's properties. -/
def nodeR (t : List S91) (i : Nat) : Bool := (!decide (16 < ((t.getD i z91).f4.length : Int)) && propsF (t.getD i z91).f3) && (if (i : Int) == 0 then true else kidOk (t.take i) i (t.getD i z91))
/-- From the device's second part on. -/
theorem node_first (t : List S91) (h : 0 < t.length) : (List.range t.length).all (nodeOk t) = (rootOk (rd_T91 t 0) && (List.range t.length).all (nodeR t)) := by
 have e1 := range_at t.length 0 h (nodeOk t)
 have e2 := range_at t.length 0 h (nodeR t)
 rw [List.drop_zero] at e1 e2
 rw [e1, e2]
 have e3 : ((List.range t.length).drop 1).all (nodeOk t) = ((List.range t.length).drop 1).all (nodeR t) := by
  rw [Bool.eq_iff_iff, List.all_eq_true, List.all_eq_true]
  have key : ∀ j ∈ (List.range t.length).drop 1, nodeOk t j = nodeR t j := by
   intro j hj
   have h1 : 1 ≤ j := by
    obtain ⟨m, hm, rfl⟩ := List.getElem_of_mem hj
    rw [List.getElem_drop, List.getElem_range]
    omega
   unfold nodeOk nodeR
   rw [if_neg (show ¬ ((j : Int) == 0) = true by rw [beq_eq_false_iff_ne.2 (by omega)]; exact Bool.false_ne_true), if_neg (show ¬ ((j : Int) == 0) = true by rw [beq_eq_false_iff_ne.2 (by omega)]; exact Bool.false_ne_true)]
  exact ⟨fun hh j hj => by rw [← key j hj]; exact hh j hj, fun hh j hj => by rw [key j hj]; exact hh j hj⟩
 rw [show (0 + 1 : Nat) = 1 from rfl, e3]
 have e4 : nodeOk t 0 = (rootOk (rd_T91 t 0) && nodeR t 0) := by
  unfold nodeOk nodeR
  rw [show rd_T91 t 0 = t.getD 0 z91 from rfl]
  simp [Bool.and_comm]
 rw [e4, Bool.and_assoc]
end Go.Proofs.Ytfpkakedlapmkaa.Q
end
section
namespace Go.Proofs.Ytfpkakedlapmkaa.Q
open Go.RowKit Go.Proofs.YtfpkakedlapmkaaW.PrintWords Go.Proofs.YtfpkakedlapmkaaW.PrintLast Go.Proofs.YtfpkakedlapmkaaW.PrintMore
set_option linter.unusedVariables false
set_option linter.unusedSimpArgs false

attribute [local go_sem] max2_int min2_int max_two min_two max_three min_three max_four min_four
/-! ### tinderref08_Formed: function 49 -/
mutual
def tinderref08_Formed.j0 : Nat → List (S91) → Bool → Option (Bool)
 | 0, _, _ => none
 | k + 1, x0, x35 => if x35 = true then (some false) else (tinderref08_Formed.l0 k x0 0)
def tinderref08_Formed.l0 : Nat → List (S91) → Int → Option (Bool)
 | 0, _, _ => none
 | k + 1, x0, x3 => if x3 < (x0.length : Int) then (if 0 ≤ x3 then (if x3 > 0 then ((tinderref05_Named.f k ((rd_T91 x0 x3).f0)).bind fun t50006 => (if t50006 = true then (if (((rd_T91 x0 x3).f1).length : Int) > 4 then (tinderref08_Formed.j2 k x0 x3 true ((rd_T91 x0 x3).f0) ((rd_T91 x0 x3).f1) ((rd_T91 x0 x3).f2) ((rd_T91 x0 x3).f3) ((rd_T91 x0 x3).f4)) else (if ((rd_T91 x0 x3).f2) < 0 then (tinderref08_Formed.j2 k x0 x3 true ((rd_T91 x0 x3).f0) ((rd_T91 x0 x3).f1) ((rd_T91 x0 x3).f2) ((rd_T91 x0 x3).f3) ((rd_T91 x0 x3).f4)) else (if ((rd_T91 x0 x3).f2) ≥ x3 then (tinderref08_Formed.j2 k x0 x3 true ((rd_T91 x0 x3).f0) ((rd_T91 x0 x3).f1) ((rd_T91 x0 x3).f2) ((rd_T91 x0 x3).f3) ((rd_T91 x0 x3).f4)) else ((tinderref08_twin.f k x0 x3 ((rd_T91 x0 x3).f2) ((rd_T91 x0 x3).f0) ((rd_T91 x0 x3).f1)).bind fun t50007 => (tinderref08_Formed.j2 k x0 x3 t50007 ((rd_T91 x0 x3).f0) ((rd_T91 x0 x3).f1) ((rd_T91 x0 x3).f2) ((rd_T91 x0 x3).f3) ((rd_T91 x0 x3).f4)))))) else (tinderref08_Formed.j2 k x0 x3 true ((rd_T91 x0 x3).f0) ((rd_T91 x0 x3).f1) ((rd_T91 x0 x3).f2) ((rd_T91 x0 x3).f3) ((rd_T91 x0 x3).f4)))) else (tinderref08_Formed.j2 k x0 x3 false ((rd_T91 x0 x3).f0) ((rd_T91 x0 x3).f1) ((rd_T91 x0 x3).f2) ((rd_T91 x0 x3).f3) ((rd_T91 x0 x3).f4))) else (none)) else (some true)
def tinderref08_Formed.j2 : Nat → List (S91) → Int → Bool → ByteArray → List Int → Int → List (S106) → List Int → Option (Bool)
 | 0, _, _, _, _, _, _, _, _ => none
 | k + 1, x0, x3, x81, x50006000, x50006001, x50006002, x50006003, x50006004 => if x81 = true then (some false) else (if (x50006003.length : Int) > 16 then (tinderref08_Formed.j3 k x0 x3 true x50006000 x50006001 x50006002 x50006003 x50006004) else (tinderref08_Formed.j3 k x0 x3 (decide ((x50006004.length : Int) > 16)) x50006000 x50006001 x50006002 x50006003 x50006004))
def tinderref08_Formed.j3 : Nat → List (S91) → Int → Bool → ByteArray → List Int → Int → List (S106) → List Int → Option (Bool)
 | 0, _, _, _, _, _, _, _, _ => none
 | k + 1, x0, x3, x91, x50006000, x50006001, x50006002, x50006003, x50006004 => if x91 = true then (some false) else (tinderref08_Formed.l1 k x0 x3 0 x50006000 x50006001 x50006002 x50006003 x50006004)
def tinderref08_Formed.l1 : Nat → List (S91) → Int → Int → ByteArray → List Int → Int → List (S106) → List Int → Option (Bool)
 | 0, _, _, _, _, _, _, _, _ => none
 | k + 1, x0, x3, x5, x50006000, x50006001, x50006002, x50006003, x50006004 => if x5 < (x50006003.length : Int) then (if 0 ≤ x5 then ((tinderref05_Named.f k ((rd_T106 x50006003 x5).f0)).bind fun t50009 => (if t50009 = true then (if (((rd_T106 x50006003 x5).f1).length : Int) > 256 then (some false) else (if x5 ≤ (x50006003.length : Int) then ((tinderref08_find.f k (x50006003.take (x5 : Int).toNat) ((rd_T106 x50006003 x5).f0)).bind fun t50016 => (if t50016 ≥ 0 then (some false) else (tinderref08_Formed.l1 k x0 x3 (wrap64 (x5 + 1)) x50006000 x50006001 x50006002 x50006003 x50006004))) else (none))) else (some false))) else (none)) else (tinderref08_Formed.l0 k x0 (wrap64 (x3 + 1)))
end
def tinderref08_Formed.f (k : Nat) (l0 : List (S91)) : Option (Bool) := if (l0.length : Int) < 1 then (tinderref08_Formed.j0 k l0 true) else (if (l0.length : Int) > 32 then (tinderref08_Formed.j0 k l0 true) else (if 0 < (l0.length : Int) then (if ((rd_T91 l0 0).f0).toList = ([] : List UInt8) then (if (((rd_T91 l0 0).f1).length : Int) > 0 then (tinderref08_Formed.j0 k l0 true) else (tinderref08_Formed.j0 k l0 (((rd_T91 l0 0).f2) != (-1)))) else (tinderref08_Formed.j0 k l0 true)) else (none)))
def tinderref08_Formed.T14 : Bool × List (List Nat × List Nat) := (true, [([], []), ([0], [0]), ([], []), ([1, 2], [1, 2]), ([3], [3]), ([4], [4]), ([5], [5]), ([6], [6]), ([7, 6], [7]), ([8], [8]), ([9, 8], [8, 9]), ([8], [8]), ([10, 11, 8], [8, 10, 11]), ([12, 8], [8, 12]), ([13, 8], [8, 13]), ([14, 8], [8, 14]), ([15, 8], [8, 15]), ([8, 16], [8, 16]), ([17, 8], [17]), ([18], [18]), ([19, 18], [18, 19]), ([18], [18]), ([20, 21, 18], [18, 20, 21]), ([18], [18]), ([23, 18], [18, 23]), ([18], [18]), ([24, 25, 18], [18, 24, 25]), ([26, 18], [18, 26]), ([27, 18], [18, 27]), ([22, 28, 18, 18], [18, 22, 28]), ([29, 18], [18, 29]), ([18, 30], [18, 30])])
def tinderref08_Formed.B14 : List Nat := [0, 1, 0, 7, 15, 31, 63, 127, 255, 511, 1023, 511, 4095, 8191, 16383, 32767, 65535, 131071, 262143, 524287, 1048575, 524287, 4194303, 524287, 8912895, 524287, 59244543, 126353407, 260571135, 536870911, 1073741823, 2147483647]

end Go.Proofs.Ytfpkakedlapmkaa.Q
end
section
namespace Go.Proofs.Ytfpkakedlapmkaa.Q
open Go.RowKit Go.Proofs.YtfpkakedlapmkaaW.PrintWords Go.Proofs.YtfpkakedlapmkaaW.PrintLast Go.Proofs.YtfpkakedlapmkaaW.PrintMore
set_option linter.unusedVariables false
set_option linter.unusedSimpArgs false

attribute [local go_sem] max2_int min2_int max_two min_two max_three min_three max_four min_four
/-! ### tinderref04_Same: function 67 -/
def tinderref04_Same.f (l0 : List Int) (l1 : List Int) : Option (Bool) := some ((strOfNums l0).toList == (strOfNums l1).toList)
set_option maxHeartbeats 8000000 in
set_option maxRecDepth 100000 in
theorem tinderref04_Same.calls (A0 : Option Addr) (c0 : Nat) (l0 : List Int) (A1 : Option Addr) (c1 : Nat) (l1 : List Int) (r : Bool) (w : World) (hr0 : Kd.C (Kd.int .u8) w A0 l0.length l0) (hc0 : l0.length ≤ c0) (hr1 : Kd.C (Kd.int .u8) w A1 l1.length l1) (hc1 : l1.length ≤ c1) (h : tinderref04_Same.f l0 l1 = some r) :
  Calls Try.prog 67 #[.slice A0 l0.length c0, .slice A1 l1.length c1] w fun e w' => e = .returned (.bool r) ∧ Drawn0 w w' := by
 have HR0 := Aside0.mk hr0
 have HC0 := Aside0.mk hc0
 clear hr0 hc0
 have HR1 := Aside0.mk hr1
 have HC1 := Aside0.mk hc1
 clear hr1 hc1
 have H : (some ((strOfNums l0).toList == (strOfNums l1).toList)) = some r := h
 clear h
 obtain rfl := Option.some.inj H
 have hcv3 := Kd.C_string (P := Try.prog) (A := A0) (c := c0) Try.underlying25 Try.underlying5 Try.underlying9 HR0.out
 have hcv4 := Kd.C_string (P := Try.prog) (A := A1) (c := c1) Try.underlying25 Try.underlying5 Try.underlying9 HR1.out
 go_enter Try.func67, Try.ntmps67
 go_wp2
 go_ret
 exact ⟨by first | rfl | (simp; done) | (simp [*]; done), by repeat (first | exact Drawn0.refl _ | apply Drawn0.step)⟩

end Go.Proofs.Ytfpkakedlapmkaa.Q
end
section
namespace Go.Proofs.Ytfpkakedlapmkaa.Q
open Go.RowKit Go.Proofs.YtfpkakedlapmkaaW.PrintWords Go.Proofs.YtfpkakedlapmkaaW.PrintLast Go.Proofs.YtfpkakedlapmkaaW.PrintMore
set_option linter.unusedVariables false
set_option linter.unusedSimpArgs false

attribute [local go_sem] max2_int min2_int max_two min_two max_three min_three max_four min_four
/-! ### tinderref08_SameNode: function 88 -/
mutual
def tinderref08_SameNode.j0 : Nat → Bool → ByteArray → List Int → Int → List (S106) → List Int → ByteArray → List Int → Int → List (S106) → List Int → Option (Bool)
 | 0, _, _, _, _, _, _, _, _, _, _, _ => none
 | k + 1, x42, x89002000, x89002001, x89002002, x89002003, x89002004, x89003000, x89003001, x89003002, x89003003, x89003004 => if x42 = true then (some false) else (tinderref08_SameNode.l0 k 0 x89002000 x89002001 x89002002 x89002003 x89002004 x89003000 x89003001 x89003002 x89003003 x89003004)
def tinderref08_SameNode.l0 : Nat → Int → ByteArray → List Int → Int → List (S106) → List Int → ByteArray → List Int → Int → List (S106) → List Int → Option (Bool)
 | 0, _, _, _, _, _, _, _, _, _, _, _ => none
 | k + 1, x5, x89002000, x89002001, x89002002, x89002003, x89002004, x89003000, x89003001, x89003002, x89003003, x89003004 => if x5 < (x89002003.length : Int) then (if 0 ≤ x5 then (if x5 < (x89003003.length : Int) then (if ((rd_T106 x89002003 x5).f0).toList = ((rd_T106 x89003003 x5).f0).toList then ((tinderref04_Same.f ((rd_T106 x89002003 x5).f1) ((rd_T106 x89003003 x5).f1)).bind fun t89009 => (if t89009 = true then (tinderref08_SameNode.l0 k (wrap64 (x5 + 1)) x89002000 x89002001 x89002002 x89002003 x89002004 x89003000 x89003001 x89003002 x89003003 x89003004) else (some false))) else (some false)) else (none)) else (none)) else (some true)
end
def tinderref08_SameNode.f (k : Nat) (a0_0 : ByteArray) (l0_1 : List Int) (a0_2 : Int) (l0_3 : List (S106)) (l0_4 : List Int) (a1_0 : ByteArray) (l1_1 : List Int) (a1_2 : Int) (l1_3 : List (S106)) (l1_4 : List Int) : Option (Bool) := if a0_0.toList = a1_0.toList then (if a0_2 = a1_2 then ((tinderref03_Same.f k l0_1 l1_1).bind fun t89003 => (if t89003 = true then ((tinderref03_Same.f k l0_4 l1_4).bind fun t89004 => (if t89004 = true then (tinderref08_SameNode.j0 k ((l0_3.length : Int) != (l1_3.length : Int)) a0_0 l0_1 a0_2 l0_3 l0_4 a1_0 l1_1 a1_2 l1_3 l1_4) else (tinderref08_SameNode.j0 k true a0_0 l0_1 a0_2 l0_3 l0_4 a1_0 l1_1 a1_2 l1_3 l1_4))) else (tinderref08_SameNode.j0 k true a0_0 l0_1 a0_2 l0_3 l0_4 a1_0 l1_1 a1_2 l1_3 l1_4))) else (tinderref08_SameNode.j0 k true a0_0 l0_1 a0_2 l0_3 l0_4 a1_0 l1_1 a1_2 l1_3 l1_4)) else (tinderref08_SameNode.j0 k true a0_0 l0_1 a0_2 l0_3 l0_4 a1_0 l1_1 a1_2 l1_3 l1_4)

end Go.Proofs.Ytfpkakedlapmkaa.Q
end
section
namespace Go.Proofs.Ytfpkakedlapmkaa.Q
open Go.RowKit Go.Proofs.YtfpkakedlapmkaaW.PrintWords Go.Proofs.YtfpkakedlapmkaaW.PrintLast Go.Proofs.YtfpkakedlapmkaaW.PrintMore
set_option linter.unusedVariables false
set_option linter.unusedSimpArgs false

attribute [local go_sem] max2_int min2_int max_two min_two max_three min_three max_four min_four
/-! ### tinderref08_Same: function 68 -/
def tinderref08_Same.l0 : Nat → List (S91) → List (S91) → Int → Option (Bool)
 | 0, _, _, _ => none
 | k + 1, x0, x1, x5 => if x5 < (x0.length : Int) then (if 0 ≤ x5 then (if x5 < (x1.length : Int) then ((tinderref08_SameNode.f k ((rd_T91 x0 x5).f0) ((rd_T91 x0 x5).f1) ((rd_T91 x0 x5).f2) ((rd_T91 x0 x5).f3) ((rd_T91 x0 x5).f4) ((rd_T91 x1 x5).f0) ((rd_T91 x1 x5).f1) ((rd_T91 x1 x5).f2) ((rd_T91 x1 x5).f3) ((rd_T91 x1 x5).f4)).bind fun t69003 => (if t69003 = true then (tinderref08_Same.l0 k x0 x1 (wrap64 (x5 + 1))) else (some false))) else (none)) else (none)) else (some true)
def tinderref08_Same.f (k : Nat) (l0 : List (S91)) (l1 : List (S91)) : Option (Bool) := if (l0.length : Int) = (l1.length : Int) then (tinderref08_Same.l0 k l0 l1 0) else (some false)
def tinderref08_Same.T6 : Bool × List (List Nat × List Nat) := (true, [([], []), ([], []), ([0, 1], [0, 1]), ([2], [2]), ([], []), ([], []), ([4, 5], [4, 5]), ([6], [6]), ([3, 7], [3, 7]), ([8], [8])])
def tinderref08_Same.B6 : List Nat := [0, 0, 3, 7, 0, 0, 48, 112, 255, 511]

end Go.Proofs.Ytfpkakedlapmkaa.Q
end
section
set_option linter.unusedSimpArgs false
set_option linter.unusedVariables false
namespace Go.Proofs.Ytfpkakedlapmkaa.Q
open Go.RowKit Go.Proofs.YtfpkakedlapmkaaW.PrintWords Go.Proofs.YtfpkakedlapmkaaW.PrintLast
end Go.Proofs.Ytfpkakedlapmkaa.Q
end
section
set_option linter.unusedSimpArgs false
set_option linter.unusedVariables false
namespace Go.Proofs.Ytfpkakedlapmkaa.Q
open Go.RowKit Go.Proofs.YtfpkakedlapmkaaW.PrintWords Go.Proofs.YtfpkakedlapmkaaW.PrintLast
theorem same4_self (x : List Int) : tinderref04_Same.f x x = some true := by
 unfold tinderref04_Same.f
 rw [beq_self_eq_true]
/-- Lists of a device that are no longer than B. -/
def LenN (B : Nat) (x : S91) : Prop := x.f1.length ≤ B ∧ x.f4.length ≤ B ∧ x.f3.length ≤ B
end Go.Proofs.Ytfpkakedlapmkaa.Q
end
section
namespace Go.Proofs.Ytfpkakedlapmkaa.Q
open Go.RowKit Go.Proofs.YtfpkakedlapmkaaW.PrintWords Go.Proofs.YtfpkakedlapmkaaW.PrintLast Go.Proofs.YtfpkakedlapmkaaW.PrintMore
set_option linter.unusedVariables false
set_option linter.unusedSimpArgs false

attribute [local go_sem] max2_int min2_int max_two min_two max_three min_three max_four min_four
/-! ### tinderref03_Copy: function 61 -/
def tinderref03_Copy.f (l0 : List Int) : Option (List Int) := if ([] : List Int).length + l0.length < 35184372088832 then (some (([] : List Int) ++ l0)) else (none)

end Go.Proofs.Ytfpkakedlapmkaa.Q
end
section
namespace Go.Proofs.Ytfpkakedlapmkaa.Q
open Go.RowKit Go.Proofs.YtfpkakedlapmkaaW.PrintWords Go.Proofs.YtfpkakedlapmkaaW.PrintLast Go.Proofs.YtfpkakedlapmkaaW.PrintMore
set_option linter.unusedVariables false
set_option linter.unusedSimpArgs false

attribute [local go_sem] max2_int min2_int max_two min_two max_three min_three max_four min_four
/-! ### tinderref04_Copy: function 62 -/
def tinderref04_Copy.f (l0 : List Int) : Option (List Int) := if ([] : List Int).length + l0.length < 140737488355328 then (some (([] : List Int) ++ l0)) else (none)

end Go.Proofs.Ytfpkakedlapmkaa.Q
end
section
namespace Go.Proofs.Ytfpkakedlapmkaa.Q
open Go.RowKit Go.Proofs.YtfpkakedlapmkaaW.PrintWords Go.Proofs.YtfpkakedlapmkaaW.PrintLast Go.Proofs.YtfpkakedlapmkaaW.PrintMore
set_option linter.unusedVariables false
set_option linter.unusedSimpArgs false

attribute [local go_sem] max2_int min2_int max_two min_two max_three min_three max_four min_four
/-! ### tinderref08_Copy: function 63 -/
mutual
def tinderref08_Copy.l0 : Nat → List (S91) → List (S91) → Int → Option ((List (S91)))
 | 0, _, _, _ => none
 | k + 1, x0, x3, x4 => if x4 < (x0.length : Int) then (if 0 ≤ x4 then ((tinderref03_Copy.f ((rd_T91 x0 x4).f1)).bind fun t64004 => ((tinderref03_Copy.f ((rd_T91 x0 x4).f4)).bind fun t64008 => (tinderref08_Copy.l1 k x0 x3 x4 0 ((rd_T91 x0 x4).f0) t64004 ((rd_T91 x0 x4).f2) ([] : List (S106)) t64008))) else (none)) else (some x3)
def tinderref08_Copy.l1 : Nat → List (S91) → List (S91) → Int → Int → ByteArray → List Int → Int → List (S106) → List Int → Option ((List (S91)))
 | 0, _, _, _, _, _, _, _, _, _ => none
 | k + 1, x0, x3, x4, x6, x64012000, x64012001, x64012002, x64012003, x64012004 => if 0 ≤ x4 then (if x4 < (x0.length : Int) then (if x6 < (((rd_T91 x0 x4).f3).length : Int) then (if 0 ≤ x6 then ((tinderref04_Copy.f ((rd_T106 ((rd_T91 x0 x4).f3) x6).f1)).bind fun t64017 => (if x64012003.length < 3518437208883 then (tinderref08_Copy.l1 k x0 x3 x4 (wrap64 (x6 + 1)) x64012000 x64012001 x64012002 (x64012003 ++ [(⟨(rd_T106 ((rd_T91 x0 x4).f3) x6).f0, t64017⟩ : S106)]) x64012004) else (none))) else (none)) else (if x3.length < 1466015503701 then (tinderref08_Copy.l0 k x0 (x3 ++ [(⟨x64012000, x64012001, x64012002, x64012003, x64012004⟩ : S91)]) (wrap64 (x4 + 1))) else (none))) else (none)) else (none)
end
def tinderref08_Copy.f (k : Nat) (l0 : List (S91)) : Option ((List (S91))) := tinderref08_Copy.l0 k l0 ([] : List (S91)) 0
def tinderref08_Copy.T5 : Bool × List (List Nat × List Nat) := (true, [([], []), ([], []), ([0, 1], [0, 1]), ([2], [2]), ([3], [3]), ([], []), ([], []), ([5, 6], [5, 6]), ([7], [7]), ([8], [8]), ([], []), ([], []), ([10, 11], [10, 11]), ([12], [12]), ([13], [13]), ([14], [14]), ([], []), ([], []), ([16, 17], [16, 17]), ([18], [18]), ([19], [19]), ([20, 15], [20]), ([4, 9, 15, 21], [4, 9, 15, 21]), ([], []), ([23, 22, 21, 0, 1, 2, 3, 4, 5, 6, 7, 8, 9, 10, 11, 12, 13, 14, 15, 16, 17, 18, 19, 20, 21, 22, 23], [22, 23])])
def tinderref08_Copy.B5 : List Nat := [0, 0, 3, 7, 15, 0, 0, 96, 224, 480, 0, 0, 3072, 7168, 15360, 31744, 0, 0, 196608, 458752, 983040, 2096128, 4194303, 0, 16777215]
def tinderref08_Copy.T9 : Bool × List (List Nat × List Nat) := (true, [([], []), ([0], [0]), ([], []), ([], []), ([2, 3], [2, 3]), ([4], [4]), ([5], [5]), ([], []), ([6, 7], [6, 7]), ([8], [8]), ([9], [9]), ([], []), ([], []), ([11, 12], [11, 12]), ([13], [13]), ([14], [14]), ([], []), ([15, 16], [15, 16]), ([17], [17]), ([18], [18]), ([19], [19]), ([10, 20], [10, 20]), ([21], [21]), ([1, 22, 20], [1, 22]), ([0, 1, 2, 3, 4, 5, 6, 7, 8, 9, 10, 11, 12, 13, 14, 15, 16, 17, 18, 19, 20, 21, 22, 23], []), ([24, 23, 23, 0, 1, 2, 3, 4, 5, 6, 7, 8, 9, 10, 11, 12, 13, 14, 15, 16, 17, 18, 19, 20, 21, 22, 23], [23, 24])])
def tinderref08_Copy.B9 : List Nat := [0, 1, 0, 0, 12, 28, 60, 0, 252, 508, 1020, 0, 0, 6144, 14336, 30720, 0, 129024, 260096, 522240, 1046528, 2097148, 4194300, 8388607, 16777215, 33554431]

end Go.Proofs.Ytfpkakedlapmkaa.Q
end
section
set_option linter.unusedSimpArgs false
set_option linter.unusedVariables false
namespace Go.Proofs.Ytfpkakedlapmkaa.Q
open Go.RowKit Go.Proofs.YtfpkakedlapmkaaW.PrintWords Go.Proofs.YtfpkakedlapmkaaW.PrintLast
/-- Lists short enough for a copy to be made. -/
def GoodN (x : S91) : Prop := x.f1.length < 35184372088832 ∧ x.f4.length < 35184372088832 ∧ x.f3.length < 3518437208883 ∧ ∀ p ∈ x.f3, p.f1.length < 140737488355328
def GoodT (t : List S91) : Prop := t.length < 1466015503701 ∧ ∀ x ∈ t, GoodN x
theorem short_of {t : List S91} (h : GoodT t) : shortT t = true := by
 simp only [shortT, shortN, shortP, Bool.and_eq_true, decide_eq_true_eq, List.all_eq_true]
 refine ⟨by have := h.1; omega, fun x hx => ?_⟩
 obtain ⟨h1, h2, h3, h4⟩ := h.2 x hx
 exact ⟨by omega, by omega, by omega, h4⟩
end Go.Proofs.Ytfpkakedlapmkaa.Q
end
section
namespace Go.Proofs.Ytfpkakedlapmkaa.Q
open Go.RowKit Go.Proofs.YtfpkakedlapmkaaW.PrintWords Go.Proofs.YtfpkakedlapmkaaW.PrintLast Go.Proofs.YtfpkakedlapmkaaW.PrintMore
set_option linter.unusedVariables false
set_option linter.unusedSimpArgs false

attribute [local go_sem] max2_int min2_int max_two min_two max_three min_three max_four min_four
theorem eqA69 (d : Nat) (w : World) (x0 y0 : Int) (x1 y1 : Int) :
  (Op.equalIn (d + 2) 69 (.agg #[.int .i64 x0, .int .u32 x1]) (.agg #[.int .i64 y0, .int .u32 y1])).run Try.prog w = .ok (x0 == y0 && (x1 == y1)) w := by
 refine eqA_of Try.underlying69 (by kernel_rfl) ?_
 refine eqf_cons (by rfl) (by go_simp; rfl) (by go_simp; rfl) (by go_simp) ?_
 exact eqf_last (by rfl) (by go_simp; rfl) (by go_simp; rfl) (by go_simp)
end Go.Proofs.Ytfpkakedlapmkaa.Q
end
section
namespace Go.Proofs.Ytfpkakedlapmkaa.Q
open Go.RowKit Go.Proofs.YtfpkakedlapmkaaW.PrintWords Go.Proofs.YtfpkakedlapmkaaW.PrintLast Go.Proofs.YtfpkakedlapmkaaW.PrintMore
set_option linter.unusedVariables false
set_option linter.unusedSimpArgs false

attribute [local go_sem] max2_int min2_int max_two min_two max_three min_three max_four min_four
attribute [local go_sem high] eqA69
/-! ### tinderref09_SameWord: function 52 -/
mutual
def tinderref09_SameWord.j0 : Nat → Bool → ByteArray → Int → Int → Int → List (S69) → ByteArray → Int → Int → Int → List (S69) → Option (Bool)
 | 0, _, _, _, _, _, _, _, _, _, _, _ => none
 | k + 1, x40, x53002000, x53002001, x53002002, x53002003, x53002004, x53003000, x53003001, x53003002, x53003003, x53003004 => if x40 = true then (some false) else (tinderref09_SameWord.l0 k 0 x53002000 x53002001 x53002002 x53002003 x53002004 x53003000 x53003001 x53003002 x53003003 x53003004)
def tinderref09_SameWord.l0 : Nat → Int → ByteArray → Int → Int → Int → List (S69) → ByteArray → Int → Int → Int → List (S69) → Option (Bool)
 | 0, _, _, _, _, _, _, _, _, _, _, _ => none
 | k + 1, x5, x53002000, x53002001, x53002002, x53002003, x53002004, x53003000, x53003001, x53003002, x53003003, x53003004 => if x5 < (x53002004.length : Int) then (if 0 ≤ x5 then (if x5 < (x53003004.length : Int) then (if (!(((rd_T69 x53002004 x5).f0) == ((rd_T69 x53003004 x5).f0)) || (!(((rd_T69 x53002004 x5).f1) == ((rd_T69 x53003004 x5).f1)))) = true then (some false) else (tinderref09_SameWord.l0 k (wrap64 (x5 + 1)) x53002000 x53002001 x53002002 x53002003 x53002004 x53003000 x53003001 x53003002 x53003003 x53003004)) else (none)) else (none)) else (some true)
end
def tinderref09_SameWord.f (k : Nat) (a0_0 : ByteArray) (a0_1 : Int) (a0_2 : Int) (a0_3 : Int) (l0_4 : List (S69)) (a1_0 : ByteArray) (a1_1 : Int) (a1_2 : Int) (a1_3 : Int) (l1_4 : List (S69)) : Option (Bool) := if a0_0.toList = a1_0.toList then (if a0_1 = a1_1 then (if a0_2 = a1_2 then (if a0_3 = a1_3 then (tinderref09_SameWord.j0 k ((l0_4.length : Int) != (l1_4.length : Int)) a0_0 a0_1 a0_2 a0_3 l0_4 a1_0 a1_1 a1_2 a1_3 l1_4) else (tinderref09_SameWord.j0 k true a0_0 a0_1 a0_2 a0_3 l0_4 a1_0 a1_1 a1_2 a1_3 l1_4)) else (tinderref09_SameWord.j0 k true a0_0 a0_1 a0_2 a0_3 l0_4 a1_0 a1_1 a1_2 a1_3 l1_4)) else (tinderref09_SameWord.j0 k true a0_0 a0_1 a0_2 a0_3 l0_4 a1_0 a1_1 a1_2 a1_3 l1_4)) else (tinderref09_SameWord.j0 k true a0_0 a0_1 a0_2 a0_3 l0_4 a1_0 a1_1 a1_2 a1_3 l1_4)
set_option maxHeartbeats 8000000 in
set_option maxRecDepth 100000 in
theorem tinderref09_SameWord.calls (k : Nat) (a0_0 : ByteArray) (a0_1 : Int) (a0_2 : Int) (a0_3 : Int) (A0_4 : Option Addr) (c0_4 : Nat) (l0_4 : List (S69)) (a1_0 : ByteArray) (a1_1 : Int) (a1_2 : Int) (a1_3 : Int) (A1_4 : Option Addr) (c1_4 : Nat) (l1_4 : List (S69)) (r : Bool) (w : World) (hr0_4 : Kd.C k69 w A0_4 l0_4.length l0_4) (hc0_4 : l0_4.length ≤ c0_4) (hr1_4 : Kd.C k69 w A1_4 l1_4.length l1_4) (hc1_4 : l1_4.length ≤ c1_4) (h : tinderref09_SameWord.f k a0_0 a0_1 a0_2 a0_3 l0_4 a1_0 a1_1 a1_2 a1_3 l1_4 = some r) :
  Calls Try.prog 52 #[.agg #[.string a0_0, .int .i64 a0_1, .int .i64 a0_2, .int .u32 a0_3, .slice A0_4 l0_4.length c0_4], .agg #[.string a1_0, .int .i64 a1_1, .int .i64 a1_2, .int .u32 a1_3, .slice A1_4 l1_4.length c1_4]] w fun e w' => e = .returned (.bool r) ∧ Below w.heap.size w w' := by
 have hu51 := Try.underlying51
 have hu69 := Try.underlying69
 have HR0_4 := Aside0.mk hr0_4
 have HC0_4 := Aside0.mk hc0_4
 clear hr0_4 hc0_4
 have HR1_4 := Aside0.mk hr1_4
 have HC1_4 := Aside0.mk hc1_4
 clear hr1_4 hc1_4
 have HB := Aside0.mk (Below.refl w.heap.size w)
 have H : (if a0_0.toList = a1_0.toList then (if a0_1 = a1_1 then (if a0_2 = a1_2 then (if a0_3 = a1_3 then (tinderref09_SameWord.j0 k ((l0_4.length : Int) != (l1_4.length : Int)) a0_0 a0_1 a0_2 a0_3 l0_4 a1_0 a1_1 a1_2 a1_3 l1_4) else (tinderref09_SameWord.j0 k true a0_0 a0_1 a0_2 a0_3 l0_4 a1_0 a1_1 a1_2 a1_3 l1_4)) else (tinderref09_SameWord.j0 k true a0_0 a0_1 a0_2 a0_3 l0_4 a1_0 a1_1 a1_2 a1_3 l1_4)) else (tinderref09_SameWord.j0 k true a0_0 a0_1 a0_2 a0_3 l0_4 a1_0 a1_1 a1_2 a1_3 l1_4)) else (tinderref09_SameWord.j0 k true a0_0 a0_1 a0_2 a0_3 l0_4 a1_0 a1_1 a1_2 a1_3 l1_4)) = some r := h
 clear h
 have HC3 := Aside0.mk H
 clear H
 go_enter Try.func52, Try.ntmps52
 go_upto_region 1 with (first | ((with_reducible refine gate_dst (N := 2) rfl ?_); (try (refine gate_guard (by rfl) ?_; dsimp only)); refine box_event ?hg (N := 2) ?hd (cs := #[.string a0_0, .int .i64 a0_1, .int .i64 a0_2, .int .u32 a0_3, .slice A0_4 l0_4.length c0_4]) (t := 51) ?hr ?_; (case hd => rfl); (case hg => rfl); (case hr => first | (go_simp; done) | (go_simp; rfl)); intro gb53001 hg w4 hbox hb; have n0_ := Aside0.mk (below_step (by repeat (first | (with_reducible first | exact HB.out | apply below_alloc | apply pw_below_drewN | apply below_drew1) | exact HB.out)) hb); have n1_ := Aside0.mk (hbox); have n2_ := Aside0.mk ((by rw [hg]; exact (below_size (by repeat (first | (with_reducible first | exact HB.out | apply below_alloc | apply pw_below_drewN | apply below_drew1) | exact HB.out))) : w.heap.size ≤ gb53001)); have n3_ := Aside0.mk ((by rw [hg]; exact (below_size (by repeat (first | (with_reducible first | exact HB.out | apply below_alloc | apply pw_below_drewN | apply below_drew1) | exact HB.out))) : w.heap.size ≤ gb53001)); clear HB; have HB := n0_; have BK53001 := n1_; have GW53001 := n2_; have GE53001 := n3_; clear n0_ n1_ n2_ n3_; clear hb hbox hg) | ((with_reducible refine gate_dst (N := 3) rfl ?_); (try (refine gate_guard (by rfl) ?_; dsimp only)); refine box_event ?hg (N := 3) ?hd (cs := #[.string a1_0, .int .i64 a1_1, .int .i64 a1_2, .int .u32 a1_3, .slice A1_4 l1_4.length c1_4]) (t := 51) ?hr ?_; (case hd => rfl); (case hg => rfl); (case hr => first | (go_simp; done) | (go_simp; rfl)); intro gb53002 hg w5 hbox hb; have n0_ := Aside0.mk (blk_below (g := gb53001) (o := .cells #[.string a0_0, .int .i64 a0_1, .int .i64 a0_2, .int .u32 a0_3, .slice A0_4 l0_4.length c0_4] 51 (0, 0)) (by (with_reducible repeat (first | refine blk_drewN ?_ _ | refine blk_drew ?_ | refine blk_alloc ?_ _)); exact BK53001.out) hb); have n1_ := Aside0.mk (below_step (by repeat (first | (with_reducible first | exact HB.out | apply below_alloc | apply pw_below_drewN | apply below_drew1 | refine below_set ?_ GE53001.out) | exact HB.out)) hb); have n2_ := Aside0.mk (hbox); have n3_ := Aside0.mk ((by rw [hg]; exact (below_size (by repeat (first | (with_reducible first | exact HB.out | apply below_alloc | apply pw_below_drewN | apply below_drew1 | refine below_set ?_ GE53001.out) | exact HB.out))) : w.heap.size ≤ gb53002)); have n4_ := Aside0.mk ((by rw [hg]; exact (below_size (by repeat (first | (with_reducible first | exact HB.out | apply below_alloc | apply pw_below_drewN | apply below_drew1 | refine below_set ?_ GE53001.out) | exact HB.out))) : w.heap.size ≤ gb53002)); have n5_ := Aside0.mk ((by rw [hg]; exact Nat.ne_of_lt (blk_lt (g := gb53001) (o := .cells #[.string a0_0, .int .i64 a0_1, .int .i64 a0_2, .int .u32 a0_3, .slice A0_4 l0_4.length c0_4] 51 (0, 0)) (by (with_reducible repeat (first | refine blk_drewN ?_ _ | refine blk_drew ?_ | refine blk_alloc ?_ _)); exact BK53001.out)) : gb53001 ≠ gb53002)); have n6_ := Aside0.mk ((by rw [hg]; exact Nat.ne_of_gt (blk_lt (g := gb53001) (o := .cells #[.string a0_0, .int .i64 a0_1, .int .i64 a0_2, .int .u32 a0_3, .slice A0_4 l0_4.length c0_4] 51 (0, 0)) (by (with_reducible repeat (first | refine blk_drewN ?_ _ | refine blk_drew ?_ | refine blk_alloc ?_ _)); exact BK53001.out)) : gb53002 ≠ gb53001)); clear BK53001; clear HB; have BK53001 := n0_; have HB := n1_; have BK53002 := n2_; have GW53002 := n3_; have GE53002 := n4_; have NB53001_53002 := n5_; have NB53002_53001 := n6_; clear n0_ n1_ n2_ n3_ n4_ n5_ n6_; clear hb hbox hg))
 repeat (go_quiet (first | ((with_reducible refine gate_dst (N := 2) rfl ?_); (try (refine gate_guard (by rfl) ?_; dsimp only)); refine box_event ?hg (N := 2) ?hd (cs := #[.string a0_0, .int .i64 a0_1, .int .i64 a0_2, .int .u32 a0_3, .slice A0_4 l0_4.length c0_4]) (t := 51) ?hr ?_; (case hd => rfl); (case hg => rfl); (case hr => first | (go_simp; done) | (go_simp; rfl)); intro gb53001 hg w4 hbox hb; have n0_ := Aside0.mk (below_step (by repeat (first | (with_reducible first | exact HB.out | apply below_alloc | apply pw_below_drewN | apply below_drew1) | exact HB.out)) hb); have n1_ := Aside0.mk (hbox); have n2_ := Aside0.mk ((by rw [hg]; exact (below_size (by repeat (first | (with_reducible first | exact HB.out | apply below_alloc | apply pw_below_drewN | apply below_drew1) | exact HB.out))) : w.heap.size ≤ gb53001)); have n3_ := Aside0.mk ((by rw [hg]; exact (below_size (by repeat (first | (with_reducible first | exact HB.out | apply below_alloc | apply pw_below_drewN | apply below_drew1) | exact HB.out))) : w.heap.size ≤ gb53001)); clear HB; have HB := n0_; have BK53001 := n1_; have GW53001 := n2_; have GE53001 := n3_; clear n0_ n1_ n2_ n3_; clear hb hbox hg) | ((with_reducible refine gate_dst (N := 3) rfl ?_); (try (refine gate_guard (by rfl) ?_; dsimp only)); refine box_event ?hg (N := 3) ?hd (cs := #[.string a1_0, .int .i64 a1_1, .int .i64 a1_2, .int .u32 a1_3, .slice A1_4 l1_4.length c1_4]) (t := 51) ?hr ?_; (case hd => rfl); (case hg => rfl); (case hr => first | (go_simp; done) | (go_simp; rfl)); intro gb53002 hg w5 hbox hb; have n0_ := Aside0.mk (blk_below (g := gb53001) (o := .cells #[.string a0_0, .int .i64 a0_1, .int .i64 a0_2, .int .u32 a0_3, .slice A0_4 l0_4.length c0_4] 51 (0, 0)) (by (with_reducible repeat (first | refine blk_drewN ?_ _ | refine blk_drew ?_ | refine blk_alloc ?_ _)); exact BK53001.out) hb); have n1_ := Aside0.mk (below_step (by repeat (first | (with_reducible first | exact HB.out | apply below_alloc | apply pw_below_drewN | apply below_drew1 | refine below_set ?_ GE53001.out) | exact HB.out)) hb); have n2_ := Aside0.mk (hbox); have n3_ := Aside0.mk ((by rw [hg]; exact (below_size (by repeat (first | (with_reducible first | exact HB.out | apply below_alloc | apply pw_below_drewN | apply below_drew1 | refine below_set ?_ GE53001.out) | exact HB.out))) : w.heap.size ≤ gb53002)); have n4_ := Aside0.mk ((by rw [hg]; exact (below_size (by repeat (first | (with_reducible first | exact HB.out | apply below_alloc | apply pw_below_drewN | apply below_drew1 | refine below_set ?_ GE53001.out) | exact HB.out))) : w.heap.size ≤ gb53002)); have n5_ := Aside0.mk ((by rw [hg]; exact Nat.ne_of_lt (blk_lt (g := gb53001) (o := .cells #[.string a0_0, .int .i64 a0_1, .int .i64 a0_2, .int .u32 a0_3, .slice A0_4 l0_4.length c0_4] 51 (0, 0)) (by (with_reducible repeat (first | refine blk_drewN ?_ _ | refine blk_drew ?_ | refine blk_alloc ?_ _)); exact BK53001.out)) : gb53001 ≠ gb53002)); have n6_ := Aside0.mk ((by rw [hg]; exact Nat.ne_of_gt (blk_lt (g := gb53001) (o := .cells #[.string a0_0, .int .i64 a0_1, .int .i64 a0_2, .int .u32 a0_3, .slice A0_4 l0_4.length c0_4] 51 (0, 0)) (by (with_reducible repeat (first | refine blk_drewN ?_ _ | refine blk_drew ?_ | refine blk_alloc ?_ _)); exact BK53001.out)) : gb53002 ≠ gb53001)); clear BK53001; clear HB; have BK53001 := n0_; have HB := n1_; have BK53002 := n2_; have GW53002 := n3_; have GE53002 := n4_; have NB53001_53002 := n5_; have NB53002_53001 := n6_; clear n0_ n1_ n2_ n3_ n4_ n5_ n6_; clear hb hbox hg)); go_upto_region 1 with (first | ((with_reducible refine gate_dst (N := 2) rfl ?_); (try (refine gate_guard (by rfl) ?_; dsimp only)); refine box_event ?hg (N := 2) ?hd (cs := #[.string a0_0, .int .i64 a0_1, .int .i64 a0_2, .int .u32 a0_3, .slice A0_4 l0_4.length c0_4]) (t := 51) ?hr ?_; (case hd => rfl); (case hg => rfl); (case hr => first | (go_simp; done) | (go_simp; rfl)); intro gb53001 hg w4 hbox hb; have n0_ := Aside0.mk (below_step (by repeat (first | (with_reducible first | exact HB.out | apply below_alloc | apply pw_below_drewN | apply below_drew1) | exact HB.out)) hb); have n1_ := Aside0.mk (hbox); have n2_ := Aside0.mk ((by rw [hg]; exact (below_size (by repeat (first | (with_reducible first | exact HB.out | apply below_alloc | apply pw_below_drewN | apply below_drew1) | exact HB.out))) : w.heap.size ≤ gb53001)); have n3_ := Aside0.mk ((by rw [hg]; exact (below_size (by repeat (first | (with_reducible first | exact HB.out | apply below_alloc | apply pw_below_drewN | apply below_drew1) | exact HB.out))) : w.heap.size ≤ gb53001)); clear HB; have HB := n0_; have BK53001 := n1_; have GW53001 := n2_; have GE53001 := n3_; clear n0_ n1_ n2_ n3_; clear hb hbox hg) | ((with_reducible refine gate_dst (N := 3) rfl ?_); (try (refine gate_guard (by rfl) ?_; dsimp only)); refine box_event ?hg (N := 3) ?hd (cs := #[.string a1_0, .int .i64 a1_1, .int .i64 a1_2, .int .u32 a1_3, .slice A1_4 l1_4.length c1_4]) (t := 51) ?hr ?_; (case hd => rfl); (case hg => rfl); (case hr => first | (go_simp; done) | (go_simp; rfl)); intro gb53002 hg w5 hbox hb; have n0_ := Aside0.mk (blk_below (g := gb53001) (o := .cells #[.string a0_0, .int .i64 a0_1, .int .i64 a0_2, .int .u32 a0_3, .slice A0_4 l0_4.length c0_4] 51 (0, 0)) (by (with_reducible repeat (first | refine blk_drewN ?_ _ | refine blk_drew ?_ | refine blk_alloc ?_ _)); exact BK53001.out) hb); have n1_ := Aside0.mk (below_step (by repeat (first | (with_reducible first | exact HB.out | apply below_alloc | apply pw_below_drewN | apply below_drew1 | refine below_set ?_ GE53001.out) | exact HB.out)) hb); have n2_ := Aside0.mk (hbox); have n3_ := Aside0.mk ((by rw [hg]; exact (below_size (by repeat (first | (with_reducible first | exact HB.out | apply below_alloc | apply pw_below_drewN | apply below_drew1 | refine below_set ?_ GE53001.out) | exact HB.out))) : w.heap.size ≤ gb53002)); have n4_ := Aside0.mk ((by rw [hg]; exact (below_size (by repeat (first | (with_reducible first | exact HB.out | apply below_alloc | apply pw_below_drewN | apply below_drew1 | refine below_set ?_ GE53001.out) | exact HB.out))) : w.heap.size ≤ gb53002)); have n5_ := Aside0.mk ((by rw [hg]; exact Nat.ne_of_lt (blk_lt (g := gb53001) (o := .cells #[.string a0_0, .int .i64 a0_1, .int .i64 a0_2, .int .u32 a0_3, .slice A0_4 l0_4.length c0_4] 51 (0, 0)) (by (with_reducible repeat (first | refine blk_drewN ?_ _ | refine blk_drew ?_ | refine blk_alloc ?_ _)); exact BK53001.out)) : gb53001 ≠ gb53002)); have n6_ := Aside0.mk ((by rw [hg]; exact Nat.ne_of_gt (blk_lt (g := gb53001) (o := .cells #[.string a0_0, .int .i64 a0_1, .int .i64 a0_2, .int .u32 a0_3, .slice A0_4 l0_4.length c0_4] 51 (0, 0)) (by (with_reducible repeat (first | refine blk_drewN ?_ _ | refine blk_drew ?_ | refine blk_alloc ?_ _)); exact BK53001.out)) : gb53002 ≠ gb53001)); clear BK53001; clear HB; have BK53001 := n0_; have HB := n1_; have BK53002 := n2_; have GW53002 := n3_; have GE53002 := n4_; have NB53001_53002 := n5_; have NB53002_53001 := n6_; clear n0_ n1_ n2_ n3_ n4_ n5_ n6_; clear hb hbox hg)))
 (try simp only [Act.put, List.setIfInBounds_toArray, List.set_cons_zero, List.set_cons_succ])
 go_cut [40] (fun v40 wc => ∃ (kq : Nat) (x40_2 : Bool), v40 = .bool x40_2 ∧ Aside0 (tinderref09_SameWord.j0 kq x40_2 a0_0 a0_1 a0_2 a0_3 l0_4 a1_0 a1_1 a1_2 a1_3 l1_4 = some r) ∧ Aside0 (kq ≤ k) ∧ Aside0 (wc.heap[gb53001]? = some (.cells #[.string a0_0, .int .i64 a0_1, .int .i64 a0_2, .int .u32 a0_3, (.slice A0_4 l0_4.length c0_4)] 51 (0, 0))) ∧ Aside0 (wc.heap[gb53002]? = some (.cells #[.string a1_0, .int .i64 a1_1, .int .i64 a1_2, .int .u32 a1_3, (.slice A1_4 l1_4.length c1_4)] 51 (0, 0))) ∧ Aside0 (Below w.heap.size w wc))
 case first =>
  have H := HC3.out
  clear HC3
  by_cases c6 : a0_0.toList = a1_0.toList
  ·rw [if_pos c6] at H
   have c6b0 : (a0_0.toList == a1_0.toList) = true := beq_iff_eq.mpr c6
   have c6b1 : (a0_0.toList != a1_0.toList) = false := bne_eq_false_iff_eq.mpr c6
   clear c6
   (first | rw [c6b0] | (simp only [i64_w, i32_w]; rw [c6b0]) | skip)
   by_cases c7 : a0_1 = a1_1
   ·rw [if_pos c7] at H
    have c7b0 : (a0_1 == a1_1) = true := beq_iff_eq.mpr c7
    have c7b1 : (a0_1 != a1_1) = false := bne_eq_false_iff_eq.mpr c7
    clear c7
    by_cases c8 : a0_2 = a1_2
    ·rw [if_pos c8] at H
     have c8b0 : (a0_2 == a1_2) = true := beq_iff_eq.mpr c8
     have c8b1 : (a0_2 != a1_2) = false := bne_eq_false_iff_eq.mpr c8
     clear c8
     by_cases c9 : a0_3 = a1_3
     ·rw [if_pos c9] at H
      have c9b0 : (a0_3 == a1_3) = true := beq_iff_eq.mpr c9
      have c9b1 : (a0_3 != a1_3) = false := bne_eq_false_iff_eq.mpr c9
      clear c9
      have H' := Aside0.mk H
      clear H
      have hnb10 := NB53001_53002.out
      have hnc10 := NB53002_53001.out
      have hcz11_0 : w5.cell? ⟨gb53001, 0, none⟩ = some (.string a0_0) := (blk_cell BK53001.out 0).trans rfl
      have hcz11_1 : w5.cell? ⟨gb53001, 1, none⟩ = some (.int .i64 a0_1) := (blk_cell BK53001.out 1).trans rfl
      have hcz11_2 : w5.cell? ⟨gb53001, 2, none⟩ = some (.int .i64 a0_2) := (blk_cell BK53001.out 2).trans rfl
      have hcz11_3 : w5.cell? ⟨gb53001, 3, none⟩ = some (.int .u32 a0_3) := (blk_cell BK53001.out 3).trans rfl
      have hcz11_4 : w5.cell? ⟨gb53001, 4, none⟩ = some (.slice A0_4 l0_4.length c0_4) := (blk_cell BK53001.out 4).trans rfl
      have hfz11_0 := blk_frozen BK53001.out 0
      have hfz11_1 := blk_frozen BK53001.out 1
      have hfz11_2 := blk_frozen BK53001.out 2
      have hfz11_3 := blk_frozen BK53001.out 3
      have hfz11_4 := blk_frozen BK53001.out 4
      have hcz12_0 : w5.cell? ⟨gb53002, 0, none⟩ = some (.string a1_0) := (blk_cell BK53002.out 0).trans rfl
      have hcz12_1 : w5.cell? ⟨gb53002, 1, none⟩ = some (.int .i64 a1_1) := (blk_cell BK53002.out 1).trans rfl
      have hcz12_2 : w5.cell? ⟨gb53002, 2, none⟩ = some (.int .i64 a1_2) := (blk_cell BK53002.out 2).trans rfl
      have hcz12_3 : w5.cell? ⟨gb53002, 3, none⟩ = some (.int .u32 a1_3) := (blk_cell BK53002.out 3).trans rfl
      have hcz12_4 : w5.cell? ⟨gb53002, 4, none⟩ = some (.slice A1_4 l1_4.length c1_4) := (blk_cell BK53002.out 4).trans rfl
      have hfz12_0 := blk_frozen BK53002.out 0
      have hfz12_1 := blk_frozen BK53002.out 1
      have hfz12_2 := blk_frozen BK53002.out 2
      have hfz12_3 := blk_frozen BK53002.out 3
      have hfz12_4 := blk_frozen BK53002.out 4
      go_wp2
      repeat (go_quiet (fail); try go_wp2)
      go_meet
      case rel => exact ⟨_, (((l0_4.length : Int) != (l1_4.length : Int))), (by first | rfl | (simp; done) | (simp [*]; done)), H', ⟨by first | omega | exact Nat.le_refl _⟩, ⟨by (with_reducible repeat (first | refine blk_drewN ?_ _ | refine blk_drew ?_ | refine blk_alloc ?_ _)); exact BK53001.out⟩, ⟨by (with_reducible repeat (first | refine blk_drewN ?_ _ | refine blk_drew ?_ | refine blk_alloc ?_ _)); exact BK53002.out⟩, ⟨by repeat (first | (with_reducible first | exact HB.out | apply below_alloc | apply pw_below_drewN | apply below_drew1 | refine below_set ?_ GE53001.out | refine below_set ?_ GE53002.out) | exact HB.out)⟩⟩
     ·rw [if_neg c9] at H
      have c9b0 : (a0_3 == a1_3) = false := beq_eq_false_iff_ne.mpr c9
      have c9b1 : (a0_3 != a1_3) = true := bne_iff_ne.mpr c9
      have H' := Aside0.mk H
      clear H
      have hnb13 := NB53001_53002.out
      have hnc13 := NB53002_53001.out
      have hcz14_0 : w5.cell? ⟨gb53001, 0, none⟩ = some (.string a0_0) := (blk_cell BK53001.out 0).trans rfl
      have hcz14_1 : w5.cell? ⟨gb53001, 1, none⟩ = some (.int .i64 a0_1) := (blk_cell BK53001.out 1).trans rfl
      have hcz14_2 : w5.cell? ⟨gb53001, 2, none⟩ = some (.int .i64 a0_2) := (blk_cell BK53001.out 2).trans rfl
      have hcz14_3 : w5.cell? ⟨gb53001, 3, none⟩ = some (.int .u32 a0_3) := (blk_cell BK53001.out 3).trans rfl
      have hcz14_4 : w5.cell? ⟨gb53001, 4, none⟩ = some (.slice A0_4 l0_4.length c0_4) := (blk_cell BK53001.out 4).trans rfl
      have hfz14_0 := blk_frozen BK53001.out 0
      have hfz14_1 := blk_frozen BK53001.out 1
      have hfz14_2 := blk_frozen BK53001.out 2
      have hfz14_3 := blk_frozen BK53001.out 3
      have hfz14_4 := blk_frozen BK53001.out 4
      have hcz15_0 : w5.cell? ⟨gb53002, 0, none⟩ = some (.string a1_0) := (blk_cell BK53002.out 0).trans rfl
      have hcz15_1 : w5.cell? ⟨gb53002, 1, none⟩ = some (.int .i64 a1_1) := (blk_cell BK53002.out 1).trans rfl
      have hcz15_2 : w5.cell? ⟨gb53002, 2, none⟩ = some (.int .i64 a1_2) := (blk_cell BK53002.out 2).trans rfl
      have hcz15_3 : w5.cell? ⟨gb53002, 3, none⟩ = some (.int .u32 a1_3) := (blk_cell BK53002.out 3).trans rfl
      have hcz15_4 : w5.cell? ⟨gb53002, 4, none⟩ = some (.slice A1_4 l1_4.length c1_4) := (blk_cell BK53002.out 4).trans rfl
      have hfz15_0 := blk_frozen BK53002.out 0
      have hfz15_1 := blk_frozen BK53002.out 1
      have hfz15_2 := blk_frozen BK53002.out 2
      have hfz15_3 := blk_frozen BK53002.out 3
      have hfz15_4 := blk_frozen BK53002.out 4
      go_wp2
      repeat (go_quiet (fail); try go_wp2)
      go_meet
      case rel => exact ⟨_, (true), (by first | rfl | (simp; done) | (simp [*]; done)), H', ⟨by first | omega | exact Nat.le_refl _⟩, ⟨by (with_reducible repeat (first | refine blk_drewN ?_ _ | refine blk_drew ?_ | refine blk_alloc ?_ _)); exact BK53001.out⟩, ⟨by (with_reducible repeat (first | refine blk_drewN ?_ _ | refine blk_drew ?_ | refine blk_alloc ?_ _)); exact BK53002.out⟩, ⟨by repeat (first | (with_reducible first | exact HB.out | apply below_alloc | apply pw_below_drewN | apply below_drew1 | refine below_set ?_ GE53001.out | refine below_set ?_ GE53002.out) | exact HB.out)⟩⟩
    ·rw [if_neg c8] at H
     have c8b0 : (a0_2 == a1_2) = false := beq_eq_false_iff_ne.mpr c8
     have c8b1 : (a0_2 != a1_2) = true := bne_iff_ne.mpr c8
     have H' := Aside0.mk H
     clear H
     have hnb16 := NB53001_53002.out
     have hnc16 := NB53002_53001.out
     have hcz17_0 : w5.cell? ⟨gb53001, 0, none⟩ = some (.string a0_0) := (blk_cell BK53001.out 0).trans rfl
     have hcz17_1 : w5.cell? ⟨gb53001, 1, none⟩ = some (.int .i64 a0_1) := (blk_cell BK53001.out 1).trans rfl
     have hcz17_2 : w5.cell? ⟨gb53001, 2, none⟩ = some (.int .i64 a0_2) := (blk_cell BK53001.out 2).trans rfl
     have hcz17_3 : w5.cell? ⟨gb53001, 3, none⟩ = some (.int .u32 a0_3) := (blk_cell BK53001.out 3).trans rfl
     have hcz17_4 : w5.cell? ⟨gb53001, 4, none⟩ = some (.slice A0_4 l0_4.length c0_4) := (blk_cell BK53001.out 4).trans rfl
     have hfz17_0 := blk_frozen BK53001.out 0
     have hfz17_1 := blk_frozen BK53001.out 1
     have hfz17_2 := blk_frozen BK53001.out 2
     have hfz17_3 := blk_frozen BK53001.out 3
     have hfz17_4 := blk_frozen BK53001.out 4
     have hcz18_0 : w5.cell? ⟨gb53002, 0, none⟩ = some (.string a1_0) := (blk_cell BK53002.out 0).trans rfl
     have hcz18_1 : w5.cell? ⟨gb53002, 1, none⟩ = some (.int .i64 a1_1) := (blk_cell BK53002.out 1).trans rfl
     have hcz18_2 : w5.cell? ⟨gb53002, 2, none⟩ = some (.int .i64 a1_2) := (blk_cell BK53002.out 2).trans rfl
     have hcz18_3 : w5.cell? ⟨gb53002, 3, none⟩ = some (.int .u32 a1_3) := (blk_cell BK53002.out 3).trans rfl
     have hcz18_4 : w5.cell? ⟨gb53002, 4, none⟩ = some (.slice A1_4 l1_4.length c1_4) := (blk_cell BK53002.out 4).trans rfl
     have hfz18_0 := blk_frozen BK53002.out 0
     have hfz18_1 := blk_frozen BK53002.out 1
     have hfz18_2 := blk_frozen BK53002.out 2
     have hfz18_3 := blk_frozen BK53002.out 3
     have hfz18_4 := blk_frozen BK53002.out 4
     go_wp2
     repeat (go_quiet (fail); try go_wp2)
     go_meet
     case rel => exact ⟨_, (true), (by first | rfl | (simp; done) | (simp [*]; done)), H', ⟨by first | omega | exact Nat.le_refl _⟩, ⟨by (with_reducible repeat (first | refine blk_drewN ?_ _ | refine blk_drew ?_ | refine blk_alloc ?_ _)); exact BK53001.out⟩, ⟨by (with_reducible repeat (first | refine blk_drewN ?_ _ | refine blk_drew ?_ | refine blk_alloc ?_ _)); exact BK53002.out⟩, ⟨by repeat (first | (with_reducible first | exact HB.out | apply below_alloc | apply pw_below_drewN | apply below_drew1 | refine below_set ?_ GE53001.out | refine below_set ?_ GE53002.out) | exact HB.out)⟩⟩
   ·rw [if_neg c7] at H
    have c7b0 : (a0_1 == a1_1) = false := beq_eq_false_iff_ne.mpr c7
    have c7b1 : (a0_1 != a1_1) = true := bne_iff_ne.mpr c7
    have H' := Aside0.mk H
    clear H
    have hnb19 := NB53001_53002.out
    have hnc19 := NB53002_53001.out
    have hcz20_0 : w5.cell? ⟨gb53001, 0, none⟩ = some (.string a0_0) := (blk_cell BK53001.out 0).trans rfl
    have hcz20_1 : w5.cell? ⟨gb53001, 1, none⟩ = some (.int .i64 a0_1) := (blk_cell BK53001.out 1).trans rfl
    have hcz20_2 : w5.cell? ⟨gb53001, 2, none⟩ = some (.int .i64 a0_2) := (blk_cell BK53001.out 2).trans rfl
    have hcz20_3 : w5.cell? ⟨gb53001, 3, none⟩ = some (.int .u32 a0_3) := (blk_cell BK53001.out 3).trans rfl
    have hcz20_4 : w5.cell? ⟨gb53001, 4, none⟩ = some (.slice A0_4 l0_4.length c0_4) := (blk_cell BK53001.out 4).trans rfl
    have hfz20_0 := blk_frozen BK53001.out 0
    have hfz20_1 := blk_frozen BK53001.out 1
    have hfz20_2 := blk_frozen BK53001.out 2
    have hfz20_3 := blk_frozen BK53001.out 3
    have hfz20_4 := blk_frozen BK53001.out 4
    have hcz21_0 : w5.cell? ⟨gb53002, 0, none⟩ = some (.string a1_0) := (blk_cell BK53002.out 0).trans rfl
    have hcz21_1 : w5.cell? ⟨gb53002, 1, none⟩ = some (.int .i64 a1_1) := (blk_cell BK53002.out 1).trans rfl
    have hcz21_2 : w5.cell? ⟨gb53002, 2, none⟩ = some (.int .i64 a1_2) := (blk_cell BK53002.out 2).trans rfl
    have hcz21_3 : w5.cell? ⟨gb53002, 3, none⟩ = some (.int .u32 a1_3) := (blk_cell BK53002.out 3).trans rfl
    have hcz21_4 : w5.cell? ⟨gb53002, 4, none⟩ = some (.slice A1_4 l1_4.length c1_4) := (blk_cell BK53002.out 4).trans rfl
    have hfz21_0 := blk_frozen BK53002.out 0
    have hfz21_1 := blk_frozen BK53002.out 1
    have hfz21_2 := blk_frozen BK53002.out 2
    have hfz21_3 := blk_frozen BK53002.out 3
    have hfz21_4 := blk_frozen BK53002.out 4
    go_wp2
    repeat (go_quiet (fail); try go_wp2)
    go_meet
    case rel => exact ⟨_, (true), (by first | rfl | (simp; done) | (simp [*]; done)), H', ⟨by first | omega | exact Nat.le_refl _⟩, ⟨by (with_reducible repeat (first | refine blk_drewN ?_ _ | refine blk_drew ?_ | refine blk_alloc ?_ _)); exact BK53001.out⟩, ⟨by (with_reducible repeat (first | refine blk_drewN ?_ _ | refine blk_drew ?_ | refine blk_alloc ?_ _)); exact BK53002.out⟩, ⟨by repeat (first | (with_reducible first | exact HB.out | apply below_alloc | apply pw_below_drewN | apply below_drew1 | refine below_set ?_ GE53001.out | refine below_set ?_ GE53002.out) | exact HB.out)⟩⟩
  ·rw [if_neg c6] at H
   have c6b0 : (a0_0.toList == a1_0.toList) = false := beq_eq_false_iff_ne.mpr c6
   have c6b1 : (a0_0.toList != a1_0.toList) = true := bne_iff_ne.mpr c6
   (first | rw [c6b0] | (simp only [i64_w, i32_w]; rw [c6b0]) | skip)
   have H' := Aside0.mk H
   clear H
   have hnb22 := NB53001_53002.out
   have hnc22 := NB53002_53001.out
   have hcz23_0 : w5.cell? ⟨gb53001, 0, none⟩ = some (.string a0_0) := (blk_cell BK53001.out 0).trans rfl
   have hcz23_1 : w5.cell? ⟨gb53001, 1, none⟩ = some (.int .i64 a0_1) := (blk_cell BK53001.out 1).trans rfl
   have hcz23_2 : w5.cell? ⟨gb53001, 2, none⟩ = some (.int .i64 a0_2) := (blk_cell BK53001.out 2).trans rfl
   have hcz23_3 : w5.cell? ⟨gb53001, 3, none⟩ = some (.int .u32 a0_3) := (blk_cell BK53001.out 3).trans rfl
   have hcz23_4 : w5.cell? ⟨gb53001, 4, none⟩ = some (.slice A0_4 l0_4.length c0_4) := (blk_cell BK53001.out 4).trans rfl
   have hfz23_0 := blk_frozen BK53001.out 0
   have hfz23_1 := blk_frozen BK53001.out 1
   have hfz23_2 := blk_frozen BK53001.out 2
   have hfz23_3 := blk_frozen BK53001.out 3
   have hfz23_4 := blk_frozen BK53001.out 4
   have hcz24_0 : w5.cell? ⟨gb53002, 0, none⟩ = some (.string a1_0) := (blk_cell BK53002.out 0).trans rfl
   have hcz24_1 : w5.cell? ⟨gb53002, 1, none⟩ = some (.int .i64 a1_1) := (blk_cell BK53002.out 1).trans rfl
   have hcz24_2 : w5.cell? ⟨gb53002, 2, none⟩ = some (.int .i64 a1_2) := (blk_cell BK53002.out 2).trans rfl
   have hcz24_3 : w5.cell? ⟨gb53002, 3, none⟩ = some (.int .u32 a1_3) := (blk_cell BK53002.out 3).trans rfl
   have hcz24_4 : w5.cell? ⟨gb53002, 4, none⟩ = some (.slice A1_4 l1_4.length c1_4) := (blk_cell BK53002.out 4).trans rfl
   have hfz24_0 := blk_frozen BK53002.out 0
   have hfz24_1 := blk_frozen BK53002.out 1
   have hfz24_2 := blk_frozen BK53002.out 2
   have hfz24_3 := blk_frozen BK53002.out 3
   have hfz24_4 := blk_frozen BK53002.out 4
   go_wp2
   repeat (go_quiet (fail); try go_wp2)
   go_meet
   case rel => exact ⟨_, (true), (by first | rfl | (simp; done) | (simp [*]; done)), H', ⟨by first | omega | exact Nat.le_refl _⟩, ⟨by (with_reducible repeat (first | refine blk_drewN ?_ _ | refine blk_drew ?_ | refine blk_alloc ?_ _)); exact BK53001.out⟩, ⟨by (with_reducible repeat (first | refine blk_drewN ?_ _ | refine blk_drew ?_ | refine blk_alloc ?_ _)); exact BK53002.out⟩, ⟨by repeat (first | (with_reducible first | exact HB.out | apply below_alloc | apply pw_below_drewN | apply below_drew1 | refine below_set ?_ GE53001.out | refine below_set ?_ GE53002.out) | exact HB.out)⟩⟩
 case rest =>
  clear HC3
  try clear c1
  try clear c2
  try clear p2
  try clear c5
  try clear c6
  try clear c6b0
  try clear c6b1
  try clear c7
  try clear c7b0
  try clear c7b1
  try clear c8
  try clear c8b0
  try clear c8b1
  try clear c9
  try clear c9b0
  try clear c9b1
  try clear c10
  try clear c13
  try clear c16
  try clear c19
  try clear c22
  try clear hcz11_0
  try clear hcz11_1
  try clear hcz11_2
  try clear hcz11_3
  try clear hcz11_4
  try clear hcz12_0
  try clear hcz12_1
  try clear hcz12_2
  try clear hcz12_3
  try clear hcz12_4
  try clear hcz14_0
  try clear hcz14_1
  try clear hcz14_2
  try clear hcz14_3
  try clear hcz14_4
  try clear hcz15_0
  try clear hcz15_1
  try clear hcz15_2
  try clear hcz15_3
  try clear hcz15_4
  try clear hcz17_0
  try clear hcz17_1
  try clear hcz17_2
  try clear hcz17_3
  try clear hcz17_4
  try clear hcz18_0
  try clear hcz18_1
  try clear hcz18_2
  try clear hcz18_3
  try clear hcz18_4
  try clear hcz20_0
  try clear hcz20_1
  try clear hcz20_2
  try clear hcz20_3
  try clear hcz20_4
  try clear hcz21_0
  try clear hcz21_1
  try clear hcz21_2
  try clear hcz21_3
  try clear hcz21_4
  try clear hcz23_0
  try clear hcz23_1
  try clear hcz23_2
  try clear hcz23_3
  try clear hcz23_4
  try clear hcz24_0
  try clear hcz24_1
  try clear hcz24_2
  try clear hcz24_3
  try clear hcz24_4
  try clear hfz11_0
  try clear hfz11_1
  try clear hfz11_2
  try clear hfz11_3
  try clear hfz11_4
  try clear hfz12_0
  try clear hfz12_1
  try clear hfz12_2
  try clear hfz12_3
  try clear hfz12_4
  try clear hfz14_0
  try clear hfz14_1
  try clear hfz14_2
  try clear hfz14_3
  try clear hfz14_4
  try clear hfz15_0
  try clear hfz15_1
  try clear hfz15_2
  try clear hfz15_3
  try clear hfz15_4
  try clear hfz17_0
  try clear hfz17_1
  try clear hfz17_2
  try clear hfz17_3
  try clear hfz17_4
  try clear hfz18_0
  try clear hfz18_1
  try clear hfz18_2
  try clear hfz18_3
  try clear hfz18_4
  try clear hfz20_0
  try clear hfz20_1
  try clear hfz20_2
  try clear hfz20_3
  try clear hfz20_4
  try clear hfz21_0
  try clear hfz21_1
  try clear hfz21_2
  try clear hfz21_3
  try clear hfz21_4
  try clear hfz23_0
  try clear hfz23_1
  try clear hfz23_2
  try clear hfz23_3
  try clear hfz23_4
  try clear hfz24_0
  try clear hfz24_1
  try clear hfz24_2
  try clear hfz24_3
  try clear hfz24_4
  obtain ⟨kq, x40_2, rfl, HA, HJ2, BK53001, BK53002, HB⟩ := hcut
  cases kq with
  | zero => exact absurd HA.out (by simp [tinderref09_SameWord.j0])
  | succ kj2 =>
   have H := HA.out
   clear HA
   simp only [tinderref09_SameWord.j0] at H
   by_cases c25 : x40_2 = true
   ·subst c25
    have H1 : (some false) = some r := by rw [if_pos rfl] at H; exact H
    clear H
    have H := H1
    clear H1
    obtain rfl := Option.some.inj H
    go_wp2
    repeat (go_quiet (fail); try go_wp2)
    go_ret
    exact ⟨by first | rfl | (simp [errW_none, errW_some] <;> rfl) | (simp [*, errW_none, errW_some] <;> rfl), by repeat (first | (with_reducible first | exact HB.out | apply below_alloc | apply pw_below_drewN | apply below_drew1 | refine below_set ?_ GE53001.out | refine below_set ?_ GE53002.out) | exact HB.out)⟩
   ·replace c25 := Bool.eq_false_iff.mpr c25
    subst c25
    have H1 : (tinderref09_SameWord.l0 kj2 0 a0_0 a0_1 a0_2 a0_3 l0_4 a1_0 a1_1 a1_2 a1_3 l1_4) = some r := by rw [if_neg (show ¬ (false = true) by decide)] at H; exact H
    clear H
    have H := H1
    clear H1
    have H' := Aside0.mk H
    clear H
    go_wp2
    repeat (go_quiet (fail); try go_wp2)
    go_loopg [5] kj2 (fun kq v5 w' => ∃ (x5_2 : Int), v5 = .int .i64 x5_2 ∧ Aside0 (tinderref09_SameWord.l0 kq x5_2 a0_0 a0_1 a0_2 a0_3 l0_4 a1_0 a1_1 a1_2 a1_3 l1_4 = some r) ∧ Aside0 (kq ≤ kj2) ∧ Aside0 (w'.heap[gb53001]? = some (.cells #[.string a0_0, .int .i64 a0_1, .int .i64 a0_2, .int .u32 a0_3, (.slice A0_4 l0_4.length c0_4)] 51 (0, 0))) ∧ Aside0 (w'.heap[gb53002]? = some (.cells #[.string a1_0, .int .i64 a1_1, .int .i64 a1_2, .int .u32 a1_3, (.slice A1_4 l1_4.length c1_4)] 51 (0, 0))) ∧ Aside0 (Below w.heap.size w w'))
    case atStart => exact ⟨(0), (by first | rfl | (simp; done) | (simp [*]; done)), H', ⟨Nat.le_refl _⟩, ⟨by (with_reducible repeat (first | refine blk_drewN ?_ _ | refine blk_drew ?_ | refine blk_alloc ?_ _)); exact BK53001.out⟩, ⟨by (with_reducible repeat (first | refine blk_drewN ?_ _ | refine blk_drew ?_ | refine blk_alloc ?_ _)); exact BK53002.out⟩, ⟨by repeat (first | (with_reducible first | exact HB.out | apply below_alloc | apply pw_below_drewN | apply below_drew1 | refine below_set ?_ GE53001.out | refine below_set ?_ GE53002.out) | exact HB.out)⟩⟩
    case round =>
     clear H'
     try clear c1
     try clear c2
     try clear p2
     try clear c5
     try clear c6
     try clear c6b0
     try clear c6b1
     try clear c7
     try clear c7b0
     try clear c7b1
     try clear c8
     try clear c8b0
     try clear c8b1
     try clear c9
     try clear c9b0
     try clear c9b1
     try clear c10
     try clear c13
     try clear c16
     try clear c19
     try clear c22
     try clear c25
     try clear hcz11_0
     try clear hcz11_1
     try clear hcz11_2
     try clear hcz11_3
     try clear hcz11_4
     try clear hcz12_0
     try clear hcz12_1
     try clear hcz12_2
     try clear hcz12_3
     try clear hcz12_4
     try clear hcz14_0
     try clear hcz14_1
     try clear hcz14_2
     try clear hcz14_3
     try clear hcz14_4
     try clear hcz15_0
     try clear hcz15_1
     try clear hcz15_2
     try clear hcz15_3
     try clear hcz15_4
     try clear hcz17_0
     try clear hcz17_1
     try clear hcz17_2
     try clear hcz17_3
     try clear hcz17_4
     try clear hcz18_0
     try clear hcz18_1
     try clear hcz18_2
     try clear hcz18_3
     try clear hcz18_4
     try clear hcz20_0
     try clear hcz20_1
     try clear hcz20_2
     try clear hcz20_3
     try clear hcz20_4
     try clear hcz21_0
     try clear hcz21_1
     try clear hcz21_2
     try clear hcz21_3
     try clear hcz21_4
     try clear hcz23_0
     try clear hcz23_1
     try clear hcz23_2
     try clear hcz23_3
     try clear hcz23_4
     try clear hcz24_0
     try clear hcz24_1
     try clear hcz24_2
     try clear hcz24_3
     try clear hcz24_4
     try clear hfz11_0
     try clear hfz11_1
     try clear hfz11_2
     try clear hfz11_3
     try clear hfz11_4
     try clear hfz12_0
     try clear hfz12_1
     try clear hfz12_2
     try clear hfz12_3
     try clear hfz12_4
     try clear hfz14_0
     try clear hfz14_1
     try clear hfz14_2
     try clear hfz14_3
     try clear hfz14_4
     try clear hfz15_0
     try clear hfz15_1
     try clear hfz15_2
     try clear hfz15_3
     try clear hfz15_4
     try clear hfz17_0
     try clear hfz17_1
     try clear hfz17_2
     try clear hfz17_3
     try clear hfz17_4
     try clear hfz18_0
     try clear hfz18_1
     try clear hfz18_2
     try clear hfz18_3
     try clear hfz18_4
     try clear hfz20_0
     try clear hfz20_1
     try clear hfz20_2
     try clear hfz20_3
     try clear hfz20_4
     try clear hfz21_0
     try clear hfz21_1
     try clear hfz21_2
     try clear hfz21_3
     try clear hfz21_4
     try clear hfz23_0
     try clear hfz23_1
     try clear hfz23_2
     try clear hfz23_3
     try clear hfz23_4
     try clear hfz24_0
     try clear hfz24_1
     try clear hfz24_2
     try clear hfz24_3
     try clear hfz24_4
     try clear p2
     obtain ⟨x5_2, rfl, HA, HK2, BK53001, BK53002, HB⟩ := hrel
     cases gk with
     | zero => exact absurd HA.out (by simp [tinderref09_SameWord.l0])
     | succ k2 =>
      have H := HA.out
      clear HA
      simp only [tinderref09_SameWord.l0] at H
      by_cases c26 : x5_2 < (l0_4.length : Int)
      ·rw [if_pos c26] at H
       have c26b0 : decide (x5_2 < (l0_4.length : Int)) = true := decide_eq_true c26
       clear c26
       by_cases c27 : 0 ≤ x5_2
       ·rw [if_pos c27] at H
        have c27b0 : decide (0 ≤ x5_2) = true := decide_eq_true c27
        clear c27
        by_cases c28 : x5_2 < (l1_4.length : Int)
        ·rw [if_pos c28] at H
         have c28b0 : decide (x5_2 < (l1_4.length : Int)) = true := decide_eq_true c28
         clear c28
         by_cases c29 : (!(((rd_T69 l0_4 x5_2).f0) == ((rd_T69 l1_4 x5_2).f0)) || (!(((rd_T69 l0_4 x5_2).f1) == ((rd_T69 l1_4 x5_2).f1)))) = true
         ·rw [if_pos c29] at H
          have c29b0 : (!(((rd_T69 l0_4 x5_2).f0) == ((rd_T69 l1_4 x5_2).f0)) || (!(((rd_T69 l0_4 x5_2).f1) == ((rd_T69 l1_4 x5_2).f1)))) = true := c29
          clear c29
          obtain rfl := Option.some.inj H
          have hnb30 := NB53001_53002.out
          have hnc30 := NB53002_53001.out
          have hcz31_0 : wr.cell? ⟨gb53001, 0, none⟩ = some (.string a0_0) := (blk_cell BK53001.out 0).trans rfl
          have hcz31_1 : wr.cell? ⟨gb53001, 1, none⟩ = some (.int .i64 a0_1) := (blk_cell BK53001.out 1).trans rfl
          have hcz31_2 : wr.cell? ⟨gb53001, 2, none⟩ = some (.int .i64 a0_2) := (blk_cell BK53001.out 2).trans rfl
          have hcz31_3 : wr.cell? ⟨gb53001, 3, none⟩ = some (.int .u32 a0_3) := (blk_cell BK53001.out 3).trans rfl
          have hcz31_4 : wr.cell? ⟨gb53001, 4, none⟩ = some (.slice A0_4 l0_4.length c0_4) := (blk_cell BK53001.out 4).trans rfl
          have hfz31_0 := blk_frozen BK53001.out 0
          have hfz31_1 := blk_frozen BK53001.out 1
          have hfz31_2 := blk_frozen BK53001.out 2
          have hfz31_3 := blk_frozen BK53001.out 3
          have hfz31_4 := blk_frozen BK53001.out 4
          have p53003 : 0 ≤ (x5_2 : Int) := of_decide_eq_true (by first | (with_reducible assumption) | assumption)
          have q53003 : x5_2 < (l0_4.length : Int) := of_decide_eq_true (by first | (with_reducible assumption) | assumption)
          obtain ⟨ad53003, e53003, hx53003_0, hx53003_1⟩ := at_T69 HR0_4.out x5_2 p53003 q53003
          cases e53003
          replace hx53003_0 := (HB.out.cell (World.block_lt_of_cell? w _ hx53003_0)).trans hx53003_0
          replace hx53003_1 := (HB.out.cell (World.block_lt_of_cell? w _ hx53003_1)).trans hx53003_1
          replace p53003 := eq_true p53003
          replace q53003 := eq_true q53003
          have hcz32_0 : wr.cell? ⟨gb53002, 0, none⟩ = some (.string a1_0) := (blk_cell BK53002.out 0).trans rfl
          have hcz32_1 : wr.cell? ⟨gb53002, 1, none⟩ = some (.int .i64 a1_1) := (blk_cell BK53002.out 1).trans rfl
          have hcz32_2 : wr.cell? ⟨gb53002, 2, none⟩ = some (.int .i64 a1_2) := (blk_cell BK53002.out 2).trans rfl
          have hcz32_3 : wr.cell? ⟨gb53002, 3, none⟩ = some (.int .u32 a1_3) := (blk_cell BK53002.out 3).trans rfl
          have hcz32_4 : wr.cell? ⟨gb53002, 4, none⟩ = some (.slice A1_4 l1_4.length c1_4) := (blk_cell BK53002.out 4).trans rfl
          have hfz32_0 := blk_frozen BK53002.out 0
          have hfz32_1 := blk_frozen BK53002.out 1
          have hfz32_2 := blk_frozen BK53002.out 2
          have hfz32_3 := blk_frozen BK53002.out 3
          have hfz32_4 := blk_frozen BK53002.out 4
          have p53004 : 0 ≤ (x5_2 : Int) := of_decide_eq_true (by first | (with_reducible assumption) | assumption)
          have q53004 : x5_2 < (l1_4.length : Int) := of_decide_eq_true (by first | (with_reducible assumption) | assumption)
          obtain ⟨ad53004, e53004, hx53004_0, hx53004_1⟩ := at_T69 HR1_4.out x5_2 p53004 q53004
          cases e53004
          replace hx53004_0 := (HB.out.cell (World.block_lt_of_cell? w _ hx53004_0)).trans hx53004_0
          replace hx53004_1 := (HB.out.cell (World.block_lt_of_cell? w _ hx53004_1)).trans hx53004_1
          replace p53004 := eq_true p53004
          replace q53004 := eq_true q53004
          go_wp2
          repeat (go_quiet (fail); try go_wp2)
          go_ret
          exact ⟨by first | rfl | (simp [errW_none, errW_some] <;> rfl) | (simp [*, errW_none, errW_some] <;> rfl), by repeat (first | (with_reducible first | exact HB.out | apply below_alloc | apply pw_below_drewN | apply below_drew1 | refine below_set ?_ GE53001.out | refine below_set ?_ GE53002.out) | exact HB.out)⟩
         ·rw [if_neg c29] at H
          have c29b0 : (!(((rd_T69 l0_4 x5_2).f0) == ((rd_T69 l1_4 x5_2).f0)) || (!(((rd_T69 l0_4 x5_2).f1) == ((rd_T69 l1_4 x5_2).f1)))) = false := by simpa using c29
          clear c29
          have H' := Aside0.mk H
          clear H
          have hnb33 := NB53001_53002.out
          have hnc33 := NB53002_53001.out
          have hcz34_0 : wr.cell? ⟨gb53001, 0, none⟩ = some (.string a0_0) := (blk_cell BK53001.out 0).trans rfl
          have hcz34_1 : wr.cell? ⟨gb53001, 1, none⟩ = some (.int .i64 a0_1) := (blk_cell BK53001.out 1).trans rfl
          have hcz34_2 : wr.cell? ⟨gb53001, 2, none⟩ = some (.int .i64 a0_2) := (blk_cell BK53001.out 2).trans rfl
          have hcz34_3 : wr.cell? ⟨gb53001, 3, none⟩ = some (.int .u32 a0_3) := (blk_cell BK53001.out 3).trans rfl
          have hcz34_4 : wr.cell? ⟨gb53001, 4, none⟩ = some (.slice A0_4 l0_4.length c0_4) := (blk_cell BK53001.out 4).trans rfl
          have hfz34_0 := blk_frozen BK53001.out 0
          have hfz34_1 := blk_frozen BK53001.out 1
          have hfz34_2 := blk_frozen BK53001.out 2
          have hfz34_3 := blk_frozen BK53001.out 3
          have hfz34_4 := blk_frozen BK53001.out 4
          have p53003 : 0 ≤ (x5_2 : Int) := of_decide_eq_true (by first | (with_reducible assumption) | assumption)
          have q53003 : x5_2 < (l0_4.length : Int) := of_decide_eq_true (by first | (with_reducible assumption) | assumption)
          obtain ⟨ad53003, e53003, hx53003_0, hx53003_1⟩ := at_T69 HR0_4.out x5_2 p53003 q53003
          cases e53003
          replace hx53003_0 := (HB.out.cell (World.block_lt_of_cell? w _ hx53003_0)).trans hx53003_0
          replace hx53003_1 := (HB.out.cell (World.block_lt_of_cell? w _ hx53003_1)).trans hx53003_1
          replace p53003 := eq_true p53003
          replace q53003 := eq_true q53003
          have hcz35_0 : wr.cell? ⟨gb53002, 0, none⟩ = some (.string a1_0) := (blk_cell BK53002.out 0).trans rfl
          have hcz35_1 : wr.cell? ⟨gb53002, 1, none⟩ = some (.int .i64 a1_1) := (blk_cell BK53002.out 1).trans rfl
          have hcz35_2 : wr.cell? ⟨gb53002, 2, none⟩ = some (.int .i64 a1_2) := (blk_cell BK53002.out 2).trans rfl
          have hcz35_3 : wr.cell? ⟨gb53002, 3, none⟩ = some (.int .u32 a1_3) := (blk_cell BK53002.out 3).trans rfl
          have hcz35_4 : wr.cell? ⟨gb53002, 4, none⟩ = some (.slice A1_4 l1_4.length c1_4) := (blk_cell BK53002.out 4).trans rfl
          have hfz35_0 := blk_frozen BK53002.out 0
          have hfz35_1 := blk_frozen BK53002.out 1
          have hfz35_2 := blk_frozen BK53002.out 2
          have hfz35_3 := blk_frozen BK53002.out 3
          have hfz35_4 := blk_frozen BK53002.out 4
          have p53004 : 0 ≤ (x5_2 : Int) := of_decide_eq_true (by first | (with_reducible assumption) | assumption)
          have q53004 : x5_2 < (l1_4.length : Int) := of_decide_eq_true (by first | (with_reducible assumption) | assumption)
          obtain ⟨ad53004, e53004, hx53004_0, hx53004_1⟩ := at_T69 HR1_4.out x5_2 p53004 q53004
          cases e53004
          replace hx53004_0 := (HB.out.cell (World.block_lt_of_cell? w _ hx53004_0)).trans hx53004_0
          replace hx53004_1 := (HB.out.cell (World.block_lt_of_cell? w _ hx53004_1)).trans hx53004_1
          replace p53004 := eq_true p53004
          replace q53004 := eq_true q53004
          go_wp2
          repeat (go_quiet (fail); try go_wp2)
          go_roundg k2
          case measure => have := HJ2.out; have := HK2.out; omega
          case rel => exact ⟨(wrap64 (x5_2 + 1)), (by first | rfl | (simp; done) | (simp [*]; done)), H', ⟨by have := HJ2.out; have := HK2.out; omega⟩, ⟨by (with_reducible repeat (first | refine blk_drewN ?_ _ | refine blk_drew ?_ | refine blk_alloc ?_ _)); exact BK53001.out⟩, ⟨by (with_reducible repeat (first | refine blk_drewN ?_ _ | refine blk_drew ?_ | refine blk_alloc ?_ _)); exact BK53002.out⟩, ⟨by repeat (first | (with_reducible first | exact HB.out | apply below_alloc | apply pw_below_drewN | apply below_drew1 | refine below_set ?_ GE53001.out | refine below_set ?_ GE53002.out) | exact HB.out)⟩⟩
        ·rw [if_neg c28] at H
         exact absurd H (by simp)
       ·rw [if_neg c27] at H
        exact absurd H (by simp)
      ·rw [if_neg c26] at H
       have c26b0 : decide (x5_2 < (l0_4.length : Int)) = false := decide_eq_false c26
       clear c26
       obtain rfl := Option.some.inj H
       have hnb36 := NB53001_53002.out
       have hnc36 := NB53002_53001.out
       have hcz37_0 : wr.cell? ⟨gb53001, 0, none⟩ = some (.string a0_0) := (blk_cell BK53001.out 0).trans rfl
       have hcz37_1 : wr.cell? ⟨gb53001, 1, none⟩ = some (.int .i64 a0_1) := (blk_cell BK53001.out 1).trans rfl
       have hcz37_2 : wr.cell? ⟨gb53001, 2, none⟩ = some (.int .i64 a0_2) := (blk_cell BK53001.out 2).trans rfl
       have hcz37_3 : wr.cell? ⟨gb53001, 3, none⟩ = some (.int .u32 a0_3) := (blk_cell BK53001.out 3).trans rfl
       have hcz37_4 : wr.cell? ⟨gb53001, 4, none⟩ = some (.slice A0_4 l0_4.length c0_4) := (blk_cell BK53001.out 4).trans rfl
       have hfz37_0 := blk_frozen BK53001.out 0
       have hfz37_1 := blk_frozen BK53001.out 1
       have hfz37_2 := blk_frozen BK53001.out 2
       have hfz37_3 := blk_frozen BK53001.out 3
       have hfz37_4 := blk_frozen BK53001.out 4
       go_wp2
       repeat (go_quiet (fail); try go_wp2)
       go_ret
       exact ⟨by first | rfl | (simp [errW_none, errW_some] <;> rfl) | (simp [*, errW_none, errW_some] <;> rfl), by repeat (first | (with_reducible first | exact HB.out | apply below_alloc | apply pw_below_drewN | apply below_drew1 | refine below_set ?_ GE53001.out | refine below_set ?_ GE53002.out) | exact HB.out)⟩

end Go.Proofs.Ytfpkakedlapmkaa.Q
end
section
namespace Go.Proofs.Ytfpkakedlapmkaa.Q
open Go.RowKit Go.Proofs.YtfpkakedlapmkaaW.PrintWords Go.Proofs.YtfpkakedlapmkaaW.PrintLast Go.Proofs.YtfpkakedlapmkaaW.PrintMore
set_option linter.unusedVariables false
set_option linter.unusedSimpArgs false

attribute [local go_sem] max2_int min2_int max_two min_two max_three min_three max_four min_four
/-! ### tinderref09_SameBut: function 34 -/
mutual
def tinderref09_SameBut.j0 : Nat → Bool → List Int → List Int → List (S51) → List Int → Int → List (S91) → Int → List (S82) → Int → ByteArray → List Int → List Int → List (S51) → List Int → Int → List (S91) → Int → List (S82) → Int → ByteArray → Option (Bool)
 | 0, _, _, _, _, _, _, _, _, _, _, _, _, _, _, _, _, _, _, _, _, _ => none
 | k + 1, x74, x35002000, x35002001, x35002002, x35002003, x35002004, x35002005, x35002006, x35002007, x35002008, x35002009, x35003000, x35003001, x35003002, x35003003, x35003004, x35003005, x35003006, x35003007, x35003008, x35003009 => if x74 = true then (some false) else (tinderref09_SameBut.l0 k 0 x35002000 x35002001 x35002002 x35002003 x35002004 x35002005 x35002006 x35002007 x35002008 x35002009 x35003000 x35003001 x35003002 x35003003 x35003004 x35003005 x35003006 x35003007 x35003008 x35003009)
def tinderref09_SameBut.l0 : Nat → Int → List Int → List Int → List (S51) → List Int → Int → List (S91) → Int → List (S82) → Int → ByteArray → List Int → List Int → List (S51) → List Int → Int → List (S91) → Int → List (S82) → Int → ByteArray → Option (Bool)
 | 0, _, _, _, _, _, _, _, _, _, _, _, _, _, _, _, _, _, _, _, _, _ => none
 | k + 1, x5, x35002000, x35002001, x35002002, x35002003, x35002004, x35002005, x35002006, x35002007, x35002008, x35002009, x35003000, x35003001, x35003002, x35003003, x35003004, x35003005, x35003006, x35003007, x35003008, x35003009 => if x5 < (x35002002.length : Int) then (if 0 ≤ x5 then (if x5 < (x35003002.length : Int) then ((tinderref09_SameWord.f k ((rd_T51 x35002002 x5).f0) ((rd_T51 x35002002 x5).f1) ((rd_T51 x35002002 x5).f2) ((rd_T51 x35002002 x5).f3) ((rd_T51 x35002002 x5).f4) ((rd_T51 x35003002 x5).f0) ((rd_T51 x35003002 x5).f1) ((rd_T51 x35003002 x5).f2) ((rd_T51 x35003002 x5).f3) ((rd_T51 x35003002 x5).f4)).bind fun t35008 => (if t35008 = true then (tinderref09_SameBut.l0 k (wrap64 (x5 + 1)) x35002000 x35002001 x35002002 x35002003 x35002004 x35002005 x35002006 x35002007 x35002008 x35002009 x35003000 x35003001 x35003002 x35003003 x35003004 x35003005 x35003006 x35003007 x35003008 x35003009) else (some false))) else (none)) else (none)) else (tinderref09_SameBut.l1 k 0 x35002000 x35002001 x35002002 x35002003 x35002004 x35002005 x35002006 x35002007 x35002008 x35002009 x35003000 x35003001 x35003002 x35003003 x35003004 x35003005 x35003006 x35003007 x35003008 x35003009)
def tinderref09_SameBut.l1 : Nat → Int → List Int → List Int → List (S51) → List Int → Int → List (S91) → Int → List (S82) → Int → ByteArray → List Int → List Int → List (S51) → List Int → Int → List (S91) → Int → List (S82) → Int → ByteArray → Option (Bool)
 | 0, _, _, _, _, _, _, _, _, _, _, _, _, _, _, _, _, _, _, _, _, _ => none
 | k + 1, x6, x35002000, x35002001, x35002002, x35002003, x35002004, x35002005, x35002006, x35002007, x35002008, x35002009, x35003000, x35003001, x35003002, x35003003, x35003004, x35003005, x35003006, x35003007, x35003008, x35003009 => if x6 < (x35002007.length : Int) then (if 0 ≤ x6 then (if x6 < (x35003007.length : Int) then ((tinderref09_SameInst.f k ((rd_T82 x35002007 x6).f0) ((rd_T82 x35002007 x6).f1) ((rd_T82 x35002007 x6).f2) ((rd_T82 x35002007 x6).f3) ((rd_T82 x35003007 x6).f0) ((rd_T82 x35003007 x6).f1) ((rd_T82 x35003007 x6).f2) ((rd_T82 x35003007 x6).f3)).bind fun t35011 => (if t35011 = true then (tinderref09_SameBut.l1 k (wrap64 (x6 + 1)) x35002000 x35002001 x35002002 x35002003 x35002004 x35002005 x35002006 x35002007 x35002008 x35002009 x35003000 x35003001 x35003002 x35003003 x35003004 x35003005 x35003006 x35003007 x35003008 x35003009) else (some false))) else (none)) else (none)) else (some true)
end
def tinderref09_SameBut.f (k : Nat) (l0_0 : List Int) (l0_1 : List Int) (l0_2 : List (S51)) (l0_3 : List Int) (a0_4 : Int) (l0_5 : List (S91)) (a0_6 : Int) (l0_7 : List (S82)) (a0_8 : Int) (a0_9 : ByteArray) (l1_0 : List Int) (l1_1 : List Int) (l1_2 : List (S51)) (l1_3 : List Int) (a1_4 : Int) (l1_5 : List (S91)) (a1_6 : Int) (l1_7 : List (S82)) (a1_8 : Int) (a1_9 : ByteArray) : Option (Bool) := (tinderref03_Same.f k l0_0 l1_0).bind fun t35003 => (if t35003 = true then ((tinderref04_Same.f l0_1 l1_1).bind fun t35004 => (if t35004 = true then (if a0_4 = a1_4 then ((tinderref08_Same.f k l0_5 l1_5).bind fun t35005 => (if t35005 = true then (if a0_6 = a1_6 then (if a0_8 = a1_8 then (if a0_9.toList = a1_9.toList then (if (l0_2.length : Int) = (l1_2.length : Int) then (tinderref09_SameBut.j0 k ((l0_7.length : Int) != (l1_7.length : Int)) l0_0 l0_1 l0_2 l0_3 a0_4 l0_5 a0_6 l0_7 a0_8 a0_9 l1_0 l1_1 l1_2 l1_3 a1_4 l1_5 a1_6 l1_7 a1_8 a1_9) else (tinderref09_SameBut.j0 k true l0_0 l0_1 l0_2 l0_3 a0_4 l0_5 a0_6 l0_7 a0_8 a0_9 l1_0 l1_1 l1_2 l1_3 a1_4 l1_5 a1_6 l1_7 a1_8 a1_9)) else (tinderref09_SameBut.j0 k true l0_0 l0_1 l0_2 l0_3 a0_4 l0_5 a0_6 l0_7 a0_8 a0_9 l1_0 l1_1 l1_2 l1_3 a1_4 l1_5 a1_6 l1_7 a1_8 a1_9)) else (tinderref09_SameBut.j0 k true l0_0 l0_1 l0_2 l0_3 a0_4 l0_5 a0_6 l0_7 a0_8 a0_9 l1_0 l1_1 l1_2 l1_3 a1_4 l1_5 a1_6 l1_7 a1_8 a1_9)) else (tinderref09_SameBut.j0 k true l0_0 l0_1 l0_2 l0_3 a0_4 l0_5 a0_6 l0_7 a0_8 a0_9 l1_0 l1_1 l1_2 l1_3 a1_4 l1_5 a1_6 l1_7 a1_8 a1_9)) else (tinderref09_SameBut.j0 k true l0_0 l0_1 l0_2 l0_3 a0_4 l0_5 a0_6 l0_7 a0_8 a0_9 l1_0 l1_1 l1_2 l1_3 a1_4 l1_5 a1_6 l1_7 a1_8 a1_9))) else (tinderref09_SameBut.j0 k true l0_0 l0_1 l0_2 l0_3 a0_4 l0_5 a0_6 l0_7 a0_8 a0_9 l1_0 l1_1 l1_2 l1_3 a1_4 l1_5 a1_6 l1_7 a1_8 a1_9)) else (tinderref09_SameBut.j0 k true l0_0 l0_1 l0_2 l0_3 a0_4 l0_5 a0_6 l0_7 a0_8 a0_9 l1_0 l1_1 l1_2 l1_3 a1_4 l1_5 a1_6 l1_7 a1_8 a1_9))) else (tinderref09_SameBut.j0 k true l0_0 l0_1 l0_2 l0_3 a0_4 l0_5 a0_6 l0_7 a0_8 a0_9 l1_0 l1_1 l1_2 l1_3 a1_4 l1_5 a1_6 l1_7 a1_8 a1_9))
def tinderref09_SameBut.T6 : Bool × List (List Nat × List Nat) := (true, [([], []), ([0], [0]), ([], []), ([1, 2], [1, 2]), ([3], [3]), ([], []), ([5], [5]), ([], []), ([6, 7], [6, 7]), ([8], [8]), ([4, 9], [4, 9]), ([10], [10])])
def tinderref09_SameBut.B6 : List Nat := [0, 1, 0, 7, 15, 0, 32, 0, 224, 480, 1023, 2047]
def tinderref09_SameBut.T11 : Bool × List (List Nat × List Nat) := (true, [([], []), ([0], [0]), ([], []), ([1, 2], [1, 2]), ([3], [3]), ([], []), ([5], [5]), ([], []), ([6, 7], [6, 7]), ([8], [8]), ([4, 9], [4, 9]), ([10], [10])])
def tinderref09_SameBut.B11 : List Nat := [0, 1, 0, 7, 15, 0, 32, 0, 224, 480, 1023, 2047]

end Go.Proofs.Ytfpkakedlapmkaa.Q
end
section
namespace Go.Proofs.Ytfpkakedlapmkaa.Q
open Go.RowKit Go.Proofs.YtfpkakedlapmkaaW.PrintWords Go.Proofs.YtfpkakedlapmkaaW.PrintLast Go.Proofs.YtfpkakedlapmkaaW.PrintMore
set_option linter.unusedVariables false
set_option linter.unusedSimpArgs false

attribute [local go_sem] max2_int min2_int max_two min_two max_three min_three max_four min_four
/-! ### tinderref09_Same: function 11 -/
def tinderref09_Same.l0 : Nat → Int → List Int → List Int → List (S51) → List Int → Int → List (S91) → Int → List (S82) → Int → ByteArray → List Int → List Int → List (S51) → List Int → Int → List (S91) → Int → List (S82) → Int → ByteArray → Option (Bool)
 | 0, _, _, _, _, _, _, _, _, _, _, _, _, _, _, _, _, _, _, _, _, _ => none
 | k + 1, x5, x12002000, x12002001, x12002002, x12002003, x12002004, x12002005, x12002006, x12002007, x12002008, x12002009, x12003000, x12003001, x12003002, x12003003, x12003004, x12003005, x12003006, x12003007, x12003008, x12003009 => if x5 < (x12002003.length : Int) then (if 0 ≤ x5 then (if x5 < (x12003003.length : Int) then (if (rd x12002003 x5) = (rd x12003003 x5) then (tinderref09_Same.l0 k (wrap64 (x5 + 1)) x12002000 x12002001 x12002002 x12002003 x12002004 x12002005 x12002006 x12002007 x12002008 x12002009 x12003000 x12003001 x12003002 x12003003 x12003004 x12003005 x12003006 x12003007 x12003008 x12003009) else (some false)) else (none)) else (none)) else ((tinderref09_SameBut.f k x12002000 x12002001 x12002002 x12002003 x12002004 x12002005 x12002006 x12002007 x12002008 x12002009 x12003000 x12003001 x12003002 x12003003 x12003004 x12003005 x12003006 x12003007 x12003008 x12003009).bind fun t12005 => (some t12005))
def tinderref09_Same.f (k : Nat) (l0_0 : List Int) (l0_1 : List Int) (l0_2 : List (S51)) (l0_3 : List Int) (a0_4 : Int) (l0_5 : List (S91)) (a0_6 : Int) (l0_7 : List (S82)) (a0_8 : Int) (a0_9 : ByteArray) (l1_0 : List Int) (l1_1 : List Int) (l1_2 : List (S51)) (l1_3 : List Int) (a1_4 : Int) (l1_5 : List (S91)) (a1_6 : Int) (l1_7 : List (S82)) (a1_8 : Int) (a1_9 : ByteArray) : Option (Bool) := if (l0_3.length : Int) = (l1_3.length : Int) then (tinderref09_Same.l0 k 0 l0_0 l0_1 l0_2 l0_3 a0_4 l0_5 a0_6 l0_7 a0_8 a0_9 l1_0 l1_1 l1_2 l1_3 a1_4 l1_5 a1_6 l1_7 a1_8 a1_9) else (some false)

end Go.Proofs.Ytfpkakedlapmkaa.Q
end
section
namespace Go.Proofs.Ytfpkakedlapmkaa.Q
open Go.RowKit Go.Proofs.YtfpkakedlapmkaaW.PrintWords Go.Proofs.YtfpkakedlapmkaaW.PrintLast Go.Proofs.YtfpkakedlapmkaaW.PrintMore
set_option linter.unusedVariables false
set_option linter.unusedSimpArgs false

attribute [local go_sem] max2_int min2_int max_two min_two max_three min_three max_four min_four
/-! ### tinderref09_Prims: function 15 -/
def tinderref09_Prims.f  : Option ((List (S37))) := some (([(⟨(⟨#[105]⟩ : ByteArray), 25⟩ : S37), (⟨(⟨#[106]⟩ : ByteArray), 26⟩ : S37), (⟨(⟨#[101, 120, 101, 99, 117, 116, 101]⟩ : ByteArray), 29⟩ : S37), (⟨(⟨#[43]⟩ : ByteArray), 30⟩ : S37), (⟨(⟨#[45]⟩ : ByteArray), 31⟩ : S37), (⟨(⟨#[42]⟩ : ByteArray), 32⟩ : S37), (⟨(⟨#[47]⟩ : ByteArray), 33⟩ : S37), (⟨(⟨#[109, 111, 100]⟩ : ByteArray), 34⟩ : S37), (⟨(⟨#[97, 110, 100]⟩ : ByteArray), 35⟩ : S37), (⟨(⟨#[111, 114]⟩ : ByteArray), 36⟩ : S37), (⟨(⟨#[120, 111, 114]⟩ : ByteArray), 37⟩ : S37), (⟨(⟨#[105, 110, 118, 101, 114, 116]⟩ : ByteArray), 38⟩ : S37), (⟨(⟨#[108, 115, 104, 105, 102, 116]⟩ : ByteArray), 39⟩ : S37), (⟨(⟨#[114, 115, 104, 105, 102, 116]⟩ : ByteArray), 40⟩ : S37), (⟨(⟨#[62, 62, 97]⟩ : ByteArray), 41⟩ : S37), (⟨(⟨#[47, 109, 111, 100]⟩ : ByteArray), 42⟩ : S37), (⟨(⟨#[117, 47, 109, 111, 100]⟩ : ByteArray), 43⟩ : S37), (⟨(⟨#[110, 101, 103, 97, 116, 101]⟩ : ByteArray), 44⟩ : S37), (⟨(⟨#[97, 98, 115]⟩ : ByteArray), 45⟩ : S37), (⟨(⟨#[109, 105, 110]⟩ : ByteArray), 46⟩ : S37), (⟨(⟨#[109, 97, 120]⟩ : ByteArray), 47⟩ : S37), (⟨(⟨#[62, 114]⟩ : ByteArray), 48⟩ : S37), (⟨(⟨#[114, 62]⟩ : ByteArray), 49⟩ : S37), (⟨(⟨#[114, 64]⟩ : ByteArray), 50⟩ : S37), (⟨(⟨#[48, 61]⟩ : ByteArray), 52⟩ : S37), (⟨(⟨#[48, 60, 62]⟩ : ByteArray), 53⟩ : S37), (⟨(⟨#[48, 60]⟩ : ByteArray), 54⟩ : S37), (⟨(⟨#[48, 60, 61]⟩ : ByteArray), 55⟩ : S37), (⟨(⟨#[48, 62]⟩ : ByteArray), 56⟩ : S37), (⟨(⟨#[48, 62, 61]⟩ : ByteArray), 57⟩ : S37), (⟨(⟨#[60]⟩ : ByteArray), 58⟩ : S37), (⟨(⟨#[62]⟩ : ByteArray), 59⟩ : S37), (⟨(⟨#[61]⟩ : ByteArray), 60⟩ : S37), (⟨(⟨#[60, 62]⟩ : ByteArray), 61⟩ : S37), (⟨(⟨#[117, 62]⟩ : ByteArray), 62⟩ : S37), (⟨(⟨#[117, 60, 61]⟩ : ByteArray), 63⟩ : S37), (⟨(⟨#[117, 60]⟩ : ByteArray), 64⟩ : S37), (⟨(⟨#[117, 62, 61]⟩ : ByteArray), 65⟩ : S37), (⟨(⟨#[62, 61]⟩ : ByteArray), 66⟩ : S37), (⟨(⟨#[60, 61]⟩ : ByteArray), 67⟩ : S37), (⟨(⟨#[100, 114, 111, 112]⟩ : ByteArray), 70⟩ : S37), (⟨(⟨#[100, 117, 112]⟩ : ByteArray), 71⟩ : S37), (⟨(⟨#[111, 118, 101, 114]⟩ : ByteArray), 72⟩ : S37), (⟨(⟨#[115, 119, 97, 112]⟩ : ByteArray), 73⟩ : S37), (⟨(⟨#[114, 111, 116]⟩ : ByteArray), 74⟩ : S37), (⟨(⟨#[45, 114, 111, 116]⟩ : ByteArray), 75⟩ : S37), (⟨(⟨#[116, 117, 99, 107]⟩ : ByteArray), 76⟩ : S37), (⟨(⟨#[110, 105, 112]⟩ : ByteArray), 77⟩ : S37), (⟨(⟨#[112, 105, 99, 107]⟩ : ByteArray), 78⟩ : S37), (⟨(⟨#[114, 111, 108, 108]⟩ : ByteArray), 79⟩ : S37), (⟨(⟨#[63, 100, 117, 112]⟩ : ByteArray), 80⟩ : S37), (⟨(⟨#[100, 101, 112, 116, 104]⟩ : ByteArray), 81⟩ : S37), (⟨(⟨#[50, 100, 114, 111, 112]⟩ : ByteArray), 82⟩ : S37), (⟨(⟨#[50, 100, 117, 112]⟩ : ByteArray), 83⟩ : S37), (⟨(⟨#[50, 111, 118, 101, 114]⟩ : ByteArray), 84⟩ : S37), (⟨(⟨#[50, 115, 119, 97, 112]⟩ : ByteArray), 85⟩ : S37), (⟨(⟨#[50, 114, 111, 116]⟩ : ByteArray), 86⟩ : S37), (⟨(⟨#[50, 47]⟩ : ByteArray), 87⟩ : S37), (⟨(⟨#[117, 50, 47]⟩ : ByteArray), 88⟩ : S37), (⟨(⟨#[50, 42]⟩ : ByteArray), 89⟩ : S37), (⟨(⟨#[43, 33]⟩ : ByteArray), 108⟩ : S37), (⟨(⟨#[64]⟩ : ByteArray), 109⟩ : S37), (⟨(⟨#[119, 64]⟩ : ByteArray), 111⟩ : S37), (⟨(⟨#[99, 64]⟩ : ByteArray), 113⟩ : S37), (⟨(⟨#[33]⟩ : ByteArray), 114⟩ : S37), (⟨(⟨#[119, 33]⟩ : ByteArray), 116⟩ : S37), (⟨(⟨#[99, 33]⟩ : ByteArray), 117⟩ : S37), (⟨(⟨#[109, 111, 118, 101]⟩ : ByteArray), 120⟩ : S37), (⟨(⟨#[102, 105, 108, 108]⟩ : ByteArray), 121⟩ : S37), (⟨(⟨#[99, 111, 109, 112]⟩ : ByteArray), 122⟩ : S37), (⟨(⟨#[108, 98, 115, 112, 108, 105, 116]⟩ : ByteArray), 126⟩ : S37), (⟨(⟨#[98, 108, 106, 111, 105, 110]⟩ : ByteArray), 127⟩ : S37), (⟨(⟨#[119, 98, 102, 108, 105, 112]⟩ : ByteArray), 128⟩ : S37), (⟨(⟨#[117, 112, 99]⟩ : ByteArray), 129⟩ : S37), (⟨(⟨#[108, 99, 99]⟩ : ByteArray), 130⟩ : S37), (⟨(⟨#[117, 110, 108, 111, 111, 112]⟩ : ByteArray), 137⟩ : S37), (⟨(⟨#[97, 108, 108, 111, 99, 45, 109, 101, 109]⟩ : ByteArray), 139⟩ : S37), (⟨(⟨#[101, 109, 105, 116]⟩ : ByteArray), 143⟩ : S37), (⟨(⟨#[116, 121, 112, 101]⟩ : ByteArray), 144⟩ : S37), (⟨(⟨#[99, 114]⟩ : ByteArray), 146⟩ : S37), (⟨(⟨#[117, 46]⟩ : ByteArray), 155⟩ : S37), (⟨(⟨#[46]⟩ : ByteArray), 157⟩ : S37), (⟨(⟨#[98, 97, 115, 101, 33]⟩ : ByteArray), 160⟩ : S37), (⟨(⟨#[45, 49]⟩ : ByteArray), 164⟩ : S37), (⟨(⟨#[48]⟩ : ByteArray), 165⟩ : S37), (⟨(⟨#[49]⟩ : ByteArray), 166⟩ : S37), (⟨(⟨#[50]⟩ : ByteArray), 167⟩ : S37), (⟨(⟨#[51]⟩ : ByteArray), 168⟩ : S37), (⟨(⟨#[98, 108]⟩ : ByteArray), 169⟩ : S37), (⟨(⟨#[104, 101, 114, 101]⟩ : ByteArray), 173⟩ : S37), (⟨(⟨#[117, 109, 42]⟩ : ByteArray), 212⟩ : S37), (⟨(⟨#[117, 109, 47, 109, 111, 100]⟩ : ByteArray), 213⟩ : S37), (⟨(⟨#[100, 43]⟩ : ByteArray), 216⟩ : S37), (⟨(⟨#[100, 45]⟩ : ByteArray), 217⟩ : S37), (⟨(⟨#[112, 114, 111, 112, 101, 114, 116, 121]⟩ : ByteArray), 272⟩ : S37), (⟨(⟨#[101, 110, 99, 111, 100, 101, 45, 105, 110, 116]⟩ : ByteArray), 273⟩ : S37), (⟨(⟨#[101, 110, 99, 111, 100, 101, 43]⟩ : ByteArray), 274⟩ : S37), (⟨(⟨#[101, 110, 99, 111, 100, 101, 45, 115, 116, 114, 105, 110, 103]⟩ : ByteArray), 276⟩ : S37), (⟨(⟨#[110, 101, 119, 45, 100, 101, 118, 105, 99, 101]⟩ : ByteArray), 287⟩ : S37), (⟨(⟨#[102, 105, 110, 105, 115, 104, 45, 100, 101, 118, 105, 99, 101]⟩ : ByteArray), 295⟩ : S37), (⟨(⟨#[115, 109, 47, 114, 101, 109]⟩ : ByteArray), 469⟩ : S37), (⟨(⟨#[109, 121, 45, 115, 101, 108, 102]⟩ : ByteArray), 515⟩ : S37), (⟨(⟨#[109, 121, 45, 112, 97, 114, 101, 110, 116]⟩ : ByteArray), 522⟩ : S37), (⟨(⟨#[36, 99, 97, 108, 108, 45, 109, 101, 116, 104, 111, 100]⟩ : ByteArray), 526⟩ : S37), (⟨(⟨#[99, 97, 116, 99, 104]⟩ : ByteArray), 535⟩ : S37), (⟨(⟨#[116, 104, 114, 111, 119]⟩ : ByteArray), 536⟩ : S37), (⟨(⟨#[103, 101, 116, 45, 109, 121, 45, 112, 114, 111, 112, 101, 114, 116, 121]⟩ : ByteArray), 538⟩ : S37), (⟨(⟨#[100, 101, 99, 111, 100, 101, 45, 105, 110, 116]⟩ : ByteArray), 539⟩ : S37), (⟨(⟨#[100, 101, 99, 111, 100, 101, 45, 115, 116, 114, 105, 110, 103]⟩ : ByteArray), 540⟩ : S37), (⟨(⟨#[100, 101, 108, 101, 116, 101, 45, 112, 114, 111, 112, 101, 114, 116, 121]⟩ : ByteArray), 542⟩ : S37), (⟨(⟨#[102, 109, 47, 109, 111, 100]⟩ : ByteArray), 725⟩ : S37)] : List (S37)))
set_option maxHeartbeats 8000000 in
set_option maxRecDepth 100000 in
theorem tinderref09_Prims.calls  (r : List (S37)) (w : World) (h : tinderref09_Prims.f  = some r) :
  Calls Try.prog 15 #[] w fun e w' => ∃ v0_ : Value, e = .returned (v0_) ∧ Kd.R k37 37 w' w.heap.size (fun _ => True) v0_ r ∧ Below w.heap.size w w' := by
 have hu37 := Try.underlying37
 have HB := Aside0.mk (Below.refl w.heap.size w)
 have H : (some (([(⟨(⟨#[105]⟩ : ByteArray), 25⟩ : S37), (⟨(⟨#[106]⟩ : ByteArray), 26⟩ : S37), (⟨(⟨#[101, 120, 101, 99, 117, 116, 101]⟩ : ByteArray), 29⟩ : S37), (⟨(⟨#[43]⟩ : ByteArray), 30⟩ : S37), (⟨(⟨#[45]⟩ : ByteArray), 31⟩ : S37), (⟨(⟨#[42]⟩ : ByteArray), 32⟩ : S37), (⟨(⟨#[47]⟩ : ByteArray), 33⟩ : S37), (⟨(⟨#[109, 111, 100]⟩ : ByteArray), 34⟩ : S37), (⟨(⟨#[97, 110, 100]⟩ : ByteArray), 35⟩ : S37), (⟨(⟨#[111, 114]⟩ : ByteArray), 36⟩ : S37), (⟨(⟨#[120, 111, 114]⟩ : ByteArray), 37⟩ : S37), (⟨(⟨#[105, 110, 118, 101, 114, 116]⟩ : ByteArray), 38⟩ : S37), (⟨(⟨#[108, 115, 104, 105, 102, 116]⟩ : ByteArray), 39⟩ : S37), (⟨(⟨#[114, 115, 104, 105, 102, 116]⟩ : ByteArray), 40⟩ : S37), (⟨(⟨#[62, 62, 97]⟩ : ByteArray), 41⟩ : S37), (⟨(⟨#[47, 109, 111, 100]⟩ : ByteArray), 42⟩ : S37), (⟨(⟨#[117, 47, 109, 111, 100]⟩ : ByteArray), 43⟩ : S37), (⟨(⟨#[110, 101, 103, 97, 116, 101]⟩ : ByteArray), 44⟩ : S37), (⟨(⟨#[97, 98, 115]⟩ : ByteArray), 45⟩ : S37), (⟨(⟨#[109, 105, 110]⟩ : ByteArray), 46⟩ : S37), (⟨(⟨#[109, 97, 120]⟩ : ByteArray), 47⟩ : S37), (⟨(⟨#[62, 114]⟩ : ByteArray), 48⟩ : S37), (⟨(⟨#[114, 62]⟩ : ByteArray), 49⟩ : S37), (⟨(⟨#[114, 64]⟩ : ByteArray), 50⟩ : S37), (⟨(⟨#[48, 61]⟩ : ByteArray), 52⟩ : S37), (⟨(⟨#[48, 60, 62]⟩ : ByteArray), 53⟩ : S37), (⟨(⟨#[48, 60]⟩ : ByteArray), 54⟩ : S37), (⟨(⟨#[48, 60, 61]⟩ : ByteArray), 55⟩ : S37), (⟨(⟨#[48, 62]⟩ : ByteArray), 56⟩ : S37), (⟨(⟨#[48, 62, 61]⟩ : ByteArray), 57⟩ : S37), (⟨(⟨#[60]⟩ : ByteArray), 58⟩ : S37), (⟨(⟨#[62]⟩ : ByteArray), 59⟩ : S37), (⟨(⟨#[61]⟩ : ByteArray), 60⟩ : S37), (⟨(⟨#[60, 62]⟩ : ByteArray), 61⟩ : S37), (⟨(⟨#[117, 62]⟩ : ByteArray), 62⟩ : S37), (⟨(⟨#[117, 60, 61]⟩ : ByteArray), 63⟩ : S37), (⟨(⟨#[117, 60]⟩ : ByteArray), 64⟩ : S37), (⟨(⟨#[117, 62, 61]⟩ : ByteArray), 65⟩ : S37), (⟨(⟨#[62, 61]⟩ : ByteArray), 66⟩ : S37), (⟨(⟨#[60, 61]⟩ : ByteArray), 67⟩ : S37), (⟨(⟨#[100, 114, 111, 112]⟩ : ByteArray), 70⟩ : S37), (⟨(⟨#[100, 117, 112]⟩ : ByteArray), 71⟩ : S37), (⟨(⟨#[111, 118, 101, 114]⟩ : ByteArray), 72⟩ : S37), (⟨(⟨#[115, 119, 97, 112]⟩ : ByteArray), 73⟩ : S37), (⟨(⟨#[114, 111, 116]⟩ : ByteArray), 74⟩ : S37), (⟨(⟨#[45, 114, 111, 116]⟩ : ByteArray), 75⟩ : S37), (⟨(⟨#[116, 117, 99, 107]⟩ : ByteArray), 76⟩ : S37), (⟨(⟨#[110, 105, 112]⟩ : ByteArray), 77⟩ : S37), (⟨(⟨#[112, 105, 99, 107]⟩ : ByteArray), 78⟩ : S37), (⟨(⟨#[114, 111, 108, 108]⟩ : ByteArray), 79⟩ : S37), (⟨(⟨#[63, 100, 117, 112]⟩ : ByteArray), 80⟩ : S37), (⟨(⟨#[100, 101, 112, 116, 104]⟩ : ByteArray), 81⟩ : S37), (⟨(⟨#[50, 100, 114, 111, 112]⟩ : ByteArray), 82⟩ : S37), (⟨(⟨#[50, 100, 117, 112]⟩ : ByteArray), 83⟩ : S37), (⟨(⟨#[50, 111, 118, 101, 114]⟩ : ByteArray), 84⟩ : S37), (⟨(⟨#[50, 115, 119, 97, 112]⟩ : ByteArray), 85⟩ : S37), (⟨(⟨#[50, 114, 111, 116]⟩ : ByteArray), 86⟩ : S37), (⟨(⟨#[50, 47]⟩ : ByteArray), 87⟩ : S37), (⟨(⟨#[117, 50, 47]⟩ : ByteArray), 88⟩ : S37), (⟨(⟨#[50, 42]⟩ : ByteArray), 89⟩ : S37), (⟨(⟨#[43, 33]⟩ : ByteArray), 108⟩ : S37), (⟨(⟨#[64]⟩ : ByteArray), 109⟩ : S37), (⟨(⟨#[119, 64]⟩ : ByteArray), 111⟩ : S37), (⟨(⟨#[99, 64]⟩ : ByteArray), 113⟩ : S37), (⟨(⟨#[33]⟩ : ByteArray), 114⟩ : S37), (⟨(⟨#[119, 33]⟩ : ByteArray), 116⟩ : S37), (⟨(⟨#[99, 33]⟩ : ByteArray), 117⟩ : S37), (⟨(⟨#[109, 111, 118, 101]⟩ : ByteArray), 120⟩ : S37), (⟨(⟨#[102, 105, 108, 108]⟩ : ByteArray), 121⟩ : S37), (⟨(⟨#[99, 111, 109, 112]⟩ : ByteArray), 122⟩ : S37), (⟨(⟨#[108, 98, 115, 112, 108, 105, 116]⟩ : ByteArray), 126⟩ : S37), (⟨(⟨#[98, 108, 106, 111, 105, 110]⟩ : ByteArray), 127⟩ : S37), (⟨(⟨#[119, 98, 102, 108, 105, 112]⟩ : ByteArray), 128⟩ : S37), (⟨(⟨#[117, 112, 99]⟩ : ByteArray), 129⟩ : S37), (⟨(⟨#[108, 99, 99]⟩ : ByteArray), 130⟩ : S37), (⟨(⟨#[117, 110, 108, 111, 111, 112]⟩ : ByteArray), 137⟩ : S37), (⟨(⟨#[97, 108, 108, 111, 99, 45, 109, 101, 109]⟩ : ByteArray), 139⟩ : S37), (⟨(⟨#[101, 109, 105, 116]⟩ : ByteArray), 143⟩ : S37), (⟨(⟨#[116, 121, 112, 101]⟩ : ByteArray), 144⟩ : S37), (⟨(⟨#[99, 114]⟩ : ByteArray), 146⟩ : S37), (⟨(⟨#[117, 46]⟩ : ByteArray), 155⟩ : S37), (⟨(⟨#[46]⟩ : ByteArray), 157⟩ : S37), (⟨(⟨#[98, 97, 115, 101, 33]⟩ : ByteArray), 160⟩ : S37), (⟨(⟨#[45, 49]⟩ : ByteArray), 164⟩ : S37), (⟨(⟨#[48]⟩ : ByteArray), 165⟩ : S37), (⟨(⟨#[49]⟩ : ByteArray), 166⟩ : S37), (⟨(⟨#[50]⟩ : ByteArray), 167⟩ : S37), (⟨(⟨#[51]⟩ : ByteArray), 168⟩ : S37), (⟨(⟨#[98, 108]⟩ : ByteArray), 169⟩ : S37), (⟨(⟨#[104, 101, 114, 101]⟩ : ByteArray), 173⟩ : S37), (⟨(⟨#[117, 109, 42]⟩ : ByteArray), 212⟩ : S37), (⟨(⟨#[117, 109, 47, 109, 111, 100]⟩ : ByteArray), 213⟩ : S37), (⟨(⟨#[100, 43]⟩ : ByteArray), 216⟩ : S37), (⟨(⟨#[100, 45]⟩ : ByteArray), 217⟩ : S37), (⟨(⟨#[112, 114, 111, 112, 101, 114, 116, 121]⟩ : ByteArray), 272⟩ : S37), (⟨(⟨#[101, 110, 99, 111, 100, 101, 45, 105, 110, 116]⟩ : ByteArray), 273⟩ : S37), (⟨(⟨#[101, 110, 99, 111, 100, 101, 43]⟩ : ByteArray), 274⟩ : S37), (⟨(⟨#[101, 110, 99, 111, 100, 101, 45, 115, 116, 114, 105, 110, 103]⟩ : ByteArray), 276⟩ : S37), (⟨(⟨#[110, 101, 119, 45, 100, 101, 118, 105, 99, 101]⟩ : ByteArray), 287⟩ : S37), (⟨(⟨#[102, 105, 110, 105, 115, 104, 45, 100, 101, 118, 105, 99, 101]⟩ : ByteArray), 295⟩ : S37), (⟨(⟨#[115, 109, 47, 114, 101, 109]⟩ : ByteArray), 469⟩ : S37), (⟨(⟨#[109, 121, 45, 115, 101, 108, 102]⟩ : ByteArray), 515⟩ : S37), (⟨(⟨#[109, 121, 45, 112, 97, 114, 101, 110, 116]⟩ : ByteArray), 522⟩ : S37), (⟨(⟨#[36, 99, 97, 108, 108, 45, 109, 101, 116, 104, 111, 100]⟩ : ByteArray), 526⟩ : S37), (⟨(⟨#[99, 97, 116, 99, 104]⟩ : ByteArray), 535⟩ : S37), (⟨(⟨#[116, 104, 114, 111, 119]⟩ : ByteArray), 536⟩ : S37), (⟨(⟨#[103, 101, 116, 45, 109, 121, 45, 112, 114, 111, 112, 101, 114, 116, 121]⟩ : ByteArray), 538⟩ : S37), (⟨(⟨#[100, 101, 99, 111, 100, 101, 45, 105, 110, 116]⟩ : ByteArray), 539⟩ : S37), (⟨(⟨#[100, 101, 99, 111, 100, 101, 45, 115, 116, 114, 105, 110, 103]⟩ : ByteArray), 540⟩ : S37), (⟨(⟨#[100, 101, 108, 101, 116, 101, 45, 112, 114, 111, 112, 101, 114, 116, 121]⟩ : ByteArray), 542⟩ : S37), (⟨(⟨#[102, 109, 47, 109, 111, 100]⟩ : ByteArray), 725⟩ : S37)] : List (S37)))) = some r := h
 clear h
 obtain ⟨y16001, hy16001⟩ : ∃ y_ : List (S37), y_ = (([(⟨(⟨#[105]⟩ : ByteArray), 25⟩ : S37), (⟨(⟨#[106]⟩ : ByteArray), 26⟩ : S37), (⟨(⟨#[101, 120, 101, 99, 117, 116, 101]⟩ : ByteArray), 29⟩ : S37), (⟨(⟨#[43]⟩ : ByteArray), 30⟩ : S37), (⟨(⟨#[45]⟩ : ByteArray), 31⟩ : S37), (⟨(⟨#[42]⟩ : ByteArray), 32⟩ : S37), (⟨(⟨#[47]⟩ : ByteArray), 33⟩ : S37), (⟨(⟨#[109, 111, 100]⟩ : ByteArray), 34⟩ : S37), (⟨(⟨#[97, 110, 100]⟩ : ByteArray), 35⟩ : S37), (⟨(⟨#[111, 114]⟩ : ByteArray), 36⟩ : S37), (⟨(⟨#[120, 111, 114]⟩ : ByteArray), 37⟩ : S37), (⟨(⟨#[105, 110, 118, 101, 114, 116]⟩ : ByteArray), 38⟩ : S37), (⟨(⟨#[108, 115, 104, 105, 102, 116]⟩ : ByteArray), 39⟩ : S37), (⟨(⟨#[114, 115, 104, 105, 102, 116]⟩ : ByteArray), 40⟩ : S37), (⟨(⟨#[62, 62, 97]⟩ : ByteArray), 41⟩ : S37), (⟨(⟨#[47, 109, 111, 100]⟩ : ByteArray), 42⟩ : S37), (⟨(⟨#[117, 47, 109, 111, 100]⟩ : ByteArray), 43⟩ : S37), (⟨(⟨#[110, 101, 103, 97, 116, 101]⟩ : ByteArray), 44⟩ : S37), (⟨(⟨#[97, 98, 115]⟩ : ByteArray), 45⟩ : S37), (⟨(⟨#[109, 105, 110]⟩ : ByteArray), 46⟩ : S37), (⟨(⟨#[109, 97, 120]⟩ : ByteArray), 47⟩ : S37), (⟨(⟨#[62, 114]⟩ : ByteArray), 48⟩ : S37), (⟨(⟨#[114, 62]⟩ : ByteArray), 49⟩ : S37), (⟨(⟨#[114, 64]⟩ : ByteArray), 50⟩ : S37), (⟨(⟨#[48, 61]⟩ : ByteArray), 52⟩ : S37), (⟨(⟨#[48, 60, 62]⟩ : ByteArray), 53⟩ : S37), (⟨(⟨#[48, 60]⟩ : ByteArray), 54⟩ : S37), (⟨(⟨#[48, 60, 61]⟩ : ByteArray), 55⟩ : S37), (⟨(⟨#[48, 62]⟩ : ByteArray), 56⟩ : S37), (⟨(⟨#[48, 62, 61]⟩ : ByteArray), 57⟩ : S37), (⟨(⟨#[60]⟩ : ByteArray), 58⟩ : S37), (⟨(⟨#[62]⟩ : ByteArray), 59⟩ : S37), (⟨(⟨#[61]⟩ : ByteArray), 60⟩ : S37), (⟨(⟨#[60, 62]⟩ : ByteArray), 61⟩ : S37), (⟨(⟨#[117, 62]⟩ : ByteArray), 62⟩ : S37), (⟨(⟨#[117, 60, 61]⟩ : ByteArray), 63⟩ : S37), (⟨(⟨#[117, 60]⟩ : ByteArray), 64⟩ : S37), (⟨(⟨#[117, 62, 61]⟩ : ByteArray), 65⟩ : S37), (⟨(⟨#[62, 61]⟩ : ByteArray), 66⟩ : S37), (⟨(⟨#[60, 61]⟩ : ByteArray), 67⟩ : S37), (⟨(⟨#[100, 114, 111, 112]⟩ : ByteArray), 70⟩ : S37), (⟨(⟨#[100, 117, 112]⟩ : ByteArray), 71⟩ : S37), (⟨(⟨#[111, 118, 101, 114]⟩ : ByteArray), 72⟩ : S37), (⟨(⟨#[115, 119, 97, 112]⟩ : ByteArray), 73⟩ : S37), (⟨(⟨#[114, 111, 116]⟩ : ByteArray), 74⟩ : S37), (⟨(⟨#[45, 114, 111, 116]⟩ : ByteArray), 75⟩ : S37), (⟨(⟨#[116, 117, 99, 107]⟩ : ByteArray), 76⟩ : S37), (⟨(⟨#[110, 105, 112]⟩ : ByteArray), 77⟩ : S37), (⟨(⟨#[112, 105, 99, 107]⟩ : ByteArray), 78⟩ : S37), (⟨(⟨#[114, 111, 108, 108]⟩ : ByteArray), 79⟩ : S37), (⟨(⟨#[63, 100, 117, 112]⟩ : ByteArray), 80⟩ : S37), (⟨(⟨#[100, 101, 112, 116, 104]⟩ : ByteArray), 81⟩ : S37), (⟨(⟨#[50, 100, 114, 111, 112]⟩ : ByteArray), 82⟩ : S37), (⟨(⟨#[50, 100, 117, 112]⟩ : ByteArray), 83⟩ : S37), (⟨(⟨#[50, 111, 118, 101, 114]⟩ : ByteArray), 84⟩ : S37), (⟨(⟨#[50, 115, 119, 97, 112]⟩ : ByteArray), 85⟩ : S37), (⟨(⟨#[50, 114, 111, 116]⟩ : ByteArray), 86⟩ : S37), (⟨(⟨#[50, 47]⟩ : ByteArray), 87⟩ : S37), (⟨(⟨#[117, 50, 47]⟩ : ByteArray), 88⟩ : S37), (⟨(⟨#[50, 42]⟩ : ByteArray), 89⟩ : S37), (⟨(⟨#[43, 33]⟩ : ByteArray), 108⟩ : S37), (⟨(⟨#[64]⟩ : ByteArray), 109⟩ : S37), (⟨(⟨#[119, 64]⟩ : ByteArray), 111⟩ : S37), (⟨(⟨#[99, 64]⟩ : ByteArray), 113⟩ : S37), (⟨(⟨#[33]⟩ : ByteArray), 114⟩ : S37), (⟨(⟨#[119, 33]⟩ : ByteArray), 116⟩ : S37), (⟨(⟨#[99, 33]⟩ : ByteArray), 117⟩ : S37), (⟨(⟨#[109, 111, 118, 101]⟩ : ByteArray), 120⟩ : S37), (⟨(⟨#[102, 105, 108, 108]⟩ : ByteArray), 121⟩ : S37), (⟨(⟨#[99, 111, 109, 112]⟩ : ByteArray), 122⟩ : S37), (⟨(⟨#[108, 98, 115, 112, 108, 105, 116]⟩ : ByteArray), 126⟩ : S37), (⟨(⟨#[98, 108, 106, 111, 105, 110]⟩ : ByteArray), 127⟩ : S37), (⟨(⟨#[119, 98, 102, 108, 105, 112]⟩ : ByteArray), 128⟩ : S37), (⟨(⟨#[117, 112, 99]⟩ : ByteArray), 129⟩ : S37), (⟨(⟨#[108, 99, 99]⟩ : ByteArray), 130⟩ : S37), (⟨(⟨#[117, 110, 108, 111, 111, 112]⟩ : ByteArray), 137⟩ : S37), (⟨(⟨#[97, 108, 108, 111, 99, 45, 109, 101, 109]⟩ : ByteArray), 139⟩ : S37), (⟨(⟨#[101, 109, 105, 116]⟩ : ByteArray), 143⟩ : S37), (⟨(⟨#[116, 121, 112, 101]⟩ : ByteArray), 144⟩ : S37), (⟨(⟨#[99, 114]⟩ : ByteArray), 146⟩ : S37), (⟨(⟨#[117, 46]⟩ : ByteArray), 155⟩ : S37), (⟨(⟨#[46]⟩ : ByteArray), 157⟩ : S37), (⟨(⟨#[98, 97, 115, 101, 33]⟩ : ByteArray), 160⟩ : S37), (⟨(⟨#[45, 49]⟩ : ByteArray), 164⟩ : S37), (⟨(⟨#[48]⟩ : ByteArray), 165⟩ : S37), (⟨(⟨#[49]⟩ : ByteArray), 166⟩ : S37), (⟨(⟨#[50]⟩ : ByteArray), 167⟩ : S37), (⟨(⟨#[51]⟩ : ByteArray), 168⟩ : S37), (⟨(⟨#[98, 108]⟩ : ByteArray), 169⟩ : S37), (⟨(⟨#[104, 101, 114, 101]⟩ : ByteArray), 173⟩ : S37), (⟨(⟨#[117, 109, 42]⟩ : ByteArray), 212⟩ : S37), (⟨(⟨#[117, 109, 47, 109, 111, 100]⟩ : ByteArray), 213⟩ : S37), (⟨(⟨#[100, 43]⟩ : ByteArray), 216⟩ : S37), (⟨(⟨#[100, 45]⟩ : ByteArray), 217⟩ : S37), (⟨(⟨#[112, 114, 111, 112, 101, 114, 116, 121]⟩ : ByteArray), 272⟩ : S37), (⟨(⟨#[101, 110, 99, 111, 100, 101, 45, 105, 110, 116]⟩ : ByteArray), 273⟩ : S37), (⟨(⟨#[101, 110, 99, 111, 100, 101, 43]⟩ : ByteArray), 274⟩ : S37), (⟨(⟨#[101, 110, 99, 111, 100, 101, 45, 115, 116, 114, 105, 110, 103]⟩ : ByteArray), 276⟩ : S37), (⟨(⟨#[110, 101, 119, 45, 100, 101, 118, 105, 99, 101]⟩ : ByteArray), 287⟩ : S37), (⟨(⟨#[102, 105, 110, 105, 115, 104, 45, 100, 101, 118, 105, 99, 101]⟩ : ByteArray), 295⟩ : S37), (⟨(⟨#[115, 109, 47, 114, 101, 109]⟩ : ByteArray), 469⟩ : S37), (⟨(⟨#[109, 121, 45, 115, 101, 108, 102]⟩ : ByteArray), 515⟩ : S37), (⟨(⟨#[109, 121, 45, 112, 97, 114, 101, 110, 116]⟩ : ByteArray), 522⟩ : S37), (⟨(⟨#[36, 99, 97, 108, 108, 45, 109, 101, 116, 104, 111, 100]⟩ : ByteArray), 526⟩ : S37), (⟨(⟨#[99, 97, 116, 99, 104]⟩ : ByteArray), 535⟩ : S37), (⟨(⟨#[116, 104, 114, 111, 119]⟩ : ByteArray), 536⟩ : S37), (⟨(⟨#[103, 101, 116, 45, 109, 121, 45, 112, 114, 111, 112, 101, 114, 116, 121]⟩ : ByteArray), 538⟩ : S37), (⟨(⟨#[100, 101, 99, 111, 100, 101, 45, 105, 110, 116]⟩ : ByteArray), 539⟩ : S37), (⟨(⟨#[100, 101, 99, 111, 100, 101, 45, 115, 116, 114, 105, 110, 103]⟩ : ByteArray), 540⟩ : S37), (⟨(⟨#[100, 101, 108, 101, 116, 101, 45, 112, 114, 111, 112, 101, 114, 116, 121]⟩ : ByteArray), 542⟩ : S37), (⟨(⟨#[102, 109, 47, 109, 111, 100]⟩ : ByteArray), 725⟩ : S37)] : List (S37))) := ⟨_, rfl⟩
 replace H : (some y16001) = some r := by first | (rw [hy16001]; with_reducible exact H) | (have H2_ := (Option.bind_some _ _).symm.trans H; rw [hy16001]; with_reducible exact H2_) | (have H2_ := (Option.bind_some _ _).symm.trans H; with_reducible exact H2_) | with_reducible exact H | (rw [hy16001]; exact H) | exact H
 have Ny16001 := Aside0.mk hy16001
 clear hy16001
 obtain rfl := Option.some.inj H
 go_enter Try.func15, Try.ntmps15
 go_wp2_with (first | ((with_reducible refine gate_dst (N := 112) rfl ?_); refine Kd.R_lit k37 _ 37 ?hg (N := 112) ?hd (xs := ([(⟨(⟨#[105]⟩ : ByteArray), 25⟩ : S37), (⟨(⟨#[106]⟩ : ByteArray), 26⟩ : S37), (⟨(⟨#[101, 120, 101, 99, 117, 116, 101]⟩ : ByteArray), 29⟩ : S37), (⟨(⟨#[43]⟩ : ByteArray), 30⟩ : S37), (⟨(⟨#[45]⟩ : ByteArray), 31⟩ : S37), (⟨(⟨#[42]⟩ : ByteArray), 32⟩ : S37), (⟨(⟨#[47]⟩ : ByteArray), 33⟩ : S37), (⟨(⟨#[109, 111, 100]⟩ : ByteArray), 34⟩ : S37), (⟨(⟨#[97, 110, 100]⟩ : ByteArray), 35⟩ : S37), (⟨(⟨#[111, 114]⟩ : ByteArray), 36⟩ : S37), (⟨(⟨#[120, 111, 114]⟩ : ByteArray), 37⟩ : S37), (⟨(⟨#[105, 110, 118, 101, 114, 116]⟩ : ByteArray), 38⟩ : S37), (⟨(⟨#[108, 115, 104, 105, 102, 116]⟩ : ByteArray), 39⟩ : S37), (⟨(⟨#[114, 115, 104, 105, 102, 116]⟩ : ByteArray), 40⟩ : S37), (⟨(⟨#[62, 62, 97]⟩ : ByteArray), 41⟩ : S37), (⟨(⟨#[47, 109, 111, 100]⟩ : ByteArray), 42⟩ : S37), (⟨(⟨#[117, 47, 109, 111, 100]⟩ : ByteArray), 43⟩ : S37), (⟨(⟨#[110, 101, 103, 97, 116, 101]⟩ : ByteArray), 44⟩ : S37), (⟨(⟨#[97, 98, 115]⟩ : ByteArray), 45⟩ : S37), (⟨(⟨#[109, 105, 110]⟩ : ByteArray), 46⟩ : S37), (⟨(⟨#[109, 97, 120]⟩ : ByteArray), 47⟩ : S37), (⟨(⟨#[62, 114]⟩ : ByteArray), 48⟩ : S37), (⟨(⟨#[114, 62]⟩ : ByteArray), 49⟩ : S37), (⟨(⟨#[114, 64]⟩ : ByteArray), 50⟩ : S37), (⟨(⟨#[48, 61]⟩ : ByteArray), 52⟩ : S37), (⟨(⟨#[48, 60, 62]⟩ : ByteArray), 53⟩ : S37), (⟨(⟨#[48, 60]⟩ : ByteArray), 54⟩ : S37), (⟨(⟨#[48, 60, 61]⟩ : ByteArray), 55⟩ : S37), (⟨(⟨#[48, 62]⟩ : ByteArray), 56⟩ : S37), (⟨(⟨#[48, 62, 61]⟩ : ByteArray), 57⟩ : S37), (⟨(⟨#[60]⟩ : ByteArray), 58⟩ : S37), (⟨(⟨#[62]⟩ : ByteArray), 59⟩ : S37), (⟨(⟨#[61]⟩ : ByteArray), 60⟩ : S37), (⟨(⟨#[60, 62]⟩ : ByteArray), 61⟩ : S37), (⟨(⟨#[117, 62]⟩ : ByteArray), 62⟩ : S37), (⟨(⟨#[117, 60, 61]⟩ : ByteArray), 63⟩ : S37), (⟨(⟨#[117, 60]⟩ : ByteArray), 64⟩ : S37), (⟨(⟨#[117, 62, 61]⟩ : ByteArray), 65⟩ : S37), (⟨(⟨#[62, 61]⟩ : ByteArray), 66⟩ : S37), (⟨(⟨#[60, 61]⟩ : ByteArray), 67⟩ : S37), (⟨(⟨#[100, 114, 111, 112]⟩ : ByteArray), 70⟩ : S37), (⟨(⟨#[100, 117, 112]⟩ : ByteArray), 71⟩ : S37), (⟨(⟨#[111, 118, 101, 114]⟩ : ByteArray), 72⟩ : S37), (⟨(⟨#[115, 119, 97, 112]⟩ : ByteArray), 73⟩ : S37), (⟨(⟨#[114, 111, 116]⟩ : ByteArray), 74⟩ : S37), (⟨(⟨#[45, 114, 111, 116]⟩ : ByteArray), 75⟩ : S37), (⟨(⟨#[116, 117, 99, 107]⟩ : ByteArray), 76⟩ : S37), (⟨(⟨#[110, 105, 112]⟩ : ByteArray), 77⟩ : S37), (⟨(⟨#[112, 105, 99, 107]⟩ : ByteArray), 78⟩ : S37), (⟨(⟨#[114, 111, 108, 108]⟩ : ByteArray), 79⟩ : S37), (⟨(⟨#[63, 100, 117, 112]⟩ : ByteArray), 80⟩ : S37), (⟨(⟨#[100, 101, 112, 116, 104]⟩ : ByteArray), 81⟩ : S37), (⟨(⟨#[50, 100, 114, 111, 112]⟩ : ByteArray), 82⟩ : S37), (⟨(⟨#[50, 100, 117, 112]⟩ : ByteArray), 83⟩ : S37), (⟨(⟨#[50, 111, 118, 101, 114]⟩ : ByteArray), 84⟩ : S37), (⟨(⟨#[50, 115, 119, 97, 112]⟩ : ByteArray), 85⟩ : S37), (⟨(⟨#[50, 114, 111, 116]⟩ : ByteArray), 86⟩ : S37), (⟨(⟨#[50, 47]⟩ : ByteArray), 87⟩ : S37), (⟨(⟨#[117, 50, 47]⟩ : ByteArray), 88⟩ : S37), (⟨(⟨#[50, 42]⟩ : ByteArray), 89⟩ : S37), (⟨(⟨#[43, 33]⟩ : ByteArray), 108⟩ : S37), (⟨(⟨#[64]⟩ : ByteArray), 109⟩ : S37), (⟨(⟨#[119, 64]⟩ : ByteArray), 111⟩ : S37), (⟨(⟨#[99, 64]⟩ : ByteArray), 113⟩ : S37), (⟨(⟨#[33]⟩ : ByteArray), 114⟩ : S37), (⟨(⟨#[119, 33]⟩ : ByteArray), 116⟩ : S37), (⟨(⟨#[99, 33]⟩ : ByteArray), 117⟩ : S37), (⟨(⟨#[109, 111, 118, 101]⟩ : ByteArray), 120⟩ : S37), (⟨(⟨#[102, 105, 108, 108]⟩ : ByteArray), 121⟩ : S37), (⟨(⟨#[99, 111, 109, 112]⟩ : ByteArray), 122⟩ : S37), (⟨(⟨#[108, 98, 115, 112, 108, 105, 116]⟩ : ByteArray), 126⟩ : S37), (⟨(⟨#[98, 108, 106, 111, 105, 110]⟩ : ByteArray), 127⟩ : S37), (⟨(⟨#[119, 98, 102, 108, 105, 112]⟩ : ByteArray), 128⟩ : S37), (⟨(⟨#[117, 112, 99]⟩ : ByteArray), 129⟩ : S37), (⟨(⟨#[108, 99, 99]⟩ : ByteArray), 130⟩ : S37), (⟨(⟨#[117, 110, 108, 111, 111, 112]⟩ : ByteArray), 137⟩ : S37), (⟨(⟨#[97, 108, 108, 111, 99, 45, 109, 101, 109]⟩ : ByteArray), 139⟩ : S37), (⟨(⟨#[101, 109, 105, 116]⟩ : ByteArray), 143⟩ : S37), (⟨(⟨#[116, 121, 112, 101]⟩ : ByteArray), 144⟩ : S37), (⟨(⟨#[99, 114]⟩ : ByteArray), 146⟩ : S37), (⟨(⟨#[117, 46]⟩ : ByteArray), 155⟩ : S37), (⟨(⟨#[46]⟩ : ByteArray), 157⟩ : S37), (⟨(⟨#[98, 97, 115, 101, 33]⟩ : ByteArray), 160⟩ : S37), (⟨(⟨#[45, 49]⟩ : ByteArray), 164⟩ : S37), (⟨(⟨#[48]⟩ : ByteArray), 165⟩ : S37), (⟨(⟨#[49]⟩ : ByteArray), 166⟩ : S37), (⟨(⟨#[50]⟩ : ByteArray), 167⟩ : S37), (⟨(⟨#[51]⟩ : ByteArray), 168⟩ : S37), (⟨(⟨#[98, 108]⟩ : ByteArray), 169⟩ : S37), (⟨(⟨#[104, 101, 114, 101]⟩ : ByteArray), 173⟩ : S37), (⟨(⟨#[117, 109, 42]⟩ : ByteArray), 212⟩ : S37), (⟨(⟨#[117, 109, 47, 109, 111, 100]⟩ : ByteArray), 213⟩ : S37), (⟨(⟨#[100, 43]⟩ : ByteArray), 216⟩ : S37), (⟨(⟨#[100, 45]⟩ : ByteArray), 217⟩ : S37), (⟨(⟨#[112, 114, 111, 112, 101, 114, 116, 121]⟩ : ByteArray), 272⟩ : S37), (⟨(⟨#[101, 110, 99, 111, 100, 101, 45, 105, 110, 116]⟩ : ByteArray), 273⟩ : S37), (⟨(⟨#[101, 110, 99, 111, 100, 101, 43]⟩ : ByteArray), 274⟩ : S37), (⟨(⟨#[101, 110, 99, 111, 100, 101, 45, 115, 116, 114, 105, 110, 103]⟩ : ByteArray), 276⟩ : S37), (⟨(⟨#[110, 101, 119, 45, 100, 101, 118, 105, 99, 101]⟩ : ByteArray), 287⟩ : S37), (⟨(⟨#[102, 105, 110, 105, 115, 104, 45, 100, 101, 118, 105, 99, 101]⟩ : ByteArray), 295⟩ : S37), (⟨(⟨#[115, 109, 47, 114, 101, 109]⟩ : ByteArray), 469⟩ : S37), (⟨(⟨#[109, 121, 45, 115, 101, 108, 102]⟩ : ByteArray), 515⟩ : S37), (⟨(⟨#[109, 121, 45, 112, 97, 114, 101, 110, 116]⟩ : ByteArray), 522⟩ : S37), (⟨(⟨#[36, 99, 97, 108, 108, 45, 109, 101, 116, 104, 111, 100]⟩ : ByteArray), 526⟩ : S37), (⟨(⟨#[99, 97, 116, 99, 104]⟩ : ByteArray), 535⟩ : S37), (⟨(⟨#[116, 104, 114, 111, 119]⟩ : ByteArray), 536⟩ : S37), (⟨(⟨#[103, 101, 116, 45, 109, 121, 45, 112, 114, 111, 112, 101, 114, 116, 121]⟩ : ByteArray), 538⟩ : S37), (⟨(⟨#[100, 101, 99, 111, 100, 101, 45, 105, 110, 116]⟩ : ByteArray), 539⟩ : S37), (⟨(⟨#[100, 101, 99, 111, 100, 101, 45, 115, 116, 114, 105, 110, 103]⟩ : ByteArray), 540⟩ : S37), (⟨(⟨#[100, 101, 108, 101, 116, 101, 45, 112, 114, 111, 112, 101, 114, 116, 121]⟩ : ByteArray), 542⟩ : S37), (⟨(⟨#[102, 109, 47, 109, 111, 100]⟩ : ByteArray), 725⟩ : S37)] : List (S37))) (inner := [.string (⟨#[105]⟩ : ByteArray), .int .i64 25, .string (⟨#[106]⟩ : ByteArray), .int .i64 26, .string (⟨#[101, 120, 101, 99, 117, 116, 101]⟩ : ByteArray), .int .i64 29, .string (⟨#[43]⟩ : ByteArray), .int .i64 30, .string (⟨#[45]⟩ : ByteArray), .int .i64 31, .string (⟨#[42]⟩ : ByteArray), .int .i64 32, .string (⟨#[47]⟩ : ByteArray), .int .i64 33, .string (⟨#[109, 111, 100]⟩ : ByteArray), .int .i64 34, .string (⟨#[97, 110, 100]⟩ : ByteArray), .int .i64 35, .string (⟨#[111, 114]⟩ : ByteArray), .int .i64 36, .string (⟨#[120, 111, 114]⟩ : ByteArray), .int .i64 37, .string (⟨#[105, 110, 118, 101, 114, 116]⟩ : ByteArray), .int .i64 38, .string (⟨#[108, 115, 104, 105, 102, 116]⟩ : ByteArray), .int .i64 39, .string (⟨#[114, 115, 104, 105, 102, 116]⟩ : ByteArray), .int .i64 40, .string (⟨#[62, 62, 97]⟩ : ByteArray), .int .i64 41, .string (⟨#[47, 109, 111, 100]⟩ : ByteArray), .int .i64 42, .string (⟨#[117, 47, 109, 111, 100]⟩ : ByteArray), .int .i64 43, .string (⟨#[110, 101, 103, 97, 116, 101]⟩ : ByteArray), .int .i64 44, .string (⟨#[97, 98, 115]⟩ : ByteArray), .int .i64 45, .string (⟨#[109, 105, 110]⟩ : ByteArray), .int .i64 46, .string (⟨#[109, 97, 120]⟩ : ByteArray), .int .i64 47, .string (⟨#[62, 114]⟩ : ByteArray), .int .i64 48, .string (⟨#[114, 62]⟩ : ByteArray), .int .i64 49, .string (⟨#[114, 64]⟩ : ByteArray), .int .i64 50, .string (⟨#[48, 61]⟩ : ByteArray), .int .i64 52, .string (⟨#[48, 60, 62]⟩ : ByteArray), .int .i64 53, .string (⟨#[48, 60]⟩ : ByteArray), .int .i64 54, .string (⟨#[48, 60, 61]⟩ : ByteArray), .int .i64 55, .string (⟨#[48, 62]⟩ : ByteArray), .int .i64 56, .string (⟨#[48, 62, 61]⟩ : ByteArray), .int .i64 57, .string (⟨#[60]⟩ : ByteArray), .int .i64 58, .string (⟨#[62]⟩ : ByteArray), .int .i64 59, .string (⟨#[61]⟩ : ByteArray), .int .i64 60, .string (⟨#[60, 62]⟩ : ByteArray), .int .i64 61, .string (⟨#[117, 62]⟩ : ByteArray), .int .i64 62, .string (⟨#[117, 60, 61]⟩ : ByteArray), .int .i64 63, .string (⟨#[117, 60]⟩ : ByteArray), .int .i64 64, .string (⟨#[117, 62, 61]⟩ : ByteArray), .int .i64 65, .string (⟨#[62, 61]⟩ : ByteArray), .int .i64 66, .string (⟨#[60, 61]⟩ : ByteArray), .int .i64 67, .string (⟨#[100, 114, 111, 112]⟩ : ByteArray), .int .i64 70, .string (⟨#[100, 117, 112]⟩ : ByteArray), .int .i64 71, .string (⟨#[111, 118, 101, 114]⟩ : ByteArray), .int .i64 72, .string (⟨#[115, 119, 97, 112]⟩ : ByteArray), .int .i64 73, .string (⟨#[114, 111, 116]⟩ : ByteArray), .int .i64 74, .string (⟨#[45, 114, 111, 116]⟩ : ByteArray), .int .i64 75, .string (⟨#[116, 117, 99, 107]⟩ : ByteArray), .int .i64 76, .string (⟨#[110, 105, 112]⟩ : ByteArray), .int .i64 77, .string (⟨#[112, 105, 99, 107]⟩ : ByteArray), .int .i64 78, .string (⟨#[114, 111, 108, 108]⟩ : ByteArray), .int .i64 79, .string (⟨#[63, 100, 117, 112]⟩ : ByteArray), .int .i64 80, .string (⟨#[100, 101, 112, 116, 104]⟩ : ByteArray), .int .i64 81, .string (⟨#[50, 100, 114, 111, 112]⟩ : ByteArray), .int .i64 82, .string (⟨#[50, 100, 117, 112]⟩ : ByteArray), .int .i64 83, .string (⟨#[50, 111, 118, 101, 114]⟩ : ByteArray), .int .i64 84, .string (⟨#[50, 115, 119, 97, 112]⟩ : ByteArray), .int .i64 85, .string (⟨#[50, 114, 111, 116]⟩ : ByteArray), .int .i64 86, .string (⟨#[50, 47]⟩ : ByteArray), .int .i64 87, .string (⟨#[117, 50, 47]⟩ : ByteArray), .int .i64 88, .string (⟨#[50, 42]⟩ : ByteArray), .int .i64 89, .string (⟨#[43, 33]⟩ : ByteArray), .int .i64 108, .string (⟨#[64]⟩ : ByteArray), .int .i64 109, .string (⟨#[119, 64]⟩ : ByteArray), .int .i64 111, .string (⟨#[99, 64]⟩ : ByteArray), .int .i64 113, .string (⟨#[33]⟩ : ByteArray), .int .i64 114, .string (⟨#[119, 33]⟩ : ByteArray), .int .i64 116, .string (⟨#[99, 33]⟩ : ByteArray), .int .i64 117, .string (⟨#[109, 111, 118, 101]⟩ : ByteArray), .int .i64 120, .string (⟨#[102, 105, 108, 108]⟩ : ByteArray), .int .i64 121, .string (⟨#[99, 111, 109, 112]⟩ : ByteArray), .int .i64 122, .string (⟨#[108, 98, 115, 112, 108, 105, 116]⟩ : ByteArray), .int .i64 126, .string (⟨#[98, 108, 106, 111, 105, 110]⟩ : ByteArray), .int .i64 127, .string (⟨#[119, 98, 102, 108, 105, 112]⟩ : ByteArray), .int .i64 128, .string (⟨#[117, 112, 99]⟩ : ByteArray), .int .i64 129, .string (⟨#[108, 99, 99]⟩ : ByteArray), .int .i64 130, .string (⟨#[117, 110, 108, 111, 111, 112]⟩ : ByteArray), .int .i64 137, .string (⟨#[97, 108, 108, 111, 99, 45, 109, 101, 109]⟩ : ByteArray), .int .i64 139, .string (⟨#[101, 109, 105, 116]⟩ : ByteArray), .int .i64 143, .string (⟨#[116, 121, 112, 101]⟩ : ByteArray), .int .i64 144, .string (⟨#[99, 114]⟩ : ByteArray), .int .i64 146, .string (⟨#[117, 46]⟩ : ByteArray), .int .i64 155, .string (⟨#[46]⟩ : ByteArray), .int .i64 157, .string (⟨#[98, 97, 115, 101, 33]⟩ : ByteArray), .int .i64 160, .string (⟨#[45, 49]⟩ : ByteArray), .int .i64 164, .string (⟨#[48]⟩ : ByteArray), .int .i64 165, .string (⟨#[49]⟩ : ByteArray), .int .i64 166, .string (⟨#[50]⟩ : ByteArray), .int .i64 167, .string (⟨#[51]⟩ : ByteArray), .int .i64 168, .string (⟨#[98, 108]⟩ : ByteArray), .int .i64 169, .string (⟨#[104, 101, 114, 101]⟩ : ByteArray), .int .i64 173, .string (⟨#[117, 109, 42]⟩ : ByteArray), .int .i64 212, .string (⟨#[117, 109, 47, 109, 111, 100]⟩ : ByteArray), .int .i64 213, .string (⟨#[100, 43]⟩ : ByteArray), .int .i64 216, .string (⟨#[100, 45]⟩ : ByteArray), .int .i64 217, .string (⟨#[112, 114, 111, 112, 101, 114, 116, 121]⟩ : ByteArray), .int .i64 272, .string (⟨#[101, 110, 99, 111, 100, 101, 45, 105, 110, 116]⟩ : ByteArray), .int .i64 273, .string (⟨#[101, 110, 99, 111, 100, 101, 43]⟩ : ByteArray), .int .i64 274, .string (⟨#[101, 110, 99, 111, 100, 101, 45, 115, 116, 114, 105, 110, 103]⟩ : ByteArray), .int .i64 276, .string (⟨#[110, 101, 119, 45, 100, 101, 118, 105, 99, 101]⟩ : ByteArray), .int .i64 287, .string (⟨#[102, 105, 110, 105, 115, 104, 45, 100, 101, 118, 105, 99, 101]⟩ : ByteArray), .int .i64 295, .string (⟨#[115, 109, 47, 114, 101, 109]⟩ : ByteArray), .int .i64 469, .string (⟨#[109, 121, 45, 115, 101, 108, 102]⟩ : ByteArray), .int .i64 515, .string (⟨#[109, 121, 45, 112, 97, 114, 101, 110, 116]⟩ : ByteArray), .int .i64 522, .string (⟨#[36, 99, 97, 108, 108, 45, 109, 101, 116, 104, 111, 100]⟩ : ByteArray), .int .i64 526, .string (⟨#[99, 97, 116, 99, 104]⟩ : ByteArray), .int .i64 535, .string (⟨#[116, 104, 114, 111, 119]⟩ : ByteArray), .int .i64 536, .string (⟨#[103, 101, 116, 45, 109, 121, 45, 112, 114, 111, 112, 101, 114, 116, 121]⟩ : ByteArray), .int .i64 538, .string (⟨#[100, 101, 99, 111, 100, 101, 45, 105, 110, 116]⟩ : ByteArray), .int .i64 539, .string (⟨#[100, 101, 99, 111, 100, 101, 45, 115, 116, 114, 105, 110, 103]⟩ : ByteArray), .int .i64 540, .string (⟨#[100, 101, 108, 101, 116, 101, 45, 112, 114, 111, 112, 101, 114, 116, 121]⟩ : ByteArray), .int .i64 542, .string (⟨#[102, 109, 47, 109, 111, 100]⟩ : ByteArray), .int .i64 725]) (ok := fun _ => True) (okp := fun _ => True) ?hr ?hp (fun _ hk => hk) trivial (Below.refl _ _) (Nat.le_refl _) (by simp) ?_; (case hd => rfl); (case hg => rfl); (case hr => kernel_rfl); (case hp => exact (Reps.c2 (show Kd.M k37 _ _ _ (⟨(⟨#[105]⟩ : ByteArray), 25⟩ : S37) [.string (⟨#[105]⟩ : ByteArray), .int .i64 25] from (k37_mkM _ _ _ (⟨(⟨#[105]⟩ : ByteArray), 25⟩ : S37) )) (Reps.c2 (show Kd.M k37 _ _ _ (⟨(⟨#[106]⟩ : ByteArray), 26⟩ : S37) [.string (⟨#[106]⟩ : ByteArray), .int .i64 26] from (k37_mkM _ _ _ (⟨(⟨#[106]⟩ : ByteArray), 26⟩ : S37) )) (Reps.c2 (show Kd.M k37 _ _ _ (⟨(⟨#[101, 120, 101, 99, 117, 116, 101]⟩ : ByteArray), 29⟩ : S37) [.string (⟨#[101, 120, 101, 99, 117, 116, 101]⟩ : ByteArray), .int .i64 29] from (k37_mkM _ _ _ (⟨(⟨#[101, 120, 101, 99, 117, 116, 101]⟩ : ByteArray), 29⟩ : S37) )) (Reps.c2 (show Kd.M k37 _ _ _ (⟨(⟨#[43]⟩ : ByteArray), 30⟩ : S37) [.string (⟨#[43]⟩ : ByteArray), .int .i64 30] from (k37_mkM _ _ _ (⟨(⟨#[43]⟩ : ByteArray), 30⟩ : S37) )) (Reps.c2 (show Kd.M k37 _ _ _ (⟨(⟨#[45]⟩ : ByteArray), 31⟩ : S37) [.string (⟨#[45]⟩ : ByteArray), .int .i64 31] from (k37_mkM _ _ _ (⟨(⟨#[45]⟩ : ByteArray), 31⟩ : S37) )) (Reps.c2 (show Kd.M k37 _ _ _ (⟨(⟨#[42]⟩ : ByteArray), 32⟩ : S37) [.string (⟨#[42]⟩ : ByteArray), .int .i64 32] from (k37_mkM _ _ _ (⟨(⟨#[42]⟩ : ByteArray), 32⟩ : S37) )) (Reps.c2 (show Kd.M k37 _ _ _ (⟨(⟨#[47]⟩ : ByteArray), 33⟩ : S37) [.string (⟨#[47]⟩ : ByteArray), .int .i64 33] from (k37_mkM _ _ _ (⟨(⟨#[47]⟩ : ByteArray), 33⟩ : S37) )) (Reps.c2 (show Kd.M k37 _ _ _ (⟨(⟨#[109, 111, 100]⟩ : ByteArray), 34⟩ : S37) [.string (⟨#[109, 111, 100]⟩ : ByteArray), .int .i64 34] from (k37_mkM _ _ _ (⟨(⟨#[109, 111, 100]⟩ : ByteArray), 34⟩ : S37) )) (Reps.c2 (show Kd.M k37 _ _ _ (⟨(⟨#[97, 110, 100]⟩ : ByteArray), 35⟩ : S37) [.string (⟨#[97, 110, 100]⟩ : ByteArray), .int .i64 35] from (k37_mkM _ _ _ (⟨(⟨#[97, 110, 100]⟩ : ByteArray), 35⟩ : S37) )) (Reps.c2 (show Kd.M k37 _ _ _ (⟨(⟨#[111, 114]⟩ : ByteArray), 36⟩ : S37) [.string (⟨#[111, 114]⟩ : ByteArray), .int .i64 36] from (k37_mkM _ _ _ (⟨(⟨#[111, 114]⟩ : ByteArray), 36⟩ : S37) )) (Reps.c2 (show Kd.M k37 _ _ _ (⟨(⟨#[120, 111, 114]⟩ : ByteArray), 37⟩ : S37) [.string (⟨#[120, 111, 114]⟩ : ByteArray), .int .i64 37] from (k37_mkM _ _ _ (⟨(⟨#[120, 111, 114]⟩ : ByteArray), 37⟩ : S37) )) (Reps.c2 (show Kd.M k37 _ _ _ (⟨(⟨#[105, 110, 118, 101, 114, 116]⟩ : ByteArray), 38⟩ : S37) [.string (⟨#[105, 110, 118, 101, 114, 116]⟩ : ByteArray), .int .i64 38] from (k37_mkM _ _ _ (⟨(⟨#[105, 110, 118, 101, 114, 116]⟩ : ByteArray), 38⟩ : S37) )) (Reps.c2 (show Kd.M k37 _ _ _ (⟨(⟨#[108, 115, 104, 105, 102, 116]⟩ : ByteArray), 39⟩ : S37) [.string (⟨#[108, 115, 104, 105, 102, 116]⟩ : ByteArray), .int .i64 39] from (k37_mkM _ _ _ (⟨(⟨#[108, 115, 104, 105, 102, 116]⟩ : ByteArray), 39⟩ : S37) )) (Reps.c2 (show Kd.M k37 _ _ _ (⟨(⟨#[114, 115, 104, 105, 102, 116]⟩ : ByteArray), 40⟩ : S37) [.string (⟨#[114, 115, 104, 105, 102, 116]⟩ : ByteArray), .int .i64 40] from (k37_mkM _ _ _ (⟨(⟨#[114, 115, 104, 105, 102, 116]⟩ : ByteArray), 40⟩ : S37) )) (Reps.c2 (show Kd.M k37 _ _ _ (⟨(⟨#[62, 62, 97]⟩ : ByteArray), 41⟩ : S37) [.string (⟨#[62, 62, 97]⟩ : ByteArray), .int .i64 41] from (k37_mkM _ _ _ (⟨(⟨#[62, 62, 97]⟩ : ByteArray), 41⟩ : S37) )) (Reps.c2 (show Kd.M k37 _ _ _ (⟨(⟨#[47, 109, 111, 100]⟩ : ByteArray), 42⟩ : S37) [.string (⟨#[47, 109, 111, 100]⟩ : ByteArray), .int .i64 42] from (k37_mkM _ _ _ (⟨(⟨#[47, 109, 111, 100]⟩ : ByteArray), 42⟩ : S37) )) (Reps.c2 (show Kd.M k37 _ _ _ (⟨(⟨#[117, 47, 109, 111, 100]⟩ : ByteArray), 43⟩ : S37) [.string (⟨#[117, 47, 109, 111, 100]⟩ : ByteArray), .int .i64 43] from (k37_mkM _ _ _ (⟨(⟨#[117, 47, 109, 111, 100]⟩ : ByteArray), 43⟩ : S37) )) (Reps.c2 (show Kd.M k37 _ _ _ (⟨(⟨#[110, 101, 103, 97, 116, 101]⟩ : ByteArray), 44⟩ : S37) [.string (⟨#[110, 101, 103, 97, 116, 101]⟩ : ByteArray), .int .i64 44] from (k37_mkM _ _ _ (⟨(⟨#[110, 101, 103, 97, 116, 101]⟩ : ByteArray), 44⟩ : S37) )) (Reps.c2 (show Kd.M k37 _ _ _ (⟨(⟨#[97, 98, 115]⟩ : ByteArray), 45⟩ : S37) [.string (⟨#[97, 98, 115]⟩ : ByteArray), .int .i64 45] from (k37_mkM _ _ _ (⟨(⟨#[97, 98, 115]⟩ : ByteArray), 45⟩ : S37) )) (Reps.c2 (show Kd.M k37 _ _ _ (⟨(⟨#[109, 105, 110]⟩ : ByteArray), 46⟩ : S37) [.string (⟨#[109, 105, 110]⟩ : ByteArray), .int .i64 46] from (k37_mkM _ _ _ (⟨(⟨#[109, 105, 110]⟩ : ByteArray), 46⟩ : S37) )) (Reps.c2 (show Kd.M k37 _ _ _ (⟨(⟨#[109, 97, 120]⟩ : ByteArray), 47⟩ : S37) [.string (⟨#[109, 97, 120]⟩ : ByteArray), .int .i64 47] from (k37_mkM _ _ _ (⟨(⟨#[109, 97, 120]⟩ : ByteArray), 47⟩ : S37) )) (Reps.c2 (show Kd.M k37 _ _ _ (⟨(⟨#[62, 114]⟩ : ByteArray), 48⟩ : S37) [.string (⟨#[62, 114]⟩ : ByteArray), .int .i64 48] from (k37_mkM _ _ _ (⟨(⟨#[62, 114]⟩ : ByteArray), 48⟩ : S37) )) (Reps.c2 (show Kd.M k37 _ _ _ (⟨(⟨#[114, 62]⟩ : ByteArray), 49⟩ : S37) [.string (⟨#[114, 62]⟩ : ByteArray), .int .i64 49] from (k37_mkM _ _ _ (⟨(⟨#[114, 62]⟩ : ByteArray), 49⟩ : S37) )) (Reps.c2 (show Kd.M k37 _ _ _ (⟨(⟨#[114, 64]⟩ : ByteArray), 50⟩ : S37) [.string (⟨#[114, 64]⟩ : ByteArray), .int .i64 50] from (k37_mkM _ _ _ (⟨(⟨#[114, 64]⟩ : ByteArray), 50⟩ : S37) )) (Reps.c2 (show Kd.M k37 _ _ _ (⟨(⟨#[48, 61]⟩ : ByteArray), 52⟩ : S37) [.string (⟨#[48, 61]⟩ : ByteArray), .int .i64 52] from (k37_mkM _ _ _ (⟨(⟨#[48, 61]⟩ : ByteArray), 52⟩ : S37) )) (Reps.c2 (show Kd.M k37 _ _ _ (⟨(⟨#[48, 60, 62]⟩ : ByteArray), 53⟩ : S37) [.string (⟨#[48, 60, 62]⟩ : ByteArray), .int .i64 53] from (k37_mkM _ _ _ (⟨(⟨#[48, 60, 62]⟩ : ByteArray), 53⟩ : S37) )) (Reps.c2 (show Kd.M k37 _ _ _ (⟨(⟨#[48, 60]⟩ : ByteArray), 54⟩ : S37) [.string (⟨#[48, 60]⟩ : ByteArray), .int .i64 54] from (k37_mkM _ _ _ (⟨(⟨#[48, 60]⟩ : ByteArray), 54⟩ : S37) )) (Reps.c2 (show Kd.M k37 _ _ _ (⟨(⟨#[48, 60, 61]⟩ : ByteArray), 55⟩ : S37) [.string (⟨#[48, 60, 61]⟩ : ByteArray), .int .i64 55] from (k37_mkM _ _ _ (⟨(⟨#[48, 60, 61]⟩ : ByteArray), 55⟩ : S37) )) (Reps.c2 (show Kd.M k37 _ _ _ (⟨(⟨#[48, 62]⟩ : ByteArray), 56⟩ : S37) [.string (⟨#[48, 62]⟩ : ByteArray), .int .i64 56] from (k37_mkM _ _ _ (⟨(⟨#[48, 62]⟩ : ByteArray), 56⟩ : S37) )) (Reps.c2 (show Kd.M k37 _ _ _ (⟨(⟨#[48, 62, 61]⟩ : ByteArray), 57⟩ : S37) [.string (⟨#[48, 62, 61]⟩ : ByteArray), .int .i64 57] from (k37_mkM _ _ _ (⟨(⟨#[48, 62, 61]⟩ : ByteArray), 57⟩ : S37) )) (Reps.c2 (show Kd.M k37 _ _ _ (⟨(⟨#[60]⟩ : ByteArray), 58⟩ : S37) [.string (⟨#[60]⟩ : ByteArray), .int .i64 58] from (k37_mkM _ _ _ (⟨(⟨#[60]⟩ : ByteArray), 58⟩ : S37) )) (Reps.c2 (show Kd.M k37 _ _ _ (⟨(⟨#[62]⟩ : ByteArray), 59⟩ : S37) [.string (⟨#[62]⟩ : ByteArray), .int .i64 59] from (k37_mkM _ _ _ (⟨(⟨#[62]⟩ : ByteArray), 59⟩ : S37) )) (Reps.c2 (show Kd.M k37 _ _ _ (⟨(⟨#[61]⟩ : ByteArray), 60⟩ : S37) [.string (⟨#[61]⟩ : ByteArray), .int .i64 60] from (k37_mkM _ _ _ (⟨(⟨#[61]⟩ : ByteArray), 60⟩ : S37) )) (Reps.c2 (show Kd.M k37 _ _ _ (⟨(⟨#[60, 62]⟩ : ByteArray), 61⟩ : S37) [.string (⟨#[60, 62]⟩ : ByteArray), .int .i64 61] from (k37_mkM _ _ _ (⟨(⟨#[60, 62]⟩ : ByteArray), 61⟩ : S37) )) (Reps.c2 (show Kd.M k37 _ _ _ (⟨(⟨#[117, 62]⟩ : ByteArray), 62⟩ : S37) [.string (⟨#[117, 62]⟩ : ByteArray), .int .i64 62] from (k37_mkM _ _ _ (⟨(⟨#[117, 62]⟩ : ByteArray), 62⟩ : S37) )) (Reps.c2 (show Kd.M k37 _ _ _ (⟨(⟨#[117, 60, 61]⟩ : ByteArray), 63⟩ : S37) [.string (⟨#[117, 60, 61]⟩ : ByteArray), .int .i64 63] from (k37_mkM _ _ _ (⟨(⟨#[117, 60, 61]⟩ : ByteArray), 63⟩ : S37) )) (Reps.c2 (show Kd.M k37 _ _ _ (⟨(⟨#[117, 60]⟩ : ByteArray), 64⟩ : S37) [.string (⟨#[117, 60]⟩ : ByteArray), .int .i64 64] from (k37_mkM _ _ _ (⟨(⟨#[117, 60]⟩ : ByteArray), 64⟩ : S37) )) (Reps.c2 (show Kd.M k37 _ _ _ (⟨(⟨#[117, 62, 61]⟩ : ByteArray), 65⟩ : S37) [.string (⟨#[117, 62, 61]⟩ : ByteArray), .int .i64 65] from (k37_mkM _ _ _ (⟨(⟨#[117, 62, 61]⟩ : ByteArray), 65⟩ : S37) )) (Reps.c2 (show Kd.M k37 _ _ _ (⟨(⟨#[62, 61]⟩ : ByteArray), 66⟩ : S37) [.string (⟨#[62, 61]⟩ : ByteArray), .int .i64 66] from (k37_mkM _ _ _ (⟨(⟨#[62, 61]⟩ : ByteArray), 66⟩ : S37) )) (Reps.c2 (show Kd.M k37 _ _ _ (⟨(⟨#[60, 61]⟩ : ByteArray), 67⟩ : S37) [.string (⟨#[60, 61]⟩ : ByteArray), .int .i64 67] from (k37_mkM _ _ _ (⟨(⟨#[60, 61]⟩ : ByteArray), 67⟩ : S37) )) (Reps.c2 (show Kd.M k37 _ _ _ (⟨(⟨#[100, 114, 111, 112]⟩ : ByteArray), 70⟩ : S37) [.string (⟨#[100, 114, 111, 112]⟩ : ByteArray), .int .i64 70] from (k37_mkM _ _ _ (⟨(⟨#[100, 114, 111, 112]⟩ : ByteArray), 70⟩ : S37) )) (Reps.c2 (show Kd.M k37 _ _ _ (⟨(⟨#[100, 117, 112]⟩ : ByteArray), 71⟩ : S37) [.string (⟨#[100, 117, 112]⟩ : ByteArray), .int .i64 71] from (k37_mkM _ _ _ (⟨(⟨#[100, 117, 112]⟩ : ByteArray), 71⟩ : S37) )) (Reps.c2 (show Kd.M k37 _ _ _ (⟨(⟨#[111, 118, 101, 114]⟩ : ByteArray), 72⟩ : S37) [.string (⟨#[111, 118, 101, 114]⟩ : ByteArray), .int .i64 72] from (k37_mkM _ _ _ (⟨(⟨#[111, 118, 101, 114]⟩ : ByteArray), 72⟩ : S37) )) (Reps.c2 (show Kd.M k37 _ _ _ (⟨(⟨#[115, 119, 97, 112]⟩ : ByteArray), 73⟩ : S37) [.string (⟨#[115, 119, 97, 112]⟩ : ByteArray), .int .i64 73] from (k37_mkM _ _ _ (⟨(⟨#[115, 119, 97, 112]⟩ : ByteArray), 73⟩ : S37) )) (Reps.c2 (show Kd.M k37 _ _ _ (⟨(⟨#[114, 111, 116]⟩ : ByteArray), 74⟩ : S37) [.string (⟨#[114, 111, 116]⟩ : ByteArray), .int .i64 74] from (k37_mkM _ _ _ (⟨(⟨#[114, 111, 116]⟩ : ByteArray), 74⟩ : S37) )) (Reps.c2 (show Kd.M k37 _ _ _ (⟨(⟨#[45, 114, 111, 116]⟩ : ByteArray), 75⟩ : S37) [.string (⟨#[45, 114, 111, 116]⟩ : ByteArray), .int .i64 75] from (k37_mkM _ _ _ (⟨(⟨#[45, 114, 111, 116]⟩ : ByteArray), 75⟩ : S37) )) (Reps.c2 (show Kd.M k37 _ _ _ (⟨(⟨#[116, 117, 99, 107]⟩ : ByteArray), 76⟩ : S37) [.string (⟨#[116, 117, 99, 107]⟩ : ByteArray), .int .i64 76] from (k37_mkM _ _ _ (⟨(⟨#[116, 117, 99, 107]⟩ : ByteArray), 76⟩ : S37) )) (Reps.c2 (show Kd.M k37 _ _ _ (⟨(⟨#[110, 105, 112]⟩ : ByteArray), 77⟩ : S37) [.string (⟨#[110, 105, 112]⟩ : ByteArray), .int .i64 77] from (k37_mkM _ _ _ (⟨(⟨#[110, 105, 112]⟩ : ByteArray), 77⟩ : S37) )) (Reps.c2 (show Kd.M k37 _ _ _ (⟨(⟨#[112, 105, 99, 107]⟩ : ByteArray), 78⟩ : S37) [.string (⟨#[112, 105, 99, 107]⟩ : ByteArray), .int .i64 78] from (k37_mkM _ _ _ (⟨(⟨#[112, 105, 99, 107]⟩ : ByteArray), 78⟩ : S37) )) (Reps.c2 (show Kd.M k37 _ _ _ (⟨(⟨#[114, 111, 108, 108]⟩ : ByteArray), 79⟩ : S37) [.string (⟨#[114, 111, 108, 108]⟩ : ByteArray), .int .i64 79] from (k37_mkM _ _ _ (⟨(⟨#[114, 111, 108, 108]⟩ : ByteArray), 79⟩ : S37) )) (Reps.c2 (show Kd.M k37 _ _ _ (⟨(⟨#[63, 100, 117, 112]⟩ : ByteArray), 80⟩ : S37) [.string (⟨#[63, 100, 117, 112]⟩ : ByteArray), .int .i64 80] from (k37_mkM _ _ _ (⟨(⟨#[63, 100, 117, 112]⟩ : ByteArray), 80⟩ : S37) )) (Reps.c2 (show Kd.M k37 _ _ _ (⟨(⟨#[100, 101, 112, 116, 104]⟩ : ByteArray), 81⟩ : S37) [.string (⟨#[100, 101, 112, 116, 104]⟩ : ByteArray), .int .i64 81] from (k37_mkM _ _ _ (⟨(⟨#[100, 101, 112, 116, 104]⟩ : ByteArray), 81⟩ : S37) )) (Reps.c2 (show Kd.M k37 _ _ _ (⟨(⟨#[50, 100, 114, 111, 112]⟩ : ByteArray), 82⟩ : S37) [.string (⟨#[50, 100, 114, 111, 112]⟩ : ByteArray), .int .i64 82] from (k37_mkM _ _ _ (⟨(⟨#[50, 100, 114, 111, 112]⟩ : ByteArray), 82⟩ : S37) )) (Reps.c2 (show Kd.M k37 _ _ _ (⟨(⟨#[50, 100, 117, 112]⟩ : ByteArray), 83⟩ : S37) [.string (⟨#[50, 100, 117, 112]⟩ : ByteArray), .int .i64 83] from (k37_mkM _ _ _ (⟨(⟨#[50, 100, 117, 112]⟩ : ByteArray), 83⟩ : S37) )) (Reps.c2 (show Kd.M k37 _ _ _ (⟨(⟨#[50, 111, 118, 101, 114]⟩ : ByteArray), 84⟩ : S37) [.string (⟨#[50, 111, 118, 101, 114]⟩ : ByteArray), .int .i64 84] from (k37_mkM _ _ _ (⟨(⟨#[50, 111, 118, 101, 114]⟩ : ByteArray), 84⟩ : S37) )) (Reps.c2 (show Kd.M k37 _ _ _ (⟨(⟨#[50, 115, 119, 97, 112]⟩ : ByteArray), 85⟩ : S37) [.string (⟨#[50, 115, 119, 97, 112]⟩ : ByteArray), .int .i64 85] from (k37_mkM _ _ _ (⟨(⟨#[50, 115, 119, 97, 112]⟩ : ByteArray), 85⟩ : S37) )) (Reps.c2 (show Kd.M k37 _ _ _ (⟨(⟨#[50, 114, 111, 116]⟩ : ByteArray), 86⟩ : S37) [.string (⟨#[50, 114, 111, 116]⟩ : ByteArray), .int .i64 86] from (k37_mkM _ _ _ (⟨(⟨#[50, 114, 111, 116]⟩ : ByteArray), 86⟩ : S37) )) (Reps.c2 (show Kd.M k37 _ _ _ (⟨(⟨#[50, 47]⟩ : ByteArray), 87⟩ : S37) [.string (⟨#[50, 47]⟩ : ByteArray), .int .i64 87] from (k37_mkM _ _ _ (⟨(⟨#[50, 47]⟩ : ByteArray), 87⟩ : S37) )) (Reps.c2 (show Kd.M k37 _ _ _ (⟨(⟨#[117, 50, 47]⟩ : ByteArray), 88⟩ : S37) [.string (⟨#[117, 50, 47]⟩ : ByteArray), .int .i64 88] from (k37_mkM _ _ _ (⟨(⟨#[117, 50, 47]⟩ : ByteArray), 88⟩ : S37) )) (Reps.c2 (show Kd.M k37 _ _ _ (⟨(⟨#[50, 42]⟩ : ByteArray), 89⟩ : S37) [.string (⟨#[50, 42]⟩ : ByteArray), .int .i64 89] from (k37_mkM _ _ _ (⟨(⟨#[50, 42]⟩ : ByteArray), 89⟩ : S37) )) (Reps.c2 (show Kd.M k37 _ _ _ (⟨(⟨#[43, 33]⟩ : ByteArray), 108⟩ : S37) [.string (⟨#[43, 33]⟩ : ByteArray), .int .i64 108] from (k37_mkM _ _ _ (⟨(⟨#[43, 33]⟩ : ByteArray), 108⟩ : S37) )) (Reps.c2 (show Kd.M k37 _ _ _ (⟨(⟨#[64]⟩ : ByteArray), 109⟩ : S37) [.string (⟨#[64]⟩ : ByteArray), .int .i64 109] from (k37_mkM _ _ _ (⟨(⟨#[64]⟩ : ByteArray), 109⟩ : S37) )) (Reps.c2 (show Kd.M k37 _ _ _ (⟨(⟨#[119, 64]⟩ : ByteArray), 111⟩ : S37) [.string (⟨#[119, 64]⟩ : ByteArray), .int .i64 111] from (k37_mkM _ _ _ (⟨(⟨#[119, 64]⟩ : ByteArray), 111⟩ : S37) )) (Reps.c2 (show Kd.M k37 _ _ _ (⟨(⟨#[99, 64]⟩ : ByteArray), 113⟩ : S37) [.string (⟨#[99, 64]⟩ : ByteArray), .int .i64 113] from (k37_mkM _ _ _ (⟨(⟨#[99, 64]⟩ : ByteArray), 113⟩ : S37) )) (Reps.c2 (show Kd.M k37 _ _ _ (⟨(⟨#[33]⟩ : ByteArray), 114⟩ : S37) [.string (⟨#[33]⟩ : ByteArray), .int .i64 114] from (k37_mkM _ _ _ (⟨(⟨#[33]⟩ : ByteArray), 114⟩ : S37) )) (Reps.c2 (show Kd.M k37 _ _ _ (⟨(⟨#[119, 33]⟩ : ByteArray), 116⟩ : S37) [.string (⟨#[119, 33]⟩ : ByteArray), .int .i64 116] from (k37_mkM _ _ _ (⟨(⟨#[119, 33]⟩ : ByteArray), 116⟩ : S37) )) (Reps.c2 (show Kd.M k37 _ _ _ (⟨(⟨#[99, 33]⟩ : ByteArray), 117⟩ : S37) [.string (⟨#[99, 33]⟩ : ByteArray), .int .i64 117] from (k37_mkM _ _ _ (⟨(⟨#[99, 33]⟩ : ByteArray), 117⟩ : S37) )) (Reps.c2 (show Kd.M k37 _ _ _ (⟨(⟨#[109, 111, 118, 101]⟩ : ByteArray), 120⟩ : S37) [.string (⟨#[109, 111, 118, 101]⟩ : ByteArray), .int .i64 120] from (k37_mkM _ _ _ (⟨(⟨#[109, 111, 118, 101]⟩ : ByteArray), 120⟩ : S37) )) (Reps.c2 (show Kd.M k37 _ _ _ (⟨(⟨#[102, 105, 108, 108]⟩ : ByteArray), 121⟩ : S37) [.string (⟨#[102, 105, 108, 108]⟩ : ByteArray), .int .i64 121] from (k37_mkM _ _ _ (⟨(⟨#[102, 105, 108, 108]⟩ : ByteArray), 121⟩ : S37) )) (Reps.c2 (show Kd.M k37 _ _ _ (⟨(⟨#[99, 111, 109, 112]⟩ : ByteArray), 122⟩ : S37) [.string (⟨#[99, 111, 109, 112]⟩ : ByteArray), .int .i64 122] from (k37_mkM _ _ _ (⟨(⟨#[99, 111, 109, 112]⟩ : ByteArray), 122⟩ : S37) )) (Reps.c2 (show Kd.M k37 _ _ _ (⟨(⟨#[108, 98, 115, 112, 108, 105, 116]⟩ : ByteArray), 126⟩ : S37) [.string (⟨#[108, 98, 115, 112, 108, 105, 116]⟩ : ByteArray), .int .i64 126] from (k37_mkM _ _ _ (⟨(⟨#[108, 98, 115, 112, 108, 105, 116]⟩ : ByteArray), 126⟩ : S37) )) (Reps.c2 (show Kd.M k37 _ _ _ (⟨(⟨#[98, 108, 106, 111, 105, 110]⟩ : ByteArray), 127⟩ : S37) [.string (⟨#[98, 108, 106, 111, 105, 110]⟩ : ByteArray), .int .i64 127] from (k37_mkM _ _ _ (⟨(⟨#[98, 108, 106, 111, 105, 110]⟩ : ByteArray), 127⟩ : S37) )) (Reps.c2 (show Kd.M k37 _ _ _ (⟨(⟨#[119, 98, 102, 108, 105, 112]⟩ : ByteArray), 128⟩ : S37) [.string (⟨#[119, 98, 102, 108, 105, 112]⟩ : ByteArray), .int .i64 128] from (k37_mkM _ _ _ (⟨(⟨#[119, 98, 102, 108, 105, 112]⟩ : ByteArray), 128⟩ : S37) )) (Reps.c2 (show Kd.M k37 _ _ _ (⟨(⟨#[117, 112, 99]⟩ : ByteArray), 129⟩ : S37) [.string (⟨#[117, 112, 99]⟩ : ByteArray), .int .i64 129] from (k37_mkM _ _ _ (⟨(⟨#[117, 112, 99]⟩ : ByteArray), 129⟩ : S37) )) (Reps.c2 (show Kd.M k37 _ _ _ (⟨(⟨#[108, 99, 99]⟩ : ByteArray), 130⟩ : S37) [.string (⟨#[108, 99, 99]⟩ : ByteArray), .int .i64 130] from (k37_mkM _ _ _ (⟨(⟨#[108, 99, 99]⟩ : ByteArray), 130⟩ : S37) )) (Reps.c2 (show Kd.M k37 _ _ _ (⟨(⟨#[117, 110, 108, 111, 111, 112]⟩ : ByteArray), 137⟩ : S37) [.string (⟨#[117, 110, 108, 111, 111, 112]⟩ : ByteArray), .int .i64 137] from (k37_mkM _ _ _ (⟨(⟨#[117, 110, 108, 111, 111, 112]⟩ : ByteArray), 137⟩ : S37) )) (Reps.c2 (show Kd.M k37 _ _ _ (⟨(⟨#[97, 108, 108, 111, 99, 45, 109, 101, 109]⟩ : ByteArray), 139⟩ : S37) [.string (⟨#[97, 108, 108, 111, 99, 45, 109, 101, 109]⟩ : ByteArray), .int .i64 139] from (k37_mkM _ _ _ (⟨(⟨#[97, 108, 108, 111, 99, 45, 109, 101, 109]⟩ : ByteArray), 139⟩ : S37) )) (Reps.c2 (show Kd.M k37 _ _ _ (⟨(⟨#[101, 109, 105, 116]⟩ : ByteArray), 143⟩ : S37) [.string (⟨#[101, 109, 105, 116]⟩ : ByteArray), .int .i64 143] from (k37_mkM _ _ _ (⟨(⟨#[101, 109, 105, 116]⟩ : ByteArray), 143⟩ : S37) )) (Reps.c2 (show Kd.M k37 _ _ _ (⟨(⟨#[116, 121, 112, 101]⟩ : ByteArray), 144⟩ : S37) [.string (⟨#[116, 121, 112, 101]⟩ : ByteArray), .int .i64 144] from (k37_mkM _ _ _ (⟨(⟨#[116, 121, 112, 101]⟩ : ByteArray), 144⟩ : S37) )) (Reps.c2 (show Kd.M k37 _ _ _ (⟨(⟨#[99, 114]⟩ : ByteArray), 146⟩ : S37) [.string (⟨#[99, 114]⟩ : ByteArray), .int .i64 146] from (k37_mkM _ _ _ (⟨(⟨#[99, 114]⟩ : ByteArray), 146⟩ : S37) )) (Reps.c2 (show Kd.M k37 _ _ _ (⟨(⟨#[117, 46]⟩ : ByteArray), 155⟩ : S37) [.string (⟨#[117, 46]⟩ : ByteArray), .int .i64 155] from (k37_mkM _ _ _ (⟨(⟨#[117, 46]⟩ : ByteArray), 155⟩ : S37) )) (Reps.c2 (show Kd.M k37 _ _ _ (⟨(⟨#[46]⟩ : ByteArray), 157⟩ : S37) [.string (⟨#[46]⟩ : ByteArray), .int .i64 157] from (k37_mkM _ _ _ (⟨(⟨#[46]⟩ : ByteArray), 157⟩ : S37) )) (Reps.c2 (show Kd.M k37 _ _ _ (⟨(⟨#[98, 97, 115, 101, 33]⟩ : ByteArray), 160⟩ : S37) [.string (⟨#[98, 97, 115, 101, 33]⟩ : ByteArray), .int .i64 160] from (k37_mkM _ _ _ (⟨(⟨#[98, 97, 115, 101, 33]⟩ : ByteArray), 160⟩ : S37) )) (Reps.c2 (show Kd.M k37 _ _ _ (⟨(⟨#[45, 49]⟩ : ByteArray), 164⟩ : S37) [.string (⟨#[45, 49]⟩ : ByteArray), .int .i64 164] from (k37_mkM _ _ _ (⟨(⟨#[45, 49]⟩ : ByteArray), 164⟩ : S37) )) (Reps.c2 (show Kd.M k37 _ _ _ (⟨(⟨#[48]⟩ : ByteArray), 165⟩ : S37) [.string (⟨#[48]⟩ : ByteArray), .int .i64 165] from (k37_mkM _ _ _ (⟨(⟨#[48]⟩ : ByteArray), 165⟩ : S37) )) (Reps.c2 (show Kd.M k37 _ _ _ (⟨(⟨#[49]⟩ : ByteArray), 166⟩ : S37) [.string (⟨#[49]⟩ : ByteArray), .int .i64 166] from (k37_mkM _ _ _ (⟨(⟨#[49]⟩ : ByteArray), 166⟩ : S37) )) (Reps.c2 (show Kd.M k37 _ _ _ (⟨(⟨#[50]⟩ : ByteArray), 167⟩ : S37) [.string (⟨#[50]⟩ : ByteArray), .int .i64 167] from (k37_mkM _ _ _ (⟨(⟨#[50]⟩ : ByteArray), 167⟩ : S37) )) (Reps.c2 (show Kd.M k37 _ _ _ (⟨(⟨#[51]⟩ : ByteArray), 168⟩ : S37) [.string (⟨#[51]⟩ : ByteArray), .int .i64 168] from (k37_mkM _ _ _ (⟨(⟨#[51]⟩ : ByteArray), 168⟩ : S37) )) (Reps.c2 (show Kd.M k37 _ _ _ (⟨(⟨#[98, 108]⟩ : ByteArray), 169⟩ : S37) [.string (⟨#[98, 108]⟩ : ByteArray), .int .i64 169] from (k37_mkM _ _ _ (⟨(⟨#[98, 108]⟩ : ByteArray), 169⟩ : S37) )) (Reps.c2 (show Kd.M k37 _ _ _ (⟨(⟨#[104, 101, 114, 101]⟩ : ByteArray), 173⟩ : S37) [.string (⟨#[104, 101, 114, 101]⟩ : ByteArray), .int .i64 173] from (k37_mkM _ _ _ (⟨(⟨#[104, 101, 114, 101]⟩ : ByteArray), 173⟩ : S37) )) (Reps.c2 (show Kd.M k37 _ _ _ (⟨(⟨#[117, 109, 42]⟩ : ByteArray), 212⟩ : S37) [.string (⟨#[117, 109, 42]⟩ : ByteArray), .int .i64 212] from (k37_mkM _ _ _ (⟨(⟨#[117, 109, 42]⟩ : ByteArray), 212⟩ : S37) )) (Reps.c2 (show Kd.M k37 _ _ _ (⟨(⟨#[117, 109, 47, 109, 111, 100]⟩ : ByteArray), 213⟩ : S37) [.string (⟨#[117, 109, 47, 109, 111, 100]⟩ : ByteArray), .int .i64 213] from (k37_mkM _ _ _ (⟨(⟨#[117, 109, 47, 109, 111, 100]⟩ : ByteArray), 213⟩ : S37) )) (Reps.c2 (show Kd.M k37 _ _ _ (⟨(⟨#[100, 43]⟩ : ByteArray), 216⟩ : S37) [.string (⟨#[100, 43]⟩ : ByteArray), .int .i64 216] from (k37_mkM _ _ _ (⟨(⟨#[100, 43]⟩ : ByteArray), 216⟩ : S37) )) (Reps.c2 (show Kd.M k37 _ _ _ (⟨(⟨#[100, 45]⟩ : ByteArray), 217⟩ : S37) [.string (⟨#[100, 45]⟩ : ByteArray), .int .i64 217] from (k37_mkM _ _ _ (⟨(⟨#[100, 45]⟩ : ByteArray), 217⟩ : S37) )) (Reps.c2 (show Kd.M k37 _ _ _ (⟨(⟨#[112, 114, 111, 112, 101, 114, 116, 121]⟩ : ByteArray), 272⟩ : S37) [.string (⟨#[112, 114, 111, 112, 101, 114, 116, 121]⟩ : ByteArray), .int .i64 272] from (k37_mkM _ _ _ (⟨(⟨#[112, 114, 111, 112, 101, 114, 116, 121]⟩ : ByteArray), 272⟩ : S37) )) (Reps.c2 (show Kd.M k37 _ _ _ (⟨(⟨#[101, 110, 99, 111, 100, 101, 45, 105, 110, 116]⟩ : ByteArray), 273⟩ : S37) [.string (⟨#[101, 110, 99, 111, 100, 101, 45, 105, 110, 116]⟩ : ByteArray), .int .i64 273] from (k37_mkM _ _ _ (⟨(⟨#[101, 110, 99, 111, 100, 101, 45, 105, 110, 116]⟩ : ByteArray), 273⟩ : S37) )) (Reps.c2 (show Kd.M k37 _ _ _ (⟨(⟨#[101, 110, 99, 111, 100, 101, 43]⟩ : ByteArray), 274⟩ : S37) [.string (⟨#[101, 110, 99, 111, 100, 101, 43]⟩ : ByteArray), .int .i64 274] from (k37_mkM _ _ _ (⟨(⟨#[101, 110, 99, 111, 100, 101, 43]⟩ : ByteArray), 274⟩ : S37) )) (Reps.c2 (show Kd.M k37 _ _ _ (⟨(⟨#[101, 110, 99, 111, 100, 101, 45, 115, 116, 114, 105, 110, 103]⟩ : ByteArray), 276⟩ : S37) [.string (⟨#[101, 110, 99, 111, 100, 101, 45, 115, 116, 114, 105, 110, 103]⟩ : ByteArray), .int .i64 276] from (k37_mkM _ _ _ (⟨(⟨#[101, 110, 99, 111, 100, 101, 45, 115, 116, 114, 105, 110, 103]⟩ : ByteArray), 276⟩ : S37) )) (Reps.c2 (show Kd.M k37 _ _ _ (⟨(⟨#[110, 101, 119, 45, 100, 101, 118, 105, 99, 101]⟩ : ByteArray), 287⟩ : S37) [.string (⟨#[110, 101, 119, 45, 100, 101, 118, 105, 99, 101]⟩ : ByteArray), .int .i64 287] from (k37_mkM _ _ _ (⟨(⟨#[110, 101, 119, 45, 100, 101, 118, 105, 99, 101]⟩ : ByteArray), 287⟩ : S37) )) (Reps.c2 (show Kd.M k37 _ _ _ (⟨(⟨#[102, 105, 110, 105, 115, 104, 45, 100, 101, 118, 105, 99, 101]⟩ : ByteArray), 295⟩ : S37) [.string (⟨#[102, 105, 110, 105, 115, 104, 45, 100, 101, 118, 105, 99, 101]⟩ : ByteArray), .int .i64 295] from (k37_mkM _ _ _ (⟨(⟨#[102, 105, 110, 105, 115, 104, 45, 100, 101, 118, 105, 99, 101]⟩ : ByteArray), 295⟩ : S37) )) (Reps.c2 (show Kd.M k37 _ _ _ (⟨(⟨#[115, 109, 47, 114, 101, 109]⟩ : ByteArray), 469⟩ : S37) [.string (⟨#[115, 109, 47, 114, 101, 109]⟩ : ByteArray), .int .i64 469] from (k37_mkM _ _ _ (⟨(⟨#[115, 109, 47, 114, 101, 109]⟩ : ByteArray), 469⟩ : S37) )) (Reps.c2 (show Kd.M k37 _ _ _ (⟨(⟨#[109, 121, 45, 115, 101, 108, 102]⟩ : ByteArray), 515⟩ : S37) [.string (⟨#[109, 121, 45, 115, 101, 108, 102]⟩ : ByteArray), .int .i64 515] from (k37_mkM _ _ _ (⟨(⟨#[109, 121, 45, 115, 101, 108, 102]⟩ : ByteArray), 515⟩ : S37) )) (Reps.c2 (show Kd.M k37 _ _ _ (⟨(⟨#[109, 121, 45, 112, 97, 114, 101, 110, 116]⟩ : ByteArray), 522⟩ : S37) [.string (⟨#[109, 121, 45, 112, 97, 114, 101, 110, 116]⟩ : ByteArray), .int .i64 522] from (k37_mkM _ _ _ (⟨(⟨#[109, 121, 45, 112, 97, 114, 101, 110, 116]⟩ : ByteArray), 522⟩ : S37) )) (Reps.c2 (show Kd.M k37 _ _ _ (⟨(⟨#[36, 99, 97, 108, 108, 45, 109, 101, 116, 104, 111, 100]⟩ : ByteArray), 526⟩ : S37) [.string (⟨#[36, 99, 97, 108, 108, 45, 109, 101, 116, 104, 111, 100]⟩ : ByteArray), .int .i64 526] from (k37_mkM _ _ _ (⟨(⟨#[36, 99, 97, 108, 108, 45, 109, 101, 116, 104, 111, 100]⟩ : ByteArray), 526⟩ : S37) )) (Reps.c2 (show Kd.M k37 _ _ _ (⟨(⟨#[99, 97, 116, 99, 104]⟩ : ByteArray), 535⟩ : S37) [.string (⟨#[99, 97, 116, 99, 104]⟩ : ByteArray), .int .i64 535] from (k37_mkM _ _ _ (⟨(⟨#[99, 97, 116, 99, 104]⟩ : ByteArray), 535⟩ : S37) )) (Reps.c2 (show Kd.M k37 _ _ _ (⟨(⟨#[116, 104, 114, 111, 119]⟩ : ByteArray), 536⟩ : S37) [.string (⟨#[116, 104, 114, 111, 119]⟩ : ByteArray), .int .i64 536] from (k37_mkM _ _ _ (⟨(⟨#[116, 104, 114, 111, 119]⟩ : ByteArray), 536⟩ : S37) )) (Reps.c2 (show Kd.M k37 _ _ _ (⟨(⟨#[103, 101, 116, 45, 109, 121, 45, 112, 114, 111, 112, 101, 114, 116, 121]⟩ : ByteArray), 538⟩ : S37) [.string (⟨#[103, 101, 116, 45, 109, 121, 45, 112, 114, 111, 112, 101, 114, 116, 121]⟩ : ByteArray), .int .i64 538] from (k37_mkM _ _ _ (⟨(⟨#[103, 101, 116, 45, 109, 121, 45, 112, 114, 111, 112, 101, 114, 116, 121]⟩ : ByteArray), 538⟩ : S37) )) (Reps.c2 (show Kd.M k37 _ _ _ (⟨(⟨#[100, 101, 99, 111, 100, 101, 45, 105, 110, 116]⟩ : ByteArray), 539⟩ : S37) [.string (⟨#[100, 101, 99, 111, 100, 101, 45, 105, 110, 116]⟩ : ByteArray), .int .i64 539] from (k37_mkM _ _ _ (⟨(⟨#[100, 101, 99, 111, 100, 101, 45, 105, 110, 116]⟩ : ByteArray), 539⟩ : S37) )) (Reps.c2 (show Kd.M k37 _ _ _ (⟨(⟨#[100, 101, 99, 111, 100, 101, 45, 115, 116, 114, 105, 110, 103]⟩ : ByteArray), 540⟩ : S37) [.string (⟨#[100, 101, 99, 111, 100, 101, 45, 115, 116, 114, 105, 110, 103]⟩ : ByteArray), .int .i64 540] from (k37_mkM _ _ _ (⟨(⟨#[100, 101, 99, 111, 100, 101, 45, 115, 116, 114, 105, 110, 103]⟩ : ByteArray), 540⟩ : S37) )) (Reps.c2 (show Kd.M k37 _ _ _ (⟨(⟨#[100, 101, 108, 101, 116, 101, 45, 112, 114, 111, 112, 101, 114, 116, 121]⟩ : ByteArray), 542⟩ : S37) [.string (⟨#[100, 101, 108, 101, 116, 101, 45, 112, 114, 111, 112, 101, 114, 116, 121]⟩ : ByteArray), .int .i64 542] from (k37_mkM _ _ _ (⟨(⟨#[100, 101, 108, 101, 116, 101, 45, 112, 114, 111, 112, 101, 114, 116, 121]⟩ : ByteArray), 542⟩ : S37) )) (Reps.c2 (show Kd.M k37 _ _ _ (⟨(⟨#[102, 109, 47, 109, 111, 100]⟩ : ByteArray), 725⟩ : S37) [.string (⟨#[102, 109, 47, 109, 111, 100]⟩ : ByteArray), .int .i64 725] from (k37_mkM _ _ _ (⟨(⟨#[102, 109, 47, 109, 111, 100]⟩ : ByteArray), 725⟩ : S37) )) (Reps.none _ _))))))))))))))))))))))))))))))))))))))))))))))))))))))))))))))))))))))))))))))))))))))))))))))))))))))))))))))))); intro v16002 w1 ho2 hb hg_ hnew_; clear hg_ hnew_; (first | rw [← Ny16001.out] at ho2 | (simp only [Int.reduceToNat] at ho2; rw [← Ny16001.out] at ho2)); have n0_ := Aside0.mk (Kd.R_lower ho2 (below_size (by repeat (first | (with_reducible first | exact HB.out | apply below_alloc | apply pw_below_drewN | apply below_drew1) | exact HB.out)))); have n1_ := Aside0.mk (below_step (by repeat (first | (with_reducible first | exact HB.out | apply below_alloc | apply pw_below_drewN | apply below_drew1) | exact HB.out)) hb); clear HB; have HO16003 := n0_; have HB := n1_; clear n0_ n1_; clear hb ho2))
 go_ret
 exact ⟨_, by first | rfl | (simp [errW_none, errW_some] <;> rfl) | (simp [*, errW_none, errW_some] <;> rfl), by (with_reducible repeat (first | apply Kd.R_alloc | apply Kd.R_drewN | apply Kd.R_drew)); exact HO16003.out, by repeat (first | (with_reducible first | exact HB.out | apply below_alloc | apply pw_below_drewN | apply below_drew1) | exact HB.out)⟩

end Go.Proofs.Ytfpkakedlapmkaa.Q
end
