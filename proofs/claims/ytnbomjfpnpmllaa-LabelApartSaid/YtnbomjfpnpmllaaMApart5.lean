/- Contracts of Go functions and plain facts, of several texts, one behind the other; no condition. -/
import Derived.Test.YtnbomjfpnpmllaaMApart1
import Derived.Test.YtnbomjfpnpmllaaMApart3
import Derived.Test.YtnbomjfpnpmllaaMApart4
import Derived.Test.YtnbomjfpnpmllaaMApart2
import Derived.ChangeArms
import Derived.OpenShut
import Derived.SizedLaws
section
namespace Go.Proofs.Ytnbomjfpnpmllaa.Q
open Go.RowKit Go.Proofs.YtnbomjfpnpmllaaW.PrintWords Go.Proofs.YtnbomjfpnpmllaaW.PrintLast Go.Proofs.YtnbomjfpnpmllaaW.PrintMore
set_option linter.unusedVariables false
set_option linter.unusedSimpArgs false

attribute [local go_sem] max2_int min2_int max_two min_two max_three min_three max_four min_four
/-! ### tinderlaw21_LabelApart: function 8 -/
mutual
def tinderlaw21_LabelApart.j0 : Nat → List Int → List Int → Int → Int → List Int → Int → Bool → ByteArray → Int → Int → ByteArray → Int → Int → Option (Bool)
  | 0, _, _, _, _, _, _, _, _, _, _, _, _, _ => none
  | k + 1, x0, x2, x7, x8, x10, x11, x49, x9002000, x9002001, x9002002, x9002003, x9002004, x9002005 => if x49 = true then (if (x10.length : Int) = 0 then (some (x11 != 0)) else (some false)) else (if (x10.length : Int) = (x0.length : Int) then (if x9002001 < 0 then (tinderlaw21_LabelApart.j1 k x0 x2 x7 x8 x10 true x9002000 x9002001 x9002002 x9002003 x9002004 x9002005) else (tinderlaw21_LabelApart.j1 k x0 x2 x7 x8 x10 (decide ((x2.length : Int) > (wrap64 (x8 - x9002001)))) x9002000 x9002001 x9002002 x9002003 x9002004 x9002005)) else (tinderlaw21_LabelApart.j1 k x0 x2 x7 x8 x10 true x9002000 x9002001 x9002002 x9002003 x9002004 x9002005))
def tinderlaw21_LabelApart.j1 : Nat → List Int → List Int → Int → Int → List Int → Bool → ByteArray → Int → Int → ByteArray → Int → Int → Option (Bool)
  | 0, _, _, _, _, _, _, _, _, _, _, _, _ => none
  | k + 1, x0, x2, x7, x8, x10, x77, x9002000, x9002001, x9002002, x9002003, x9002004, x9002005 => if x77 = true then (some false) else (tinderlaw21_LabelApart.l0 k x0 x2 x7 x8 x10 0 x9002000 x9002001 x9002002 x9002003 x9002004 x9002005)
def tinderlaw21_LabelApart.l0 : Nat → List Int → List Int → Int → Int → List Int → Int → ByteArray → Int → Int → ByteArray → Int → Int → Option (Bool)
  | 0, _, _, _, _, _, _, _, _, _, _, _, _ => none
  | k + 1, x0, x2, x7, x8, x10, x12, x9002000, x9002001, x9002002, x9002003, x9002004, x9002005 => if x12 < (x0.length : Int) then (if (wrap64 ((wrap64 (x12 - x7)) - x9002001)) ≥ 0 then (tinderlaw21_LabelApart.j3 k x0 x2 x7 x8 x10 x12 (wrap64 ((wrap64 (x12 - x7)) - x9002001)) (decide ((wrap64 ((wrap64 (x12 - x7)) - x9002001)) < (x2.length : Int))) x9002000 x9002001 x9002002 x9002003 x9002004 x9002005) else (tinderlaw21_LabelApart.j3 k x0 x2 x7 x8 x10 x12 (wrap64 ((wrap64 (x12 - x7)) - x9002001)) false x9002000 x9002001 x9002002 x9002003 x9002004 x9002005)) else ((label_Window.f x0 x9002003).bind fun bt9014 => (if bt9014.2.2 = 0 then (if x7 < 512 then (tinderlaw21_LabelApart.j4 k x0 x10 true x9002000 x9002001 x9002002 x9002003 x9002004 x9002005) else (if bt9014.1 < (wrap64 (x7 + x8)) then (tinderlaw21_LabelApart.j4 k x0 x10 (decide (x7 < (wrap64 (bt9014.1 + bt9014.2.1)))) x9002000 x9002001 x9002002 x9002003 x9002004 x9002005) else (tinderlaw21_LabelApart.j4 k x0 x10 false x9002000 x9002001 x9002002 x9002003 x9002004 x9002005))) else (tinderlaw21_LabelApart.j4 k x0 x10 true x9002000 x9002001 x9002002 x9002003 x9002004 x9002005)))
def tinderlaw21_LabelApart.j3 : Nat → List Int → List Int → Int → Int → List Int → Int → Int → Bool → ByteArray → Int → Int → ByteArray → Int → Int → Option (Bool)
  | 0, _, _, _, _, _, _, _, _, _, _, _, _, _, _ => none
  | k + 1, x0, x2, x7, x8, x10, x12, x13, x98, x9002000, x9002001, x9002002, x9002003, x9002004, x9002005 => if x98 = true then (if 0 ≤ x12 then (if x12 < (x10.length : Int) then (if 0 ≤ x13 then (if x13 < (x2.length : Int) then (if (rd x10 x12) = (rd x2 x13) then (tinderlaw21_LabelApart.l0 k x0 x2 x7 x8 x10 (wrap64 (x12 + 1)) x9002000 x9002001 x9002002 x9002003 x9002004 x9002005) else (some false)) else (none)) else (none)) else (none)) else (none)) else (if 0 ≤ x12 then (if x12 < (x10.length : Int) then (if x12 < (x0.length : Int) then (if (rd x10 x12) = (rd x0 x12) then (tinderlaw21_LabelApart.l0 k x0 x2 x7 x8 x10 (wrap64 (x12 + 1)) x9002000 x9002001 x9002002 x9002003 x9002004 x9002005) else (some false)) else (none)) else (none)) else (none))
def tinderlaw21_LabelApart.j4 : Nat → List Int → List Int → Bool → ByteArray → Int → Int → ByteArray → Int → Int → Option (Bool)
  | 0, _, _, _, _, _, _, _, _, _ => none
  | k + 1, x0, x10, x145, x9002000, x9002001, x9002002, x9002003, x9002004, x9002005 => if x145 = true then (some true) else ((label_Get.f k x0 x9002003 x9002004 x9002005).bind fun bt9017 => ((label_Get.f k x10 x9002003 x9002004 x9002005).bind fun bt9021 => (if bt9017.2 = bt9021.2 then ((tinderref04_Same.f bt9017.1 bt9021.1).bind fun t9025 => (some t9025)) else (some false))))
end
def tinderlaw21_LabelApart.f (k : Nat) (l0 : List Int) (a1_0 : ByteArray) (a1_1 : Int) (a1_2 : Int) (a1_3 : ByteArray) (a1_4 : Int) (a1_5 : Int) (l2 : List Int) : Option (Bool) := (tinderlaw21_alive.f).bind fun t9002 => (if t9002 = true then ((label_Window.f l0 a1_0).bind fun bt9003 => ((label_Put.f l0 a1_0 a1_1 l2).bind fun bt9006 => (if bt9003.2.2 = 0 then (tinderlaw21_LabelApart.j0 k l0 l2 bt9003.1 bt9003.2.1 bt9006.1 bt9006.2 (bt9006.2 != 0) a1_0 a1_1 a1_2 a1_3 a1_4 a1_5) else (tinderlaw21_LabelApart.j0 k l0 l2 bt9003.1 bt9003.2.1 bt9006.1 bt9006.2 true a1_0 a1_1 a1_2 a1_3 a1_4 a1_5)))) else (some false))
theorem tinderlaw21_LabelApart.mono_l : ∀ k, (∀ y0 y1 y2 y3 y4 y5 y6 y7 y8 y9 y10 y11 y12, LeO (tinderlaw21_LabelApart.j0 k y0 y1 y2 y3 y4 y5 y6 y7 y8 y9 y10 y11 y12) (tinderlaw21_LabelApart.j0 (k + 1) y0 y1 y2 y3 y4 y5 y6 y7 y8 y9 y10 y11 y12)) ∧ (∀ y0 y1 y2 y3 y4 y5 y6 y7 y8 y9 y10 y11, LeO (tinderlaw21_LabelApart.j1 k y0 y1 y2 y3 y4 y5 y6 y7 y8 y9 y10 y11) (tinderlaw21_LabelApart.j1 (k + 1) y0 y1 y2 y3 y4 y5 y6 y7 y8 y9 y10 y11)) ∧ (∀ y0 y1 y2 y3 y4 y5 y6 y7 y8 y9 y10 y11, LeO (tinderlaw21_LabelApart.l0 k y0 y1 y2 y3 y4 y5 y6 y7 y8 y9 y10 y11) (tinderlaw21_LabelApart.l0 (k + 1) y0 y1 y2 y3 y4 y5 y6 y7 y8 y9 y10 y11)) ∧ (∀ y0 y1 y2 y3 y4 y5 y6 y7 y8 y9 y10 y11 y12 y13, LeO (tinderlaw21_LabelApart.j3 k y0 y1 y2 y3 y4 y5 y6 y7 y8 y9 y10 y11 y12 y13) (tinderlaw21_LabelApart.j3 (k + 1) y0 y1 y2 y3 y4 y5 y6 y7 y8 y9 y10 y11 y12 y13)) ∧ (∀ y0 y1 y2 y3 y4 y5 y6 y7 y8, LeO (tinderlaw21_LabelApart.j4 k y0 y1 y2 y3 y4 y5 y6 y7 y8) (tinderlaw21_LabelApart.j4 (k + 1) y0 y1 y2 y3 y4 y5 y6 y7 y8))
  | 0 => ⟨fun _ _ _ _ _ _ _ _ _ _ _ _ _ r h => by simp [tinderlaw21_LabelApart.j0] at h, fun _ _ _ _ _ _ _ _ _ _ _ _ r h => by simp [tinderlaw21_LabelApart.j1] at h, fun _ _ _ _ _ _ _ _ _ _ _ _ r h => by simp [tinderlaw21_LabelApart.l0] at h, fun _ _ _ _ _ _ _ _ _ _ _ _ _ _ r h => by simp [tinderlaw21_LabelApart.j3] at h, fun _ _ _ _ _ _ _ _ _ r h => by simp [tinderlaw21_LabelApart.j4] at h⟩
  | k + 1 => by
    obtain ⟨ih0, ih1, ih2, ih3, ih4⟩ := tinderlaw21_LabelApart.mono_l k
    refine ⟨?_, ?_, ?_, ?_, ?_⟩
    · intro y0 y1 y2 y3 y4 y5 y6 y7 y8 y9 y10 y11 y12
      unfold tinderlaw21_LabelApart.j0
      repeat' first
      | (with_reducible exact ih0 _ _ _ _ _ _ _ _ _ _ _ _ _)
      | (with_reducible exact ih1 _ _ _ _ _ _ _ _ _ _ _ _)
      | (with_reducible exact ih2 _ _ _ _ _ _ _ _ _ _ _ _)
      | (with_reducible exact ih3 _ _ _ _ _ _ _ _ _ _ _ _ _ _)
      | (with_reducible exact ih4 _ _ _ _ _ _ _ _ _)
      | (with_reducible exact label_Get.mono _ _ _ _ _)
      | (with_reducible exact LeO.refl _)
      | (with_reducible exact LeO.none _)
      | (with_reducible refine LeO.ite ?_ ?_)
      | (with_reducible refine LeO.bind ?_ (fun _ => ?_))
      | exact ih0 _ _ _ _ _ _ _ _ _ _ _ _ _
      | exact ih1 _ _ _ _ _ _ _ _ _ _ _ _
      | exact ih2 _ _ _ _ _ _ _ _ _ _ _ _
      | exact ih3 _ _ _ _ _ _ _ _ _ _ _ _ _ _
      | exact ih4 _ _ _ _ _ _ _ _ _
      | exact label_Get.mono _ _ _ _ _
      | exact LeO.none _
      | refine LeO.ite ?_ ?_
      | refine LeO.bind ?_ (fun _ => ?_)
    · intro y0 y1 y2 y3 y4 y5 y6 y7 y8 y9 y10 y11
      unfold tinderlaw21_LabelApart.j1
      repeat' first
      | (with_reducible exact ih0 _ _ _ _ _ _ _ _ _ _ _ _ _)
      | (with_reducible exact ih1 _ _ _ _ _ _ _ _ _ _ _ _)
      | (with_reducible exact ih2 _ _ _ _ _ _ _ _ _ _ _ _)
      | (with_reducible exact ih3 _ _ _ _ _ _ _ _ _ _ _ _ _ _)
      | (with_reducible exact ih4 _ _ _ _ _ _ _ _ _)
      | (with_reducible exact label_Get.mono _ _ _ _ _)
      | (with_reducible exact LeO.refl _)
      | (with_reducible exact LeO.none _)
      | (with_reducible refine LeO.ite ?_ ?_)
      | (with_reducible refine LeO.bind ?_ (fun _ => ?_))
      | exact ih0 _ _ _ _ _ _ _ _ _ _ _ _ _
      | exact ih1 _ _ _ _ _ _ _ _ _ _ _ _
      | exact ih2 _ _ _ _ _ _ _ _ _ _ _ _
      | exact ih3 _ _ _ _ _ _ _ _ _ _ _ _ _ _
      | exact ih4 _ _ _ _ _ _ _ _ _
      | exact label_Get.mono _ _ _ _ _
      | exact LeO.none _
      | refine LeO.ite ?_ ?_
      | refine LeO.bind ?_ (fun _ => ?_)
    · intro y0 y1 y2 y3 y4 y5 y6 y7 y8 y9 y10 y11
      unfold tinderlaw21_LabelApart.l0
      repeat' first
      | (with_reducible exact ih0 _ _ _ _ _ _ _ _ _ _ _ _ _)
      | (with_reducible exact ih1 _ _ _ _ _ _ _ _ _ _ _ _)
      | (with_reducible exact ih2 _ _ _ _ _ _ _ _ _ _ _ _)
      | (with_reducible exact ih3 _ _ _ _ _ _ _ _ _ _ _ _ _ _)
      | (with_reducible exact ih4 _ _ _ _ _ _ _ _ _)
      | (with_reducible exact label_Get.mono _ _ _ _ _)
      | (with_reducible exact LeO.refl _)
      | (with_reducible exact LeO.none _)
      | (with_reducible refine LeO.ite ?_ ?_)
      | (with_reducible refine LeO.bind ?_ (fun _ => ?_))
      | exact ih0 _ _ _ _ _ _ _ _ _ _ _ _ _
      | exact ih1 _ _ _ _ _ _ _ _ _ _ _ _
      | exact ih2 _ _ _ _ _ _ _ _ _ _ _ _
      | exact ih3 _ _ _ _ _ _ _ _ _ _ _ _ _ _
      | exact ih4 _ _ _ _ _ _ _ _ _
      | exact label_Get.mono _ _ _ _ _
      | exact LeO.none _
      | refine LeO.ite ?_ ?_
      | refine LeO.bind ?_ (fun _ => ?_)
    · intro y0 y1 y2 y3 y4 y5 y6 y7 y8 y9 y10 y11 y12 y13
      unfold tinderlaw21_LabelApart.j3
      repeat' first
      | (with_reducible exact ih0 _ _ _ _ _ _ _ _ _ _ _ _ _)
      | (with_reducible exact ih1 _ _ _ _ _ _ _ _ _ _ _ _)
      | (with_reducible exact ih2 _ _ _ _ _ _ _ _ _ _ _ _)
      | (with_reducible exact ih3 _ _ _ _ _ _ _ _ _ _ _ _ _ _)
      | (with_reducible exact ih4 _ _ _ _ _ _ _ _ _)
      | (with_reducible exact label_Get.mono _ _ _ _ _)
      | (with_reducible exact LeO.refl _)
      | (with_reducible exact LeO.none _)
      | (with_reducible refine LeO.ite ?_ ?_)
      | (with_reducible refine LeO.bind ?_ (fun _ => ?_))
      | exact ih0 _ _ _ _ _ _ _ _ _ _ _ _ _
      | exact ih1 _ _ _ _ _ _ _ _ _ _ _ _
      | exact ih2 _ _ _ _ _ _ _ _ _ _ _ _
      | exact ih3 _ _ _ _ _ _ _ _ _ _ _ _ _ _
      | exact ih4 _ _ _ _ _ _ _ _ _
      | exact label_Get.mono _ _ _ _ _
      | exact LeO.none _
      | refine LeO.ite ?_ ?_
      | refine LeO.bind ?_ (fun _ => ?_)
    · intro y0 y1 y2 y3 y4 y5 y6 y7 y8
      unfold tinderlaw21_LabelApart.j4
      repeat' first
      | (with_reducible exact ih0 _ _ _ _ _ _ _ _ _ _ _ _ _)
      | (with_reducible exact ih1 _ _ _ _ _ _ _ _ _ _ _ _)
      | (with_reducible exact ih2 _ _ _ _ _ _ _ _ _ _ _ _)
      | (with_reducible exact ih3 _ _ _ _ _ _ _ _ _ _ _ _ _ _)
      | (with_reducible exact ih4 _ _ _ _ _ _ _ _ _)
      | (with_reducible exact label_Get.mono _ _ _ _ _)
      | (with_reducible exact LeO.refl _)
      | (with_reducible exact LeO.none _)
      | (with_reducible refine LeO.ite ?_ ?_)
      | (with_reducible refine LeO.bind ?_ (fun _ => ?_))
      | exact ih0 _ _ _ _ _ _ _ _ _ _ _ _ _
      | exact ih1 _ _ _ _ _ _ _ _ _ _ _ _
      | exact ih2 _ _ _ _ _ _ _ _ _ _ _ _
      | exact ih3 _ _ _ _ _ _ _ _ _ _ _ _ _ _
      | exact ih4 _ _ _ _ _ _ _ _ _
      | exact label_Get.mono _ _ _ _ _
      | exact LeO.none _
      | refine LeO.ite ?_ ?_
      | refine LeO.bind ?_ (fun _ => ?_)
theorem tinderlaw21_LabelApart.mono : ∀ a0 a1 a2 a3 a4 a5 a6 a7 k, LeO (tinderlaw21_LabelApart.f k a0 a1 a2 a3 a4 a5 a6 a7) (tinderlaw21_LabelApart.f (k + 1) a0 a1 a2 a3 a4 a5 a6 a7) := by
  intro a0 a1 a2 a3 a4 a5 a6 a7 k
  obtain ⟨ih0, ih1, ih2, ih3, ih4⟩ := tinderlaw21_LabelApart.mono_l k
  unfold tinderlaw21_LabelApart.f
  repeat' first
      | (with_reducible exact ih0 _ _ _ _ _ _ _ _ _ _ _ _ _)
      | (with_reducible exact ih1 _ _ _ _ _ _ _ _ _ _ _ _)
      | (with_reducible exact ih2 _ _ _ _ _ _ _ _ _ _ _ _)
      | (with_reducible exact ih3 _ _ _ _ _ _ _ _ _ _ _ _ _ _)
      | (with_reducible exact ih4 _ _ _ _ _ _ _ _ _)
      | (with_reducible exact label_Get.mono _ _ _ _ _)
      | (with_reducible exact LeO.refl _)
      | (with_reducible exact LeO.none _)
      | (with_reducible refine LeO.ite ?_ ?_)
      | (with_reducible refine LeO.bind ?_ (fun _ => ?_))
      | exact ih0 _ _ _ _ _ _ _ _ _ _ _ _ _
      | exact ih1 _ _ _ _ _ _ _ _ _ _ _ _
      | exact ih2 _ _ _ _ _ _ _ _ _ _ _ _
      | exact ih3 _ _ _ _ _ _ _ _ _ _ _ _ _ _
      | exact ih4 _ _ _ _ _ _ _ _ _
      | exact label_Get.mono _ _ _ _ _
      | exact LeO.none _
      | refine LeO.ite ?_ ?_
      | refine LeO.bind ?_ (fun _ => ?_)
set_option maxHeartbeats 8000000 in
set_option maxRecDepth 100000 in
theorem tinderlaw21_LabelApart.calls (k : Nat) (A0 : Option Addr) (c0 : Nat) (l0 : List Int) (a1_0 : ByteArray) (a1_1 : Int) (a1_2 : Int) (a1_3 : ByteArray) (a1_4 : Int) (a1_5 : Int) (A2 : Option Addr) (c2 : Nat) (l2 : List Int) (r : Bool) (w : World) (hr0 : Kd.C (Kd.int .u8) w A0 l0.length l0) (hc0 : l0.length ≤ c0) (hr2 : Kd.C (Kd.int .u8) w A2 l2.length l2) (hc2 : l2.length ≤ c2) (h : tinderlaw21_LabelApart.f k l0 a1_0 a1_1 a1_2 a1_3 a1_4 a1_5 l2 = some r) :
    Calls Try.prog 8 #[.slice A0 l0.length c0, .agg #[.string a1_0, .int .i64 a1_1, .int .i64 a1_2, .string a1_3, .int .i64 a1_4, .int .i64 a1_5], .slice A2 l2.length c2] w fun e w' => e = .returned (.bool r) ∧ Below w.heap.size w w' := by
  have hu49 := Try.underlying49
  have HR0 := Aside0.mk hr0
  have HC0 := Aside0.mk hc0
  clear hr0 hc0
  have HR2 := Aside0.mk hr2
  have HC2 := Aside0.mk hc2
  clear hr2 hc2
  have HB := Aside0.mk (Below.refl w.heap.size w)
  have H : ((tinderlaw21_alive.f).bind fun t9002 => (if t9002 = true then ((label_Window.f l0 a1_0).bind fun bt9003 => ((label_Put.f l0 a1_0 a1_1 l2).bind fun bt9006 => (if bt9003.2.2 = 0 then (tinderlaw21_LabelApart.j0 k l0 l2 bt9003.1 bt9003.2.1 bt9006.1 bt9006.2 (bt9006.2 != 0) a1_0 a1_1 a1_2 a1_3 a1_4 a1_5) else (tinderlaw21_LabelApart.j0 k l0 l2 bt9003.1 bt9003.2.1 bt9006.1 bt9006.2 true a1_0 a1_1 a1_2 a1_3 a1_4 a1_5)))) else (some false))) = some r := h
  clear h
  replace H := Option.bind_eq_some_iff.mp H
  obtain ⟨t9002, A40, H⟩ := H
  replace H : (if t9002 = true then ((label_Window.f l0 a1_0).bind fun bt9003 => ((label_Put.f l0 a1_0 a1_1 l2).bind fun bt9006 => (if bt9003.2.2 = 0 then (tinderlaw21_LabelApart.j0 k l0 l2 bt9003.1 bt9003.2.1 bt9006.1 bt9006.2 (bt9006.2 != 0) a1_0 a1_1 a1_2 a1_3 a1_4 a1_5) else (tinderlaw21_LabelApart.j0 k l0 l2 bt9003.1 bt9003.2.1 bt9006.1 bt9006.2 true a1_0 a1_1 a1_2 a1_3 a1_4 a1_5)))) else (some false)) = some r := H
  have A4 := Aside0.mk A40
  clear A40
  by_cases c5 : t9002 = true
  · subst c5
    have H1 : ((label_Window.f l0 a1_0).bind fun bt9003 => ((label_Put.f l0 a1_0 a1_1 l2).bind fun bt9006 => (if bt9003.2.2 = 0 then (tinderlaw21_LabelApart.j0 k l0 l2 bt9003.1 bt9003.2.1 bt9006.1 bt9006.2 (bt9006.2 != 0) a1_0 a1_1 a1_2 a1_3 a1_4 a1_5) else (tinderlaw21_LabelApart.j0 k l0 l2 bt9003.1 bt9003.2.1 bt9006.1 bt9006.2 true a1_0 a1_1 a1_2 a1_3 a1_4 a1_5)))) = some r := by rw [if_pos rfl] at H; exact H
    clear H
    have H := H1
    clear H1
    replace H := Option.bind_eq_some_iff.mp H
    obtain ⟨⟨t9003, t9004, t9005⟩, A60, H⟩ := H
    replace H : ((label_Put.f l0 a1_0 a1_1 l2).bind fun bt9006 => (if t9005 = 0 then (tinderlaw21_LabelApart.j0 k l0 l2 t9003 t9004 bt9006.1 bt9006.2 (bt9006.2 != 0) a1_0 a1_1 a1_2 a1_3 a1_4 a1_5) else (tinderlaw21_LabelApart.j0 k l0 l2 t9003 t9004 bt9006.1 bt9006.2 true a1_0 a1_1 a1_2 a1_3 a1_4 a1_5))) = some r := H
    have A6 := Aside0.mk A60
    clear A60
    replace H := Option.bind_eq_some_iff.mp H
    obtain ⟨⟨t9006, t9007⟩, A70, H⟩ := H
    replace H : (if t9005 = 0 then (tinderlaw21_LabelApart.j0 k l0 l2 t9003 t9004 t9006 t9007 (t9007 != 0) a1_0 a1_1 a1_2 a1_3 a1_4 a1_5) else (tinderlaw21_LabelApart.j0 k l0 l2 t9003 t9004 t9006 t9007 true a1_0 a1_1 a1_2 a1_3 a1_4 a1_5)) = some r := H
    have A7 := Aside0.mk A70
    clear A70
    have HC8 := Aside0.mk H
    clear H
    go_enter Try.func8, Try.ntmps8
    go_upto_region 5 with (first | ((with_reducible refine gate_dst (N := 4) rfl ?_); (try (refine gate_guard (by rfl) ?_; dsimp only)); refine box_event ?hg (N := 4) ?hd (cs := #[.string a1_0, .int .i64 a1_1, .int .i64 a1_2, .string a1_3, .int .i64 a1_4, .int .i64 a1_5]) (t := 49) ?hr ?_; (case hd => rfl); (case hg => rfl); (case hr => first | (go_simp; done) | (go_simp; rfl)); intro gb9001 hg w9 hbox hb; have n0_ := Aside0.mk (below_step (by repeat (first | (with_reducible first | exact HB.out | apply below_alloc | apply pw_below_drewN | apply below_drew1) | exact HB.out)) hb); have n1_ := Aside0.mk (hbox); have n2_ := Aside0.mk ((by rw [hg]; exact (below_size (by repeat (first | (with_reducible first | exact HB.out | apply below_alloc | apply pw_below_drewN | apply below_drew1) | exact HB.out))) : w.heap.size ≤ gb9001)); have n3_ := Aside0.mk ((by rw [hg]; exact (below_size (by repeat (first | (with_reducible first | exact HB.out | apply below_alloc | apply pw_below_drewN | apply below_drew1) | exact HB.out))) : w.heap.size ≤ gb9001)); clear HB; have HB := n0_; have BK9001 := n1_; have GW9001 := n2_; have GE9001 := n3_; clear n0_ n1_ n2_ n3_; clear hb hbox hg) | (go_at_call 9; (with_reducible refine (tinderlaw21_alive.calls  true _ A4.out).mono ?_); rintro e w10 ⟨rfl, hb⟩; have n0_ := Aside0.mk (blk_below (g := gb9001) (o := .cells #[.string a1_0, .int .i64 a1_1, .int .i64 a1_2, .string a1_3, .int .i64 a1_4, .int .i64 a1_5] 49 (0, 0)) (by (with_reducible repeat (first | refine blk_drewN ?_ _ | refine blk_drew ?_ | refine blk_alloc ?_ _)); exact BK9001.out) hb); have n1_ := Aside0.mk (below_step (by repeat (first | (with_reducible first | exact HB.out | apply below_alloc | apply pw_below_drewN | apply below_drew1 | refine below_set ?_ GE9001.out) | exact HB.out)) hb); clear BK9001; clear HB; have BK9001 := n0_; have HB := n1_; clear n0_ n1_; (try clear hb); (try clear hb2); (try clear hk); (try clear hi); have hcz11_0 : w10.cell? ⟨gb9001, 0, none⟩ = some (.string a1_0) := (blk_cell BK9001.out 0).trans rfl; have hcz11_1 : w10.cell? ⟨gb9001, 1, none⟩ = some (.int .i64 a1_1) := (blk_cell BK9001.out 1).trans rfl; have hcz11_2 : w10.cell? ⟨gb9001, 2, none⟩ = some (.int .i64 a1_2) := (blk_cell BK9001.out 2).trans rfl; have hcz11_3 : w10.cell? ⟨gb9001, 3, none⟩ = some (.string a1_3) := (blk_cell BK9001.out 3).trans rfl; have hcz11_4 : w10.cell? ⟨gb9001, 4, none⟩ = some (.int .i64 a1_4) := (blk_cell BK9001.out 4).trans rfl; have hcz11_5 : w10.cell? ⟨gb9001, 5, none⟩ = some (.int .i64 a1_5) := (blk_cell BK9001.out 5).trans rfl; have hfz11_0 := blk_frozen BK9001.out 0; have hfz11_1 := blk_frozen BK9001.out 1; have hfz11_2 := blk_frozen BK9001.out 2; have hfz11_3 := blk_frozen BK9001.out 3; have hfz11_4 := blk_frozen BK9001.out 4; have hfz11_5 := blk_frozen BK9001.out 5) | (go_at_call 18; (with_reducible refine (label_Window.calls _ _ l0 a1_0 t9003 t9004 t9005 _ ?side1 ?side2 A6.out).mono ?_); (case side1 => repeat (first | exact (Kd.C_below HR0.out HB.out) | (with_reducible refine Kd.C_alloc ?_ _) | (with_reducible refine Kd.C_drewN ?_ _) | (with_reducible refine Kd.C_drew ?_))); (case side2 => exact HC0.out); rintro e w12 ⟨rfl, hb⟩; have n0_ := Aside0.mk (blk_below (g := gb9001) (o := .cells #[.string a1_0, .int .i64 a1_1, .int .i64 a1_2, .string a1_3, .int .i64 a1_4, .int .i64 a1_5] 49 (0, 0)) (by (with_reducible repeat (first | refine blk_drewN ?_ _ | refine blk_drew ?_ | refine blk_alloc ?_ _)); exact BK9001.out) hb); have n1_ := Aside0.mk (below_step (by repeat (first | (with_reducible first | exact HB.out | apply below_alloc | apply pw_below_drewN | apply below_drew1 | refine below_set ?_ GE9001.out) | exact HB.out)) hb); clear BK9001; clear HB; have BK9001 := n0_; have HB := n1_; clear n0_ n1_; (try clear hb); (try clear hb2); (try clear hk); (try clear hi); have hcz13_0 : w12.cell? ⟨gb9001, 0, none⟩ = some (.string a1_0) := (blk_cell BK9001.out 0).trans rfl; have hcz13_1 : w12.cell? ⟨gb9001, 1, none⟩ = some (.int .i64 a1_1) := (blk_cell BK9001.out 1).trans rfl; have hcz13_2 : w12.cell? ⟨gb9001, 2, none⟩ = some (.int .i64 a1_2) := (blk_cell BK9001.out 2).trans rfl; have hcz13_3 : w12.cell? ⟨gb9001, 3, none⟩ = some (.string a1_3) := (blk_cell BK9001.out 3).trans rfl; have hcz13_4 : w12.cell? ⟨gb9001, 4, none⟩ = some (.int .i64 a1_4) := (blk_cell BK9001.out 4).trans rfl; have hcz13_5 : w12.cell? ⟨gb9001, 5, none⟩ = some (.int .i64 a1_5) := (blk_cell BK9001.out 5).trans rfl; have hfz13_0 := blk_frozen BK9001.out 0; have hfz13_1 := blk_frozen BK9001.out 1; have hfz13_2 := blk_frozen BK9001.out 2; have hfz13_3 := blk_frozen BK9001.out 3; have hfz13_4 := blk_frozen BK9001.out 4; have hfz13_5 := blk_frozen BK9001.out 5) | (go_at_call 22; (with_reducible refine (label_Put.calls _ _ l0 a1_0 a1_1 _ _ l2 t9006 t9007 _ ?side1 ?side2 ?side3 ?side4 A7.out).mono ?_); (case side1 => repeat (first | exact (Kd.C_below HR0.out HB.out) | (with_reducible refine Kd.C_alloc ?_ _) | (with_reducible refine Kd.C_drewN ?_ _) | (with_reducible refine Kd.C_drew ?_))); (case side2 => exact HC0.out); (case side3 => repeat (first | exact (Kd.C_below HR2.out HB.out) | (with_reducible refine Kd.C_alloc ?_ _) | (with_reducible refine Kd.C_drewN ?_ _) | (with_reducible refine Kd.C_drew ?_))); (case side4 => exact HC2.out); rintro e w14 ⟨v9008, rfl, ho0, hb⟩; have n0_ := Aside0.mk (Kd.R_lower ho0 (below_size (by repeat (first | (with_reducible first | exact HB.out | apply below_alloc | apply pw_below_drewN | apply below_drew1 | refine below_set ?_ GE9001.out) | exact HB.out)))); have n1_ := Aside0.mk (blk_below (g := gb9001) (o := .cells #[.string a1_0, .int .i64 a1_1, .int .i64 a1_2, .string a1_3, .int .i64 a1_4, .int .i64 a1_5] 49 (0, 0)) (by (with_reducible repeat (first | refine blk_drewN ?_ _ | refine blk_drew ?_ | refine blk_alloc ?_ _)); exact BK9001.out) hb); have n2_ := Aside0.mk (below_step (by repeat (first | (with_reducible first | exact HB.out | apply below_alloc | apply pw_below_drewN | apply below_drew1 | refine below_set ?_ GE9001.out) | exact HB.out)) hb); clear BK9001; clear HB; have HO9009 := n0_; have BK9001 := n1_; have HB := n2_; clear n0_ n1_ n2_; (try clear hb); (try clear hb2); (try clear hk); (try clear hi); (try clear ho0)))
    repeat (go_quiet (first | ((with_reducible refine gate_dst (N := 4) rfl ?_); (try (refine gate_guard (by rfl) ?_; dsimp only)); refine box_event ?hg (N := 4) ?hd (cs := #[.string a1_0, .int .i64 a1_1, .int .i64 a1_2, .string a1_3, .int .i64 a1_4, .int .i64 a1_5]) (t := 49) ?hr ?_; (case hd => rfl); (case hg => rfl); (case hr => first | (go_simp; done) | (go_simp; rfl)); intro gb9001 hg w9 hbox hb; have n0_ := Aside0.mk (below_step (by repeat (first | (with_reducible first | exact HB.out | apply below_alloc | apply pw_below_drewN | apply below_drew1) | exact HB.out)) hb); have n1_ := Aside0.mk (hbox); have n2_ := Aside0.mk ((by rw [hg]; exact (below_size (by repeat (first | (with_reducible first | exact HB.out | apply below_alloc | apply pw_below_drewN | apply below_drew1) | exact HB.out))) : w.heap.size ≤ gb9001)); have n3_ := Aside0.mk ((by rw [hg]; exact (below_size (by repeat (first | (with_reducible first | exact HB.out | apply below_alloc | apply pw_below_drewN | apply below_drew1) | exact HB.out))) : w.heap.size ≤ gb9001)); clear HB; have HB := n0_; have BK9001 := n1_; have GW9001 := n2_; have GE9001 := n3_; clear n0_ n1_ n2_ n3_; clear hb hbox hg) | (go_at_call 9; (with_reducible refine (tinderlaw21_alive.calls  true _ A4.out).mono ?_); rintro e w10 ⟨rfl, hb⟩; have n0_ := Aside0.mk (blk_below (g := gb9001) (o := .cells #[.string a1_0, .int .i64 a1_1, .int .i64 a1_2, .string a1_3, .int .i64 a1_4, .int .i64 a1_5] 49 (0, 0)) (by (with_reducible repeat (first | refine blk_drewN ?_ _ | refine blk_drew ?_ | refine blk_alloc ?_ _)); exact BK9001.out) hb); have n1_ := Aside0.mk (below_step (by repeat (first | (with_reducible first | exact HB.out | apply below_alloc | apply pw_below_drewN | apply below_drew1 | refine below_set ?_ GE9001.out) | exact HB.out)) hb); clear BK9001; clear HB; have BK9001 := n0_; have HB := n1_; clear n0_ n1_; (try clear hb); (try clear hb2); (try clear hk); (try clear hi); have hcz11_0 : w10.cell? ⟨gb9001, 0, none⟩ = some (.string a1_0) := (blk_cell BK9001.out 0).trans rfl; have hcz11_1 : w10.cell? ⟨gb9001, 1, none⟩ = some (.int .i64 a1_1) := (blk_cell BK9001.out 1).trans rfl; have hcz11_2 : w10.cell? ⟨gb9001, 2, none⟩ = some (.int .i64 a1_2) := (blk_cell BK9001.out 2).trans rfl; have hcz11_3 : w10.cell? ⟨gb9001, 3, none⟩ = some (.string a1_3) := (blk_cell BK9001.out 3).trans rfl; have hcz11_4 : w10.cell? ⟨gb9001, 4, none⟩ = some (.int .i64 a1_4) := (blk_cell BK9001.out 4).trans rfl; have hcz11_5 : w10.cell? ⟨gb9001, 5, none⟩ = some (.int .i64 a1_5) := (blk_cell BK9001.out 5).trans rfl; have hfz11_0 := blk_frozen BK9001.out 0; have hfz11_1 := blk_frozen BK9001.out 1; have hfz11_2 := blk_frozen BK9001.out 2; have hfz11_3 := blk_frozen BK9001.out 3; have hfz11_4 := blk_frozen BK9001.out 4; have hfz11_5 := blk_frozen BK9001.out 5) | (go_at_call 18; (with_reducible refine (label_Window.calls _ _ l0 a1_0 t9003 t9004 t9005 _ ?side1 ?side2 A6.out).mono ?_); (case side1 => repeat (first | exact (Kd.C_below HR0.out HB.out) | (with_reducible refine Kd.C_alloc ?_ _) | (with_reducible refine Kd.C_drewN ?_ _) | (with_reducible refine Kd.C_drew ?_))); (case side2 => exact HC0.out); rintro e w12 ⟨rfl, hb⟩; have n0_ := Aside0.mk (blk_below (g := gb9001) (o := .cells #[.string a1_0, .int .i64 a1_1, .int .i64 a1_2, .string a1_3, .int .i64 a1_4, .int .i64 a1_5] 49 (0, 0)) (by (with_reducible repeat (first | refine blk_drewN ?_ _ | refine blk_drew ?_ | refine blk_alloc ?_ _)); exact BK9001.out) hb); have n1_ := Aside0.mk (below_step (by repeat (first | (with_reducible first | exact HB.out | apply below_alloc | apply pw_below_drewN | apply below_drew1 | refine below_set ?_ GE9001.out) | exact HB.out)) hb); clear BK9001; clear HB; have BK9001 := n0_; have HB := n1_; clear n0_ n1_; (try clear hb); (try clear hb2); (try clear hk); (try clear hi); have hcz13_0 : w12.cell? ⟨gb9001, 0, none⟩ = some (.string a1_0) := (blk_cell BK9001.out 0).trans rfl; have hcz13_1 : w12.cell? ⟨gb9001, 1, none⟩ = some (.int .i64 a1_1) := (blk_cell BK9001.out 1).trans rfl; have hcz13_2 : w12.cell? ⟨gb9001, 2, none⟩ = some (.int .i64 a1_2) := (blk_cell BK9001.out 2).trans rfl; have hcz13_3 : w12.cell? ⟨gb9001, 3, none⟩ = some (.string a1_3) := (blk_cell BK9001.out 3).trans rfl; have hcz13_4 : w12.cell? ⟨gb9001, 4, none⟩ = some (.int .i64 a1_4) := (blk_cell BK9001.out 4).trans rfl; have hcz13_5 : w12.cell? ⟨gb9001, 5, none⟩ = some (.int .i64 a1_5) := (blk_cell BK9001.out 5).trans rfl; have hfz13_0 := blk_frozen BK9001.out 0; have hfz13_1 := blk_frozen BK9001.out 1; have hfz13_2 := blk_frozen BK9001.out 2; have hfz13_3 := blk_frozen BK9001.out 3; have hfz13_4 := blk_frozen BK9001.out 4; have hfz13_5 := blk_frozen BK9001.out 5) | (go_at_call 22; (with_reducible refine (label_Put.calls _ _ l0 a1_0 a1_1 _ _ l2 t9006 t9007 _ ?side1 ?side2 ?side3 ?side4 A7.out).mono ?_); (case side1 => repeat (first | exact (Kd.C_below HR0.out HB.out) | (with_reducible refine Kd.C_alloc ?_ _) | (with_reducible refine Kd.C_drewN ?_ _) | (with_reducible refine Kd.C_drew ?_))); (case side2 => exact HC0.out); (case side3 => repeat (first | exact (Kd.C_below HR2.out HB.out) | (with_reducible refine Kd.C_alloc ?_ _) | (with_reducible refine Kd.C_drewN ?_ _) | (with_reducible refine Kd.C_drew ?_))); (case side4 => exact HC2.out); rintro e w14 ⟨v9008, rfl, ho0, hb⟩; have n0_ := Aside0.mk (Kd.R_lower ho0 (below_size (by repeat (first | (with_reducible first | exact HB.out | apply below_alloc | apply pw_below_drewN | apply below_drew1 | refine below_set ?_ GE9001.out) | exact HB.out)))); have n1_ := Aside0.mk (blk_below (g := gb9001) (o := .cells #[.string a1_0, .int .i64 a1_1, .int .i64 a1_2, .string a1_3, .int .i64 a1_4, .int .i64 a1_5] 49 (0, 0)) (by (with_reducible repeat (first | refine blk_drewN ?_ _ | refine blk_drew ?_ | refine blk_alloc ?_ _)); exact BK9001.out) hb); have n2_ := Aside0.mk (below_step (by repeat (first | (with_reducible first | exact HB.out | apply below_alloc | apply pw_below_drewN | apply below_drew1 | refine below_set ?_ GE9001.out) | exact HB.out)) hb); clear BK9001; clear HB; have HO9009 := n0_; have BK9001 := n1_; have HB := n2_; clear n0_ n1_ n2_; (try clear hb); (try clear hb2); (try clear hk); (try clear hi); (try clear ho0))); go_upto_region 5 with (first | ((with_reducible refine gate_dst (N := 4) rfl ?_); (try (refine gate_guard (by rfl) ?_; dsimp only)); refine box_event ?hg (N := 4) ?hd (cs := #[.string a1_0, .int .i64 a1_1, .int .i64 a1_2, .string a1_3, .int .i64 a1_4, .int .i64 a1_5]) (t := 49) ?hr ?_; (case hd => rfl); (case hg => rfl); (case hr => first | (go_simp; done) | (go_simp; rfl)); intro gb9001 hg w9 hbox hb; have n0_ := Aside0.mk (below_step (by repeat (first | (with_reducible first | exact HB.out | apply below_alloc | apply pw_below_drewN | apply below_drew1) | exact HB.out)) hb); have n1_ := Aside0.mk (hbox); have n2_ := Aside0.mk ((by rw [hg]; exact (below_size (by repeat (first | (with_reducible first | exact HB.out | apply below_alloc | apply pw_below_drewN | apply below_drew1) | exact HB.out))) : w.heap.size ≤ gb9001)); have n3_ := Aside0.mk ((by rw [hg]; exact (below_size (by repeat (first | (with_reducible first | exact HB.out | apply below_alloc | apply pw_below_drewN | apply below_drew1) | exact HB.out))) : w.heap.size ≤ gb9001)); clear HB; have HB := n0_; have BK9001 := n1_; have GW9001 := n2_; have GE9001 := n3_; clear n0_ n1_ n2_ n3_; clear hb hbox hg) | (go_at_call 9; (with_reducible refine (tinderlaw21_alive.calls  true _ A4.out).mono ?_); rintro e w10 ⟨rfl, hb⟩; have n0_ := Aside0.mk (blk_below (g := gb9001) (o := .cells #[.string a1_0, .int .i64 a1_1, .int .i64 a1_2, .string a1_3, .int .i64 a1_4, .int .i64 a1_5] 49 (0, 0)) (by (with_reducible repeat (first | refine blk_drewN ?_ _ | refine blk_drew ?_ | refine blk_alloc ?_ _)); exact BK9001.out) hb); have n1_ := Aside0.mk (below_step (by repeat (first | (with_reducible first | exact HB.out | apply below_alloc | apply pw_below_drewN | apply below_drew1 | refine below_set ?_ GE9001.out) | exact HB.out)) hb); clear BK9001; clear HB; have BK9001 := n0_; have HB := n1_; clear n0_ n1_; (try clear hb); (try clear hb2); (try clear hk); (try clear hi); have hcz11_0 : w10.cell? ⟨gb9001, 0, none⟩ = some (.string a1_0) := (blk_cell BK9001.out 0).trans rfl; have hcz11_1 : w10.cell? ⟨gb9001, 1, none⟩ = some (.int .i64 a1_1) := (blk_cell BK9001.out 1).trans rfl; have hcz11_2 : w10.cell? ⟨gb9001, 2, none⟩ = some (.int .i64 a1_2) := (blk_cell BK9001.out 2).trans rfl; have hcz11_3 : w10.cell? ⟨gb9001, 3, none⟩ = some (.string a1_3) := (blk_cell BK9001.out 3).trans rfl; have hcz11_4 : w10.cell? ⟨gb9001, 4, none⟩ = some (.int .i64 a1_4) := (blk_cell BK9001.out 4).trans rfl; have hcz11_5 : w10.cell? ⟨gb9001, 5, none⟩ = some (.int .i64 a1_5) := (blk_cell BK9001.out 5).trans rfl; have hfz11_0 := blk_frozen BK9001.out 0; have hfz11_1 := blk_frozen BK9001.out 1; have hfz11_2 := blk_frozen BK9001.out 2; have hfz11_3 := blk_frozen BK9001.out 3; have hfz11_4 := blk_frozen BK9001.out 4; have hfz11_5 := blk_frozen BK9001.out 5) | (go_at_call 18; (with_reducible refine (label_Window.calls _ _ l0 a1_0 t9003 t9004 t9005 _ ?side1 ?side2 A6.out).mono ?_); (case side1 => repeat (first | exact (Kd.C_below HR0.out HB.out) | (with_reducible refine Kd.C_alloc ?_ _) | (with_reducible refine Kd.C_drewN ?_ _) | (with_reducible refine Kd.C_drew ?_))); (case side2 => exact HC0.out); rintro e w12 ⟨rfl, hb⟩; have n0_ := Aside0.mk (blk_below (g := gb9001) (o := .cells #[.string a1_0, .int .i64 a1_1, .int .i64 a1_2, .string a1_3, .int .i64 a1_4, .int .i64 a1_5] 49 (0, 0)) (by (with_reducible repeat (first | refine blk_drewN ?_ _ | refine blk_drew ?_ | refine blk_alloc ?_ _)); exact BK9001.out) hb); have n1_ := Aside0.mk (below_step (by repeat (first | (with_reducible first | exact HB.out | apply below_alloc | apply pw_below_drewN | apply below_drew1 | refine below_set ?_ GE9001.out) | exact HB.out)) hb); clear BK9001; clear HB; have BK9001 := n0_; have HB := n1_; clear n0_ n1_; (try clear hb); (try clear hb2); (try clear hk); (try clear hi); have hcz13_0 : w12.cell? ⟨gb9001, 0, none⟩ = some (.string a1_0) := (blk_cell BK9001.out 0).trans rfl; have hcz13_1 : w12.cell? ⟨gb9001, 1, none⟩ = some (.int .i64 a1_1) := (blk_cell BK9001.out 1).trans rfl; have hcz13_2 : w12.cell? ⟨gb9001, 2, none⟩ = some (.int .i64 a1_2) := (blk_cell BK9001.out 2).trans rfl; have hcz13_3 : w12.cell? ⟨gb9001, 3, none⟩ = some (.string a1_3) := (blk_cell BK9001.out 3).trans rfl; have hcz13_4 : w12.cell? ⟨gb9001, 4, none⟩ = some (.int .i64 a1_4) := (blk_cell BK9001.out 4).trans rfl; have hcz13_5 : w12.cell? ⟨gb9001, 5, none⟩ = some (.int .i64 a1_5) := (blk_cell BK9001.out 5).trans rfl; have hfz13_0 := blk_frozen BK9001.out 0; have hfz13_1 := blk_frozen BK9001.out 1; have hfz13_2 := blk_frozen BK9001.out 2; have hfz13_3 := blk_frozen BK9001.out 3; have hfz13_4 := blk_frozen BK9001.out 4; have hfz13_5 := blk_frozen BK9001.out 5) | (go_at_call 22; (with_reducible refine (label_Put.calls _ _ l0 a1_0 a1_1 _ _ l2 t9006 t9007 _ ?side1 ?side2 ?side3 ?side4 A7.out).mono ?_); (case side1 => repeat (first | exact (Kd.C_below HR0.out HB.out) | (with_reducible refine Kd.C_alloc ?_ _) | (with_reducible refine Kd.C_drewN ?_ _) | (with_reducible refine Kd.C_drew ?_))); (case side2 => exact HC0.out); (case side3 => repeat (first | exact (Kd.C_below HR2.out HB.out) | (with_reducible refine Kd.C_alloc ?_ _) | (with_reducible refine Kd.C_drewN ?_ _) | (with_reducible refine Kd.C_drew ?_))); (case side4 => exact HC2.out); rintro e w14 ⟨v9008, rfl, ho0, hb⟩; have n0_ := Aside0.mk (Kd.R_lower ho0 (below_size (by repeat (first | (with_reducible first | exact HB.out | apply below_alloc | apply pw_below_drewN | apply below_drew1 | refine below_set ?_ GE9001.out) | exact HB.out)))); have n1_ := Aside0.mk (blk_below (g := gb9001) (o := .cells #[.string a1_0, .int .i64 a1_1, .int .i64 a1_2, .string a1_3, .int .i64 a1_4, .int .i64 a1_5] 49 (0, 0)) (by (with_reducible repeat (first | refine blk_drewN ?_ _ | refine blk_drew ?_ | refine blk_alloc ?_ _)); exact BK9001.out) hb); have n2_ := Aside0.mk (below_step (by repeat (first | (with_reducible first | exact HB.out | apply below_alloc | apply pw_below_drewN | apply below_drew1 | refine below_set ?_ GE9001.out) | exact HB.out)) hb); clear BK9001; clear HB; have HO9009 := n0_; have BK9001 := n1_; have HB := n2_; clear n0_ n1_ n2_; (try clear hb); (try clear hb2); (try clear hk); (try clear hi); (try clear ho0))))
    (try simp only [Act.put, List.setIfInBounds_toArray, List.set_cons_zero, List.set_cons_succ])
    go_cut [49] (fun v49 wc => ∃ (kq : Nat) (x49_7 : Bool), v49 = .bool x49_7 ∧ Aside0 (tinderlaw21_LabelApart.j0 kq l0 l2 t9003 t9004 t9006 t9007 x49_7 a1_0 a1_1 a1_2 a1_3 a1_4 a1_5 = some r) ∧ Aside0 (kq ≤ k) ∧ Aside0 (Kd.R (Kd.int .u8) 5 wc w.heap.size (fun _ => True) v9008 t9006) ∧ Aside0 (wc.heap[gb9001]? = some (.cells #[.string a1_0, .int .i64 a1_1, .int .i64 a1_2, .string a1_3, .int .i64 a1_4, .int .i64 a1_5] 49 (0, 0))) ∧ Aside0 (Below w.heap.size w wc))
    case first =>
      have H := HC8.out
      clear HC8
      by_cases c15 : t9005 = 0
      · rw [if_pos c15] at H
        have c15b0 : (t9005 == 0) = true := beq_iff_eq.mpr c15
        have c15b1 : (t9005 != 0) = false := bne_eq_false_iff_eq.mpr c15
        clear c15
        (first | rw [c15b0] | (simp only [i64_w, i32_w]; rw [c15b0]) | skip)
        have H' := Aside0.mk H
        clear H
        go_wp2
        repeat (go_quiet (fail); try go_wp2)
        go_meet
        case rel => exact ⟨_, ((t9007 != 0)), (by first | rfl | (simp; done) | (simp [*]; done)), H', ⟨by first | omega | exact Nat.le_refl _⟩, ⟨by (with_reducible repeat (first | apply Kd.R_alloc | apply Kd.R_drewN | apply Kd.R_drew)); exact HO9009.out⟩, ⟨by (with_reducible repeat (first | refine blk_drewN ?_ _ | refine blk_drew ?_ | refine blk_alloc ?_ _)); exact BK9001.out⟩, ⟨by repeat (first | (with_reducible first | exact HB.out | apply below_alloc | apply pw_below_drewN | apply below_drew1 | refine below_set ?_ GE9001.out) | exact HB.out)⟩⟩
      · rw [if_neg c15] at H
        have c15b0 : (t9005 == 0) = false := beq_eq_false_iff_ne.mpr c15
        have c15b1 : (t9005 != 0) = true := bne_iff_ne.mpr c15
        (first | rw [c15b0] | (simp only [i64_w, i32_w]; rw [c15b0]) | skip)
        have H' := Aside0.mk H
        clear H
        go_wp2
        repeat (go_quiet (fail); try go_wp2)
        go_meet
        case rel => exact ⟨_, (true), (by first | rfl | (simp; done) | (simp [*]; done)), H', ⟨by first | omega | exact Nat.le_refl _⟩, ⟨by (with_reducible repeat (first | apply Kd.R_alloc | apply Kd.R_drewN | apply Kd.R_drew)); exact HO9009.out⟩, ⟨by (with_reducible repeat (first | refine blk_drewN ?_ _ | refine blk_drew ?_ | refine blk_alloc ?_ _)); exact BK9001.out⟩, ⟨by repeat (first | (with_reducible first | exact HB.out | apply below_alloc | apply pw_below_drewN | apply below_drew1 | refine below_set ?_ GE9001.out) | exact HB.out)⟩⟩
    case rest =>
      clear HC8
      try clear c1
      try clear c2
      try clear p2
      try clear c5
      try clear c8
      try clear c15
      try clear c15b0
      try clear c15b1
      try clear hcz11_0
      try clear hcz11_1
      try clear hcz11_2
      try clear hcz11_3
      try clear hcz11_4
      try clear hcz11_5
      try clear hcz13_0
      try clear hcz13_1
      try clear hcz13_2
      try clear hcz13_3
      try clear hcz13_4
      try clear hcz13_5
      try clear hfz11_0
      try clear hfz11_1
      try clear hfz11_2
      try clear hfz11_3
      try clear hfz11_4
      try clear hfz11_5
      try clear hfz13_0
      try clear hfz13_1
      try clear hfz13_2
      try clear hfz13_3
      try clear hfz13_4
      try clear hfz13_5
      obtain ⟨kq, x49_7, rfl, HA, HJ7, HO_10, BK9001, HB⟩ := hcut
      cases kq with
      | zero => exact absurd HA.out (by simp [tinderlaw21_LabelApart.j0])
      | succ kj7 =>
        have H := HA.out
        clear HA
        simp only [tinderlaw21_LabelApart.j0] at H
        by_cases c16 : x49_7 = true
        · subst c16
          have H1 : (if (t9006.length : Int) = 0 then (some (t9007 != 0)) else (some false)) = some r := by rw [if_pos rfl] at H; exact H
          clear H
          have H := H1
          clear H1
          by_cases c17 : (t9006.length : Int) = 0
          · rw [if_pos c17] at H
            have c17b0 : ((t9006.length : Int) == 0) = true := beq_iff_eq.mpr c17
            have c17b1 : ((t9006.length : Int) != 0) = false := bne_eq_false_iff_eq.mpr c17
            clear c17
            obtain rfl := Option.some.inj H
            obtain ⟨Ao18, co18, eo18⟩ := Kd.R_slice HO_10.out
            subst eo18
            go_wp2
            repeat (go_quiet (fail); try go_wp2)
            go_ret
            exact ⟨by first | rfl | (simp [errW_none, errW_some] <;> rfl) | (simp [*, errW_none, errW_some] <;> rfl), by repeat (first | (with_reducible first | exact HB.out | apply below_alloc | apply pw_below_drewN | apply below_drew1 | refine below_set ?_ GE9001.out) | exact HB.out)⟩
          · rw [if_neg c17] at H
            have c17b0 : ((t9006.length : Int) == 0) = false := beq_eq_false_iff_ne.mpr c17
            have c17b1 : ((t9006.length : Int) != 0) = true := bne_iff_ne.mpr c17
            have c17b2 : ¬ (t9006 = []) := fun h_ => c17 (by rw [h_]; rfl)
            obtain rfl := Option.some.inj H
            obtain ⟨Ao19, co19, eo19⟩ := Kd.R_slice HO_10.out
            subst eo19
            go_wp2
            repeat (go_quiet (fail); try go_wp2)
            go_ret
            exact ⟨by first | rfl | (simp [errW_none, errW_some] <;> rfl) | (simp [*, errW_none, errW_some] <;> rfl), by repeat (first | (with_reducible first | exact HB.out | apply below_alloc | apply pw_below_drewN | apply below_drew1 | refine below_set ?_ GE9001.out) | exact HB.out)⟩
        · replace c16 := Bool.eq_false_iff.mpr c16
          subst c16
          have H1 : (if (t9006.length : Int) = (l0.length : Int) then (if a1_1 < 0 then (tinderlaw21_LabelApart.j1 kj7 l0 l2 t9003 t9004 t9006 true a1_0 a1_1 a1_2 a1_3 a1_4 a1_5) else (tinderlaw21_LabelApart.j1 kj7 l0 l2 t9003 t9004 t9006 (decide ((l2.length : Int) > (wrap64 (t9004 - a1_1)))) a1_0 a1_1 a1_2 a1_3 a1_4 a1_5)) else (tinderlaw21_LabelApart.j1 kj7 l0 l2 t9003 t9004 t9006 true a1_0 a1_1 a1_2 a1_3 a1_4 a1_5)) = some r := by rw [if_neg (show ¬ (false = true) by decide)] at H; exact H
          clear H
          have H := H1
          clear H1
          have HC20 := Aside0.mk H
          clear H
          go_upto_region 7 with (fail)
          repeat (go_quiet (fail); go_upto_region 7 with (fail))
          go_cut [77] (fun v77 wc => ∃ (kq : Nat) (x77_19 : Bool), v77 = .bool x77_19 ∧ Aside0 (tinderlaw21_LabelApart.j1 kq l0 l2 t9003 t9004 t9006 x77_19 a1_0 a1_1 a1_2 a1_3 a1_4 a1_5 = some r) ∧ Aside0 (kq ≤ kj7) ∧ Aside0 (Kd.R (Kd.int .u8) 5 wc w.heap.size (fun _ => True) v9008 t9006) ∧ Aside0 (wc.heap[gb9001]? = some (.cells #[.string a1_0, .int .i64 a1_1, .int .i64 a1_2, .string a1_3, .int .i64 a1_4, .int .i64 a1_5] 49 (0, 0))) ∧ Aside0 (Below w.heap.size w wc))
          case first =>
            have H := HC20.out
            clear HC20
            by_cases c21 : (t9006.length : Int) = (l0.length : Int)
            · rw [if_pos c21] at H
              have c21b0 : ((t9006.length : Int) == (l0.length : Int)) = true := beq_iff_eq.mpr c21
              have c21b1 : ((t9006.length : Int) != (l0.length : Int)) = false := bne_eq_false_iff_eq.mpr c21
              have c21b2 : (t9006.length == l0.length) = true := by first | simpa using c21 | (simp at c21 ⊢; omega)
              clear c21
              (first | rw [c21b0] | (simp only [i64_w, i32_w]; rw [c21b0]) | skip)
              by_cases c22 : a1_1 < 0
              · rw [if_pos c22] at H
                have c22b0 : decide (a1_1 < 0) = true := decide_eq_true c22
                clear c22
                have H' := Aside0.mk H
                clear H
                obtain ⟨Ao23, co23, eo23⟩ := Kd.R_slice HO_10.out
                subst eo23
                have hcz24_0 : wc.cell? ⟨gb9001, 0, none⟩ = some (.string a1_0) := (blk_cell BK9001.out 0).trans rfl
                have hcz24_1 : wc.cell? ⟨gb9001, 1, none⟩ = some (.int .i64 a1_1) := (blk_cell BK9001.out 1).trans rfl
                have hcz24_2 : wc.cell? ⟨gb9001, 2, none⟩ = some (.int .i64 a1_2) := (blk_cell BK9001.out 2).trans rfl
                have hcz24_3 : wc.cell? ⟨gb9001, 3, none⟩ = some (.string a1_3) := (blk_cell BK9001.out 3).trans rfl
                have hcz24_4 : wc.cell? ⟨gb9001, 4, none⟩ = some (.int .i64 a1_4) := (blk_cell BK9001.out 4).trans rfl
                have hcz24_5 : wc.cell? ⟨gb9001, 5, none⟩ = some (.int .i64 a1_5) := (blk_cell BK9001.out 5).trans rfl
                have hfz24_0 := blk_frozen BK9001.out 0
                have hfz24_1 := blk_frozen BK9001.out 1
                have hfz24_2 := blk_frozen BK9001.out 2
                have hfz24_3 := blk_frozen BK9001.out 3
                have hfz24_4 := blk_frozen BK9001.out 4
                have hfz24_5 := blk_frozen BK9001.out 5
                go_wp2
                repeat (go_quiet (fail); try go_wp2)
                go_meet
                case rel => exact ⟨_, (true), (by first | rfl | (simp; done) | (simp [*]; done)), H', ⟨by have := HJ7.out; first | omega | exact Nat.le_refl _⟩, ⟨by (with_reducible repeat (first | apply Kd.R_alloc | apply Kd.R_drewN | apply Kd.R_drew)); exact HO_10.out⟩, ⟨by (with_reducible repeat (first | refine blk_drewN ?_ _ | refine blk_drew ?_ | refine blk_alloc ?_ _)); exact BK9001.out⟩, ⟨by repeat (first | (with_reducible first | exact HB.out | apply below_alloc | apply pw_below_drewN | apply below_drew1 | refine below_set ?_ GE9001.out) | exact HB.out)⟩⟩
              · rw [if_neg c22] at H
                have c22b0 : decide (a1_1 < 0) = false := decide_eq_false c22
                clear c22
                have H' := Aside0.mk H
                clear H
                obtain ⟨Ao25, co25, eo25⟩ := Kd.R_slice HO_10.out
                subst eo25
                have hcz26_0 : wc.cell? ⟨gb9001, 0, none⟩ = some (.string a1_0) := (blk_cell BK9001.out 0).trans rfl
                have hcz26_1 : wc.cell? ⟨gb9001, 1, none⟩ = some (.int .i64 a1_1) := (blk_cell BK9001.out 1).trans rfl
                have hcz26_2 : wc.cell? ⟨gb9001, 2, none⟩ = some (.int .i64 a1_2) := (blk_cell BK9001.out 2).trans rfl
                have hcz26_3 : wc.cell? ⟨gb9001, 3, none⟩ = some (.string a1_3) := (blk_cell BK9001.out 3).trans rfl
                have hcz26_4 : wc.cell? ⟨gb9001, 4, none⟩ = some (.int .i64 a1_4) := (blk_cell BK9001.out 4).trans rfl
                have hcz26_5 : wc.cell? ⟨gb9001, 5, none⟩ = some (.int .i64 a1_5) := (blk_cell BK9001.out 5).trans rfl
                have hfz26_0 := blk_frozen BK9001.out 0
                have hfz26_1 := blk_frozen BK9001.out 1
                have hfz26_2 := blk_frozen BK9001.out 2
                have hfz26_3 := blk_frozen BK9001.out 3
                have hfz26_4 := blk_frozen BK9001.out 4
                have hfz26_5 := blk_frozen BK9001.out 5
                go_wp2
                repeat (go_quiet (fail); try go_wp2)
                go_meet
                case rel => exact ⟨_, (decide ((l2.length : Int) > (wrap64 (t9004 - a1_1)))), (by first | rfl | (simp; done) | (simp [*]; done)), H', ⟨by have := HJ7.out; first | omega | exact Nat.le_refl _⟩, ⟨by (with_reducible repeat (first | apply Kd.R_alloc | apply Kd.R_drewN | apply Kd.R_drew)); exact HO_10.out⟩, ⟨by (with_reducible repeat (first | refine blk_drewN ?_ _ | refine blk_drew ?_ | refine blk_alloc ?_ _)); exact BK9001.out⟩, ⟨by repeat (first | (with_reducible first | exact HB.out | apply below_alloc | apply pw_below_drewN | apply below_drew1 | refine below_set ?_ GE9001.out) | exact HB.out)⟩⟩
            · rw [if_neg c21] at H
              have c21b0 : ((t9006.length : Int) == (l0.length : Int)) = false := beq_eq_false_iff_ne.mpr c21
              have c21b1 : ((t9006.length : Int) != (l0.length : Int)) = true := bne_iff_ne.mpr c21
              have c21b2 : (t9006.length == l0.length) = false := by first | simpa using c21 | (simp at c21 ⊢; omega)
              (first | rw [c21b0] | (simp only [i64_w, i32_w]; rw [c21b0]) | skip)
              have H' := Aside0.mk H
              clear H
              obtain ⟨Ao27, co27, eo27⟩ := Kd.R_slice HO_10.out
              subst eo27
              go_wp2
              repeat (go_quiet (fail); try go_wp2)
              go_meet
              case rel => exact ⟨_, (true), (by first | rfl | (simp; done) | (simp [*]; done)), H', ⟨by have := HJ7.out; first | omega | exact Nat.le_refl _⟩, ⟨by (with_reducible repeat (first | apply Kd.R_alloc | apply Kd.R_drewN | apply Kd.R_drew)); exact HO_10.out⟩, ⟨by (with_reducible repeat (first | refine blk_drewN ?_ _ | refine blk_drew ?_ | refine blk_alloc ?_ _)); exact BK9001.out⟩, ⟨by repeat (first | (with_reducible first | exact HB.out | apply below_alloc | apply pw_below_drewN | apply below_drew1 | refine below_set ?_ GE9001.out) | exact HB.out)⟩⟩
          case rest =>
            clear HC20
            try clear c1
            try clear c2
            try clear p2
            try clear c5
            try clear p6
            try clear c8
            try clear c15
            try clear c15b0
            try clear c15b1
            try clear c16
            try clear c17
            try clear c17b0
            try clear c17b1
            try clear c17b2
            try clear c21
            try clear c21b0
            try clear c21b1
            try clear c21b2
            try clear c22
            try clear c22b0
            try clear hcz11_0
            try clear hcz11_1
            try clear hcz11_2
            try clear hcz11_3
            try clear hcz11_4
            try clear hcz11_5
            try clear hcz13_0
            try clear hcz13_1
            try clear hcz13_2
            try clear hcz13_3
            try clear hcz13_4
            try clear hcz13_5
            try clear hcz24_0
            try clear hcz24_1
            try clear hcz24_2
            try clear hcz24_3
            try clear hcz24_4
            try clear hcz24_5
            try clear hcz26_0
            try clear hcz26_1
            try clear hcz26_2
            try clear hcz26_3
            try clear hcz26_4
            try clear hcz26_5
            try clear hfz11_0
            try clear hfz11_1
            try clear hfz11_2
            try clear hfz11_3
            try clear hfz11_4
            try clear hfz11_5
            try clear hfz13_0
            try clear hfz13_1
            try clear hfz13_2
            try clear hfz13_3
            try clear hfz13_4
            try clear hfz13_5
            try clear hfz24_0
            try clear hfz24_1
            try clear hfz24_2
            try clear hfz24_3
            try clear hfz24_4
            try clear hfz24_5
            try clear hfz26_0
            try clear hfz26_1
            try clear hfz26_2
            try clear hfz26_3
            try clear hfz26_4
            try clear hfz26_5
            try clear p2
            obtain ⟨kq, x77_19, rfl, HA, HJ19, HO_10, BK9001, HB⟩ := hcut
            cases kq with
            | zero => exact absurd HA.out (by simp [tinderlaw21_LabelApart.j1])
            | succ kj19 =>
              have H := HA.out
              clear HA
              simp only [tinderlaw21_LabelApart.j1] at H
              by_cases c28 : x77_19 = true
              · subst c28
                have H1 : (some false) = some r := by rw [if_pos rfl] at H; exact H
                clear H
                have H := H1
                clear H1
                obtain rfl := Option.some.inj H
                go_wp2
                repeat (go_quiet (fail); try go_wp2)
                go_ret
                exact ⟨by first | rfl | (simp [errW_none, errW_some] <;> rfl) | (simp [*, errW_none, errW_some] <;> rfl), by repeat (first | (with_reducible first | exact HB.out | apply below_alloc | apply pw_below_drewN | apply below_drew1 | refine below_set ?_ GE9001.out) | exact HB.out)⟩
              · replace c28 := Bool.eq_false_iff.mpr c28
                subst c28
                have H1 : (tinderlaw21_LabelApart.l0 kj19 l0 l2 t9003 t9004 t9006 0 a1_0 a1_1 a1_2 a1_3 a1_4 a1_5) = some r := by rw [if_neg (show ¬ (false = true) by decide)] at H; exact H
                clear H
                have H := H1
                clear H1
                have H' := Aside0.mk H
                clear H
                go_wp2
                repeat (go_quiet (fail); try go_wp2)
                go_loopg [12] kj19 (fun kq v12 w' => ∃ (x12_3 : Int), v12 = .int .i64 x12_3 ∧ Aside0 (tinderlaw21_LabelApart.l0 kq l0 l2 t9003 t9004 t9006 x12_3 a1_0 a1_1 a1_2 a1_3 a1_4 a1_5 = some r) ∧ Aside0 (kq ≤ kj19) ∧ Aside0 (Kd.R (Kd.int .u8) 5 w' w.heap.size (fun _ => True) v9008 t9006) ∧ Aside0 (w'.heap[gb9001]? = some (.cells #[.string a1_0, .int .i64 a1_1, .int .i64 a1_2, .string a1_3, .int .i64 a1_4, .int .i64 a1_5] 49 (0, 0))) ∧ Aside0 (Below w.heap.size w w'))
                case atStart => exact ⟨(0), (by first | rfl | (simp; done) | (simp [*]; done)), H', ⟨Nat.le_refl _⟩, ⟨by (with_reducible repeat (first | apply Kd.R_alloc | apply Kd.R_drewN | apply Kd.R_drew)); exact HO_10.out⟩, ⟨by (with_reducible repeat (first | refine blk_drewN ?_ _ | refine blk_drew ?_ | refine blk_alloc ?_ _)); exact BK9001.out⟩, ⟨by repeat (first | (with_reducible first | exact HB.out | apply below_alloc | apply pw_below_drewN | apply below_drew1 | refine below_set ?_ GE9001.out) | exact HB.out)⟩⟩
                case round =>
                  clear H'
                  try clear c1
                  try clear c2
                  try clear p2
                  try clear c5
                  try clear p6
                  try clear c8
                  try clear c15
                  try clear c15b0
                  try clear c15b1
                  try clear c16
                  try clear c17
                  try clear c17b0
                  try clear c17b1
                  try clear c17b2
                  try clear c21
                  try clear c21b0
                  try clear c21b1
                  try clear c21b2
                  try clear c22
                  try clear c22b0
                  try clear c28
                  try clear hcz11_0
                  try clear hcz11_1
                  try clear hcz11_2
                  try clear hcz11_3
                  try clear hcz11_4
                  try clear hcz11_5
                  try clear hcz13_0
                  try clear hcz13_1
                  try clear hcz13_2
                  try clear hcz13_3
                  try clear hcz13_4
                  try clear hcz13_5
                  try clear hcz24_0
                  try clear hcz24_1
                  try clear hcz24_2
                  try clear hcz24_3
                  try clear hcz24_4
                  try clear hcz24_5
                  try clear hcz26_0
                  try clear hcz26_1
                  try clear hcz26_2
                  try clear hcz26_3
                  try clear hcz26_4
                  try clear hcz26_5
                  try clear hfz11_0
                  try clear hfz11_1
                  try clear hfz11_2
                  try clear hfz11_3
                  try clear hfz11_4
                  try clear hfz11_5
                  try clear hfz13_0
                  try clear hfz13_1
                  try clear hfz13_2
                  try clear hfz13_3
                  try clear hfz13_4
                  try clear hfz13_5
                  try clear hfz24_0
                  try clear hfz24_1
                  try clear hfz24_2
                  try clear hfz24_3
                  try clear hfz24_4
                  try clear hfz24_5
                  try clear hfz26_0
                  try clear hfz26_1
                  try clear hfz26_2
                  try clear hfz26_3
                  try clear hfz26_4
                  try clear hfz26_5
                  try clear p2
                  try clear p6
                  obtain ⟨x12_3, rfl, HA, HK3, HO_10, BK9001, HB⟩ := hrel
                  cases gk with
                  | zero => exact absurd HA.out (by simp [tinderlaw21_LabelApart.l0])
                  | succ k3 =>
                    have H := HA.out
                    clear HA
                    simp only [tinderlaw21_LabelApart.l0] at H
                    by_cases c29 : x12_3 < (l0.length : Int)
                    · rw [if_pos c29] at H
                      have c29b0 : decide (x12_3 < (l0.length : Int)) = true := decide_eq_true c29
                      clear c29
                      have HC30 := Aside0.mk H
                      clear H
                      have hcz31_0 : wr.cell? ⟨gb9001, 0, none⟩ = some (.string a1_0) := (blk_cell BK9001.out 0).trans rfl
                      have hcz31_1 : wr.cell? ⟨gb9001, 1, none⟩ = some (.int .i64 a1_1) := (blk_cell BK9001.out 1).trans rfl
                      have hcz31_2 : wr.cell? ⟨gb9001, 2, none⟩ = some (.int .i64 a1_2) := (blk_cell BK9001.out 2).trans rfl
                      have hcz31_3 : wr.cell? ⟨gb9001, 3, none⟩ = some (.string a1_3) := (blk_cell BK9001.out 3).trans rfl
                      have hcz31_4 : wr.cell? ⟨gb9001, 4, none⟩ = some (.int .i64 a1_4) := (blk_cell BK9001.out 4).trans rfl
                      have hcz31_5 : wr.cell? ⟨gb9001, 5, none⟩ = some (.int .i64 a1_5) := (blk_cell BK9001.out 5).trans rfl
                      have hfz31_0 := blk_frozen BK9001.out 0
                      have hfz31_1 := blk_frozen BK9001.out 1
                      have hfz31_2 := blk_frozen BK9001.out 2
                      have hfz31_3 := blk_frozen BK9001.out 3
                      have hfz31_4 := blk_frozen BK9001.out 4
                      have hfz31_5 := blk_frozen BK9001.out 5
                      go_upto_region 13 with (fail)
                      repeat (go_quiet (fail); go_upto_region 13 with (fail))
                      go_cut [98] (fun v98 wc => ∃ (kq : Nat) (x98_29 : Bool), v98 = .bool x98_29 ∧ Aside0 (tinderlaw21_LabelApart.j3 kq l0 l2 t9003 t9004 t9006 x12_3 (wrap64 ((wrap64 (x12_3 - t9003)) - a1_1)) x98_29 a1_0 a1_1 a1_2 a1_3 a1_4 a1_5 = some r) ∧ Aside0 (kq ≤ k3) ∧ Aside0 (Kd.R (Kd.int .u8) 5 wc w.heap.size (fun _ => True) v9008 t9006) ∧ Aside0 (wc.heap[gb9001]? = some (.cells #[.string a1_0, .int .i64 a1_1, .int .i64 a1_2, .string a1_3, .int .i64 a1_4, .int .i64 a1_5] 49 (0, 0))) ∧ Aside0 (Below w.heap.size w wc))
                      case first =>
                        have H := HC30.out
                        clear HC30
                        by_cases c32 : (wrap64 ((wrap64 (x12_3 - t9003)) - a1_1)) ≥ 0
                        · rw [if_pos c32] at H
                          have c32b0 : decide (0 ≤ (wrap64 ((wrap64 (x12_3 - t9003)) - a1_1))) = true := decide_eq_true c32
                          clear c32
                          (first | rw [c32b0] | (simp only [i64_w, i32_w]; rw [c32b0]) | skip)
                          have H' := Aside0.mk H
                          clear H
                          go_wp2
                          repeat (go_quiet (fail); try go_wp2)
                          go_meet
                          case rel => exact ⟨_, (decide ((wrap64 ((wrap64 (x12_3 - t9003)) - a1_1)) < (l2.length : Int))), (by first | rfl | (simp; done) | (simp [*]; done)), H', ⟨by have := HJ7.out; have := HJ19.out; have := HK3.out; first | omega | exact Nat.le_refl _⟩, ⟨by (with_reducible repeat (first | apply Kd.R_alloc | apply Kd.R_drewN | apply Kd.R_drew)); exact HO_10.out⟩, ⟨by (with_reducible repeat (first | refine blk_drewN ?_ _ | refine blk_drew ?_ | refine blk_alloc ?_ _)); exact BK9001.out⟩, ⟨by repeat (first | (with_reducible first | exact HB.out | apply below_alloc | apply pw_below_drewN | apply below_drew1 | refine below_set ?_ GE9001.out) | exact HB.out)⟩⟩
                        · rw [if_neg c32] at H
                          have c32b0 : decide (0 ≤ (wrap64 ((wrap64 (x12_3 - t9003)) - a1_1))) = false := decide_eq_false c32
                          clear c32
                          (first | rw [c32b0] | (simp only [i64_w, i32_w]; rw [c32b0]) | skip)
                          have H' := Aside0.mk H
                          clear H
                          go_wp2
                          repeat (go_quiet (fail); try go_wp2)
                          go_meet
                          case rel => exact ⟨_, (false), (by first | rfl | (simp; done) | (simp [*]; done)), H', ⟨by have := HJ7.out; have := HJ19.out; have := HK3.out; first | omega | exact Nat.le_refl _⟩, ⟨by (with_reducible repeat (first | apply Kd.R_alloc | apply Kd.R_drewN | apply Kd.R_drew)); exact HO_10.out⟩, ⟨by (with_reducible repeat (first | refine blk_drewN ?_ _ | refine blk_drew ?_ | refine blk_alloc ?_ _)); exact BK9001.out⟩, ⟨by repeat (first | (with_reducible first | exact HB.out | apply below_alloc | apply pw_below_drewN | apply below_drew1 | refine below_set ?_ GE9001.out) | exact HB.out)⟩⟩
                      case rest =>
                        clear HC30
                        try clear c1
                        try clear c2
                        try clear p2
                        try clear c3
                        try clear c5
                        try clear p6
                        try clear c8
                        try clear c15
                        try clear c15b0
                        try clear c15b1
                        try clear c16
                        try clear c17
                        try clear c17b0
                        try clear c17b1
                        try clear c17b2
                        try clear c21
                        try clear c21b0
                        try clear c21b1
                        try clear c21b2
                        try clear c22
                        try clear c22b0
                        try clear c28
                        try clear c29
                        try clear c29b0
                        try clear c32
                        try clear c32b0
                        try clear hcz11_0
                        try clear hcz11_1
                        try clear hcz11_2
                        try clear hcz11_3
                        try clear hcz11_4
                        try clear hcz11_5
                        try clear hcz13_0
                        try clear hcz13_1
                        try clear hcz13_2
                        try clear hcz13_3
                        try clear hcz13_4
                        try clear hcz13_5
                        try clear hcz24_0
                        try clear hcz24_1
                        try clear hcz24_2
                        try clear hcz24_3
                        try clear hcz24_4
                        try clear hcz24_5
                        try clear hcz26_0
                        try clear hcz26_1
                        try clear hcz26_2
                        try clear hcz26_3
                        try clear hcz26_4
                        try clear hcz26_5
                        try clear hcz31_0
                        try clear hcz31_1
                        try clear hcz31_2
                        try clear hcz31_3
                        try clear hcz31_4
                        try clear hcz31_5
                        try clear hfz11_0
                        try clear hfz11_1
                        try clear hfz11_2
                        try clear hfz11_3
                        try clear hfz11_4
                        try clear hfz11_5
                        try clear hfz13_0
                        try clear hfz13_1
                        try clear hfz13_2
                        try clear hfz13_3
                        try clear hfz13_4
                        try clear hfz13_5
                        try clear hfz24_0
                        try clear hfz24_1
                        try clear hfz24_2
                        try clear hfz24_3
                        try clear hfz24_4
                        try clear hfz24_5
                        try clear hfz26_0
                        try clear hfz26_1
                        try clear hfz26_2
                        try clear hfz26_3
                        try clear hfz26_4
                        try clear hfz26_5
                        try clear hfz31_0
                        try clear hfz31_1
                        try clear hfz31_2
                        try clear hfz31_3
                        try clear hfz31_4
                        try clear hfz31_5
                        try clear p2
                        try clear p6
                        obtain ⟨kq, x98_29, rfl, HA, HJ29, HO_10, BK9001, HB⟩ := hcut
                        cases kq with
                        | zero => exact absurd HA.out (by simp [tinderlaw21_LabelApart.j3])
                        | succ kj29 =>
                          have H := HA.out
                          clear HA
                          simp only [tinderlaw21_LabelApart.j3] at H
                          by_cases c33 : x98_29 = true
                          · subst c33
                            have H1 : (if 0 ≤ x12_3 then (if x12_3 < (t9006.length : Int) then (if 0 ≤ (wrap64 ((wrap64 (x12_3 - t9003)) - a1_1)) then (if (wrap64 ((wrap64 (x12_3 - t9003)) - a1_1)) < (l2.length : Int) then (if (rd t9006 x12_3) = (rd l2 (wrap64 ((wrap64 (x12_3 - t9003)) - a1_1))) then (tinderlaw21_LabelApart.l0 kj29 l0 l2 t9003 t9004 t9006 (wrap64 (x12_3 + 1)) a1_0 a1_1 a1_2 a1_3 a1_4 a1_5) else (some false)) else (none)) else (none)) else (none)) else (none)) = some r := by rw [if_pos rfl] at H; exact H
                            clear H
                            have H := H1
                            clear H1
                            by_cases c34 : 0 ≤ x12_3
                            · rw [if_pos c34] at H
                              have c34b0 : decide (0 ≤ x12_3) = true := decide_eq_true c34
                              clear c34
                              by_cases c35 : x12_3 < (t9006.length : Int)
                              · rw [if_pos c35] at H
                                have c35b0 : decide (x12_3 < (t9006.length : Int)) = true := decide_eq_true c35
                                clear c35
                                obtain ⟨ji36, hji36⟩ : ∃ j_ : Int, (wrap64 ((wrap64 (x12_3 - t9003)) - a1_1)) = j_ := ⟨_, rfl⟩
                                replace H : (if 0 ≤ (ji36) then (if (ji36) < (l2.length : Int) then (if (rd t9006 x12_3) = (rd l2 (ji36)) then (tinderlaw21_LabelApart.l0 kj29 l0 l2 t9003 t9004 t9006 (wrap64 (x12_3 + 1)) a1_0 a1_1 a1_2 a1_3 a1_4 a1_5) else (some false)) else (none)) else (none)) = some r := by first | (rw [hji36] at H; exact H) | (simp only [hji36] at H ⊢; exact H)
                                have hji36w : (IntKind.i64.wrap ((wrap64 (x12_3 - t9003)) - a1_1)) = ji36 := (i64_w _).trans hji36
                                by_cases c37 : 0 ≤ (ji36)
                                · rw [if_pos c37] at H
                                  have c37b0 : decide (0 ≤ (ji36)) = true := decide_eq_true c37
                                  clear c37
                                  by_cases c38 : (ji36) < (l2.length : Int)
                                  · rw [if_pos c38] at H
                                    have c38b0 : decide ((ji36) < (l2.length : Int)) = true := decide_eq_true c38
                                    clear c38
                                    by_cases c39 : (rd t9006 x12_3) = (rd l2 (ji36))
                                    · rw [if_pos c39] at H
                                      have c39b0 : ((rd t9006 x12_3) == (rd l2 (ji36))) = true := beq_iff_eq.mpr c39
                                      have c39b1 : ((rd t9006 x12_3) != (rd l2 (ji36))) = false := bne_eq_false_iff_eq.mpr c39
                                      clear c39
                                      have H' := Aside0.mk H
                                      clear H
                                      obtain ⟨Ao40, co40, eo40⟩ := Kd.R_slice HO_10.out
                                      subst eo40
                                      have p9010 : 0 ≤ (x12_3 : Int) := of_decide_eq_true (by first | (with_reducible assumption) | assumption)
                                      have q9010 : x12_3 < (t9006.length : Int) := of_decide_eq_true (by first | (with_reducible assumption) | assumption)
                                      obtain ⟨ad9010, e9010, hx9010_0⟩ := Kd.at_int (Kd.R_reads' HO_10.out).2.2 x12_3 p9010 q9010
                                      cases e9010
                                      replace p9010 := eq_true p9010
                                      replace q9010 := eq_true q9010
                                      have p9011 : 0 ≤ ((ji36) : Int) := of_decide_eq_true (by first | (with_reducible assumption) | assumption)
                                      have q9011 : (ji36) < (l2.length : Int) := of_decide_eq_true (by first | (with_reducible assumption) | assumption)
                                      obtain ⟨ad9011, e9011, hx9011_0⟩ := Kd.at_int HR2.out (ji36) p9011 q9011
                                      cases e9011
                                      replace hx9011_0 := (HB.out.cell (World.block_lt_of_cell? w _ hx9011_0)).trans hx9011_0
                                      replace p9011 := eq_true p9011
                                      replace q9011 := eq_true q9011
                                      go_wp2
                                      repeat (go_quiet (fail); try go_wp2)
                                      go_roundg kj29
                                      case measure => have := HJ7.out; have := HJ19.out; have := HK3.out; have := HJ29.out; omega
                                      case rel => exact ⟨(wrap64 (x12_3 + 1)), (by first | rfl | (simp; done) | (simp [*]; done)), H', ⟨by have := HJ7.out; have := HJ19.out; have := HK3.out; have := HJ29.out; omega⟩, ⟨by (with_reducible repeat (first | apply Kd.R_alloc | apply Kd.R_drewN | apply Kd.R_drew)); exact HO_10.out⟩, ⟨by (with_reducible repeat (first | refine blk_drewN ?_ _ | refine blk_drew ?_ | refine blk_alloc ?_ _)); exact BK9001.out⟩, ⟨by repeat (first | (with_reducible first | exact HB.out | apply below_alloc | apply pw_below_drewN | apply below_drew1 | refine below_set ?_ GE9001.out) | exact HB.out)⟩⟩
                                    · rw [if_neg c39] at H
                                      have c39b0 : ((rd t9006 x12_3) == (rd l2 (ji36))) = false := beq_eq_false_iff_ne.mpr c39
                                      have c39b1 : ((rd t9006 x12_3) != (rd l2 (ji36))) = true := bne_iff_ne.mpr c39
                                      obtain rfl := Option.some.inj H
                                      obtain ⟨Ao41, co41, eo41⟩ := Kd.R_slice HO_10.out
                                      subst eo41
                                      have p9010 : 0 ≤ (x12_3 : Int) := of_decide_eq_true (by first | (with_reducible assumption) | assumption)
                                      have q9010 : x12_3 < (t9006.length : Int) := of_decide_eq_true (by first | (with_reducible assumption) | assumption)
                                      obtain ⟨ad9010, e9010, hx9010_0⟩ := Kd.at_int (Kd.R_reads' HO_10.out).2.2 x12_3 p9010 q9010
                                      cases e9010
                                      replace p9010 := eq_true p9010
                                      replace q9010 := eq_true q9010
                                      have p9011 : 0 ≤ ((ji36) : Int) := of_decide_eq_true (by first | (with_reducible assumption) | assumption)
                                      have q9011 : (ji36) < (l2.length : Int) := of_decide_eq_true (by first | (with_reducible assumption) | assumption)
                                      obtain ⟨ad9011, e9011, hx9011_0⟩ := Kd.at_int HR2.out (ji36) p9011 q9011
                                      cases e9011
                                      replace hx9011_0 := (HB.out.cell (World.block_lt_of_cell? w _ hx9011_0)).trans hx9011_0
                                      replace p9011 := eq_true p9011
                                      replace q9011 := eq_true q9011
                                      go_wp2
                                      repeat (go_quiet (fail); try go_wp2)
                                      go_ret
                                      exact ⟨by first | rfl | (simp [errW_none, errW_some] <;> rfl) | (simp only [← hji36]; first | rfl | (simp [errW_none, errW_some] <;> rfl)) | (simp [*, errW_none, errW_some] <;> rfl), by repeat (first | (with_reducible first | exact HB.out | apply below_alloc | apply pw_below_drewN | apply below_drew1 | refine below_set ?_ GE9001.out) | exact HB.out)⟩
                                  · rw [if_neg c38] at H
                                    exact absurd H (by simp)
                                · rw [if_neg c37] at H
                                  exact absurd H (by simp)
                              · rw [if_neg c35] at H
                                exact absurd H (by simp)
                            · rw [if_neg c34] at H
                              exact absurd H (by simp)
                          · replace c33 := Bool.eq_false_iff.mpr c33
                            subst c33
                            have H1 : (if 0 ≤ x12_3 then (if x12_3 < (t9006.length : Int) then (if x12_3 < (l0.length : Int) then (if (rd t9006 x12_3) = (rd l0 x12_3) then (tinderlaw21_LabelApart.l0 kj29 l0 l2 t9003 t9004 t9006 (wrap64 (x12_3 + 1)) a1_0 a1_1 a1_2 a1_3 a1_4 a1_5) else (some false)) else (none)) else (none)) else (none)) = some r := by rw [if_neg (show ¬ (false = true) by decide)] at H; exact H
                            clear H
                            have H := H1
                            clear H1
                            by_cases c42 : 0 ≤ x12_3
                            · rw [if_pos c42] at H
                              have c42b0 : decide (0 ≤ x12_3) = true := decide_eq_true c42
                              clear c42
                              by_cases c43 : x12_3 < (t9006.length : Int)
                              · rw [if_pos c43] at H
                                have c43b0 : decide (x12_3 < (t9006.length : Int)) = true := decide_eq_true c43
                                clear c43
                                by_cases c44 : x12_3 < (l0.length : Int)
                                · rw [if_pos c44] at H
                                  have c44b0 : decide (x12_3 < (l0.length : Int)) = true := decide_eq_true c44
                                  clear c44
                                  by_cases c45 : (rd t9006 x12_3) = (rd l0 x12_3)
                                  · rw [if_pos c45] at H
                                    have c45b0 : ((rd t9006 x12_3) == (rd l0 x12_3)) = true := beq_iff_eq.mpr c45
                                    have c45b1 : ((rd t9006 x12_3) != (rd l0 x12_3)) = false := bne_eq_false_iff_eq.mpr c45
                                    clear c45
                                    have H' := Aside0.mk H
                                    clear H
                                    obtain ⟨Ao46, co46, eo46⟩ := Kd.R_slice HO_10.out
                                    subst eo46
                                    have p9012 : 0 ≤ (x12_3 : Int) := of_decide_eq_true (by first | (with_reducible assumption) | assumption)
                                    have q9012 : x12_3 < (t9006.length : Int) := of_decide_eq_true (by first | (with_reducible assumption) | assumption)
                                    obtain ⟨ad9012, e9012, hx9012_0⟩ := Kd.at_int (Kd.R_reads' HO_10.out).2.2 x12_3 p9012 q9012
                                    cases e9012
                                    replace p9012 := eq_true p9012
                                    replace q9012 := eq_true q9012
                                    have p9013 : 0 ≤ (x12_3 : Int) := of_decide_eq_true (by first | (with_reducible assumption) | assumption)
                                    have q9013 : x12_3 < (l0.length : Int) := of_decide_eq_true (by first | (with_reducible assumption) | assumption)
                                    obtain ⟨ad9013, e9013, hx9013_0⟩ := Kd.at_int HR0.out x12_3 p9013 q9013
                                    cases e9013
                                    replace hx9013_0 := (HB.out.cell (World.block_lt_of_cell? w _ hx9013_0)).trans hx9013_0
                                    replace p9013 := eq_true p9013
                                    replace q9013 := eq_true q9013
                                    go_wp2
                                    repeat (go_quiet (fail); try go_wp2)
                                    go_roundg kj29
                                    case measure => have := HJ7.out; have := HJ19.out; have := HK3.out; have := HJ29.out; omega
                                    case rel => exact ⟨(wrap64 (x12_3 + 1)), (by first | rfl | (simp; done) | (simp [*]; done)), H', ⟨by have := HJ7.out; have := HJ19.out; have := HK3.out; have := HJ29.out; omega⟩, ⟨by (with_reducible repeat (first | apply Kd.R_alloc | apply Kd.R_drewN | apply Kd.R_drew)); exact HO_10.out⟩, ⟨by (with_reducible repeat (first | refine blk_drewN ?_ _ | refine blk_drew ?_ | refine blk_alloc ?_ _)); exact BK9001.out⟩, ⟨by repeat (first | (with_reducible first | exact HB.out | apply below_alloc | apply pw_below_drewN | apply below_drew1 | refine below_set ?_ GE9001.out) | exact HB.out)⟩⟩
                                  · rw [if_neg c45] at H
                                    have c45b0 : ((rd t9006 x12_3) == (rd l0 x12_3)) = false := beq_eq_false_iff_ne.mpr c45
                                    have c45b1 : ((rd t9006 x12_3) != (rd l0 x12_3)) = true := bne_iff_ne.mpr c45
                                    obtain rfl := Option.some.inj H
                                    obtain ⟨Ao47, co47, eo47⟩ := Kd.R_slice HO_10.out
                                    subst eo47
                                    have p9012 : 0 ≤ (x12_3 : Int) := of_decide_eq_true (by first | (with_reducible assumption) | assumption)
                                    have q9012 : x12_3 < (t9006.length : Int) := of_decide_eq_true (by first | (with_reducible assumption) | assumption)
                                    obtain ⟨ad9012, e9012, hx9012_0⟩ := Kd.at_int (Kd.R_reads' HO_10.out).2.2 x12_3 p9012 q9012
                                    cases e9012
                                    replace p9012 := eq_true p9012
                                    replace q9012 := eq_true q9012
                                    have p9013 : 0 ≤ (x12_3 : Int) := of_decide_eq_true (by first | (with_reducible assumption) | assumption)
                                    have q9013 : x12_3 < (l0.length : Int) := of_decide_eq_true (by first | (with_reducible assumption) | assumption)
                                    obtain ⟨ad9013, e9013, hx9013_0⟩ := Kd.at_int HR0.out x12_3 p9013 q9013
                                    cases e9013
                                    replace hx9013_0 := (HB.out.cell (World.block_lt_of_cell? w _ hx9013_0)).trans hx9013_0
                                    replace p9013 := eq_true p9013
                                    replace q9013 := eq_true q9013
                                    go_wp2
                                    repeat (go_quiet (fail); try go_wp2)
                                    go_ret
                                    exact ⟨by first | rfl | (simp [errW_none, errW_some] <;> rfl) | (simp [*, errW_none, errW_some] <;> rfl), by repeat (first | (with_reducible first | exact HB.out | apply below_alloc | apply pw_below_drewN | apply below_drew1 | refine below_set ?_ GE9001.out) | exact HB.out)⟩
                                · rw [if_neg c44] at H
                                  exact absurd H (by simp)
                              · rw [if_neg c43] at H
                                exact absurd H (by simp)
                            · rw [if_neg c42] at H
                              exact absurd H (by simp)
                    · rw [if_neg c29] at H
                      have c29b0 : decide (x12_3 < (l0.length : Int)) = false := decide_eq_false c29
                      clear c29
                      replace H := Option.bind_eq_some_iff.mp H
                      obtain ⟨⟨t9014, t9015, t9016⟩, A480, H⟩ := H
                      replace H : (if t9016 = 0 then (if t9003 < 512 then (tinderlaw21_LabelApart.j4 k3 l0 t9006 true a1_0 a1_1 a1_2 a1_3 a1_4 a1_5) else (if t9014 < (wrap64 (t9003 + t9004)) then (tinderlaw21_LabelApart.j4 k3 l0 t9006 (decide (t9003 < (wrap64 (t9014 + t9015)))) a1_0 a1_1 a1_2 a1_3 a1_4 a1_5) else (tinderlaw21_LabelApart.j4 k3 l0 t9006 false a1_0 a1_1 a1_2 a1_3 a1_4 a1_5))) else (tinderlaw21_LabelApart.j4 k3 l0 t9006 true a1_0 a1_1 a1_2 a1_3 a1_4 a1_5)) = some r := H
                      have A48 := Aside0.mk A480
                      clear A480
                      have HC49 := Aside0.mk H
                      clear H
                      have hcz50_0 : wr.cell? ⟨gb9001, 0, none⟩ = some (.string a1_0) := (blk_cell BK9001.out 0).trans rfl
                      have hcz50_1 : wr.cell? ⟨gb9001, 1, none⟩ = some (.int .i64 a1_1) := (blk_cell BK9001.out 1).trans rfl
                      have hcz50_2 : wr.cell? ⟨gb9001, 2, none⟩ = some (.int .i64 a1_2) := (blk_cell BK9001.out 2).trans rfl
                      have hcz50_3 : wr.cell? ⟨gb9001, 3, none⟩ = some (.string a1_3) := (blk_cell BK9001.out 3).trans rfl
                      have hcz50_4 : wr.cell? ⟨gb9001, 4, none⟩ = some (.int .i64 a1_4) := (blk_cell BK9001.out 4).trans rfl
                      have hcz50_5 : wr.cell? ⟨gb9001, 5, none⟩ = some (.int .i64 a1_5) := (blk_cell BK9001.out 5).trans rfl
                      have hfz50_0 := blk_frozen BK9001.out 0
                      have hfz50_1 := blk_frozen BK9001.out 1
                      have hfz50_2 := blk_frozen BK9001.out 2
                      have hfz50_3 := blk_frozen BK9001.out 3
                      have hfz50_4 := blk_frozen BK9001.out 4
                      have hfz50_5 := blk_frozen BK9001.out 5
                      go_upto_region 19 with (first | (go_at_call 18; (with_reducible refine (label_Window.calls _ _ l0 a1_3 t9014 t9015 t9016 _ ?side1 ?side2 A48.out).mono ?_); (case side1 => repeat (first | exact (Kd.C_below HR0.out HB.out) | (with_reducible refine Kd.C_alloc ?_ _) | (with_reducible refine Kd.C_drewN ?_ _) | (with_reducible refine Kd.C_drew ?_))); (case side2 => exact HC0.out); rintro e w51 ⟨rfl, hb⟩; have n0_ := Aside0.mk (Kd.R_below (by (with_reducible repeat (first | apply Kd.R_alloc | apply Kd.R_drewN | apply Kd.R_drew)); exact HO_10.out) hb); have n1_ := Aside0.mk (blk_below (g := gb9001) (o := .cells #[.string a1_0, .int .i64 a1_1, .int .i64 a1_2, .string a1_3, .int .i64 a1_4, .int .i64 a1_5] 49 (0, 0)) (by (with_reducible repeat (first | refine blk_drewN ?_ _ | refine blk_drew ?_ | refine blk_alloc ?_ _)); exact BK9001.out) hb); have n2_ := Aside0.mk (below_step (by repeat (first | (with_reducible first | exact HB.out | apply below_alloc | apply pw_below_drewN | apply below_drew1 | refine below_set ?_ GE9001.out) | exact HB.out)) hb); clear HO_10; clear BK9001; clear HB; have HO_10 := n0_; have BK9001 := n1_; have HB := n2_; clear n0_ n1_ n2_; (try clear hb); (try clear hb2); (try clear hk); (try clear hi)))
                      repeat (go_quiet (first | (go_at_call 18; (with_reducible refine (label_Window.calls _ _ l0 a1_3 t9014 t9015 t9016 _ ?side1 ?side2 A48.out).mono ?_); (case side1 => repeat (first | exact (Kd.C_below HR0.out HB.out) | (with_reducible refine Kd.C_alloc ?_ _) | (with_reducible refine Kd.C_drewN ?_ _) | (with_reducible refine Kd.C_drew ?_))); (case side2 => exact HC0.out); rintro e w51 ⟨rfl, hb⟩; have n0_ := Aside0.mk (Kd.R_below (by (with_reducible repeat (first | apply Kd.R_alloc | apply Kd.R_drewN | apply Kd.R_drew)); exact HO_10.out) hb); have n1_ := Aside0.mk (blk_below (g := gb9001) (o := .cells #[.string a1_0, .int .i64 a1_1, .int .i64 a1_2, .string a1_3, .int .i64 a1_4, .int .i64 a1_5] 49 (0, 0)) (by (with_reducible repeat (first | refine blk_drewN ?_ _ | refine blk_drew ?_ | refine blk_alloc ?_ _)); exact BK9001.out) hb); have n2_ := Aside0.mk (below_step (by repeat (first | (with_reducible first | exact HB.out | apply below_alloc | apply pw_below_drewN | apply below_drew1 | refine below_set ?_ GE9001.out) | exact HB.out)) hb); clear HO_10; clear BK9001; clear HB; have HO_10 := n0_; have BK9001 := n1_; have HB := n2_; clear n0_ n1_ n2_; (try clear hb); (try clear hb2); (try clear hk); (try clear hi))); go_upto_region 19 with (first | (go_at_call 18; (with_reducible refine (label_Window.calls _ _ l0 a1_3 t9014 t9015 t9016 _ ?side1 ?side2 A48.out).mono ?_); (case side1 => repeat (first | exact (Kd.C_below HR0.out HB.out) | (with_reducible refine Kd.C_alloc ?_ _) | (with_reducible refine Kd.C_drewN ?_ _) | (with_reducible refine Kd.C_drew ?_))); (case side2 => exact HC0.out); rintro e w51 ⟨rfl, hb⟩; have n0_ := Aside0.mk (Kd.R_below (by (with_reducible repeat (first | apply Kd.R_alloc | apply Kd.R_drewN | apply Kd.R_drew)); exact HO_10.out) hb); have n1_ := Aside0.mk (blk_below (g := gb9001) (o := .cells #[.string a1_0, .int .i64 a1_1, .int .i64 a1_2, .string a1_3, .int .i64 a1_4, .int .i64 a1_5] 49 (0, 0)) (by (with_reducible repeat (first | refine blk_drewN ?_ _ | refine blk_drew ?_ | refine blk_alloc ?_ _)); exact BK9001.out) hb); have n2_ := Aside0.mk (below_step (by repeat (first | (with_reducible first | exact HB.out | apply below_alloc | apply pw_below_drewN | apply below_drew1 | refine below_set ?_ GE9001.out) | exact HB.out)) hb); clear HO_10; clear BK9001; clear HB; have HO_10 := n0_; have BK9001 := n1_; have HB := n2_; clear n0_ n1_ n2_; (try clear hb); (try clear hb2); (try clear hk); (try clear hi))))
                      (try simp only [Act.put, List.setIfInBounds_toArray, List.set_cons_zero, List.set_cons_succ])
                      go_cut [145] (fun v145 wc => ∃ (kq : Nat) (x145_48 : Bool), v145 = .bool x145_48 ∧ Aside0 (tinderlaw21_LabelApart.j4 kq l0 t9006 x145_48 a1_0 a1_1 a1_2 a1_3 a1_4 a1_5 = some r) ∧ Aside0 (kq ≤ k3) ∧ Aside0 (Kd.R (Kd.int .u8) 5 wc w.heap.size (fun _ => True) v9008 t9006) ∧ Aside0 (wc.heap[gb9001]? = some (.cells #[.string a1_0, .int .i64 a1_1, .int .i64 a1_2, .string a1_3, .int .i64 a1_4, .int .i64 a1_5] 49 (0, 0))) ∧ Aside0 (Below w.heap.size w wc))
                      case first =>
                        have H := HC49.out
                        clear HC49
                        by_cases c52 : t9016 = 0
                        · rw [if_pos c52] at H
                          have c52b0 : (t9016 == 0) = true := beq_iff_eq.mpr c52
                          have c52b1 : (t9016 != 0) = false := bne_eq_false_iff_eq.mpr c52
                          clear c52
                          (first | rw [c52b0] | (simp only [i64_w, i32_w]; rw [c52b0]) | skip)
                          by_cases c53 : t9003 < 512
                          · rw [if_pos c53] at H
                            have c53b0 : decide (t9003 < 512) = true := decide_eq_true c53
                            clear c53
                            have H' := Aside0.mk H
                            clear H
                            go_wp2
                            repeat (go_quiet (fail); try go_wp2)
                            go_meet
                            case rel => exact ⟨_, (true), (by first | rfl | (simp; done) | (simp [*]; done)), H', ⟨by have := HJ7.out; have := HJ19.out; have := HK3.out; first | omega | exact Nat.le_refl _⟩, ⟨by (with_reducible repeat (first | apply Kd.R_alloc | apply Kd.R_drewN | apply Kd.R_drew)); exact HO_10.out⟩, ⟨by (with_reducible repeat (first | refine blk_drewN ?_ _ | refine blk_drew ?_ | refine blk_alloc ?_ _)); exact BK9001.out⟩, ⟨by repeat (first | (with_reducible first | exact HB.out | apply below_alloc | apply pw_below_drewN | apply below_drew1 | refine below_set ?_ GE9001.out) | exact HB.out)⟩⟩
                          · rw [if_neg c53] at H
                            have c53b0 : decide (t9003 < 512) = false := decide_eq_false c53
                            clear c53
                            by_cases c54 : t9014 < (wrap64 (t9003 + t9004))
                            · rw [if_pos c54] at H
                              have c54b0 : decide (t9014 < (wrap64 (t9003 + t9004))) = true := decide_eq_true c54
                              clear c54
                              have H' := Aside0.mk H
                              clear H
                              go_wp2
                              repeat (go_quiet (fail); try go_wp2)
                              go_meet
                              case rel => exact ⟨_, (decide (t9003 < (wrap64 (t9014 + t9015)))), (by first | rfl | (simp; done) | (simp [*]; done)), H', ⟨by have := HJ7.out; have := HJ19.out; have := HK3.out; first | omega | exact Nat.le_refl _⟩, ⟨by (with_reducible repeat (first | apply Kd.R_alloc | apply Kd.R_drewN | apply Kd.R_drew)); exact HO_10.out⟩, ⟨by (with_reducible repeat (first | refine blk_drewN ?_ _ | refine blk_drew ?_ | refine blk_alloc ?_ _)); exact BK9001.out⟩, ⟨by repeat (first | (with_reducible first | exact HB.out | apply below_alloc | apply pw_below_drewN | apply below_drew1 | refine below_set ?_ GE9001.out) | exact HB.out)⟩⟩
                            · rw [if_neg c54] at H
                              have c54b0 : decide (t9014 < (wrap64 (t9003 + t9004))) = false := decide_eq_false c54
                              clear c54
                              have H' := Aside0.mk H
                              clear H
                              go_wp2
                              repeat (go_quiet (fail); try go_wp2)
                              go_meet
                              case rel => exact ⟨_, (false), (by first | rfl | (simp; done) | (simp [*]; done)), H', ⟨by have := HJ7.out; have := HJ19.out; have := HK3.out; first | omega | exact Nat.le_refl _⟩, ⟨by (with_reducible repeat (first | apply Kd.R_alloc | apply Kd.R_drewN | apply Kd.R_drew)); exact HO_10.out⟩, ⟨by (with_reducible repeat (first | refine blk_drewN ?_ _ | refine blk_drew ?_ | refine blk_alloc ?_ _)); exact BK9001.out⟩, ⟨by repeat (first | (with_reducible first | exact HB.out | apply below_alloc | apply pw_below_drewN | apply below_drew1 | refine below_set ?_ GE9001.out) | exact HB.out)⟩⟩
                        · rw [if_neg c52] at H
                          have c52b0 : (t9016 == 0) = false := beq_eq_false_iff_ne.mpr c52
                          have c52b1 : (t9016 != 0) = true := bne_iff_ne.mpr c52
                          (first | rw [c52b0] | (simp only [i64_w, i32_w]; rw [c52b0]) | skip)
                          have H' := Aside0.mk H
                          clear H
                          go_wp2
                          repeat (go_quiet (fail); try go_wp2)
                          go_meet
                          case rel => exact ⟨_, (true), (by first | rfl | (simp; done) | (simp [*]; done)), H', ⟨by have := HJ7.out; have := HJ19.out; have := HK3.out; first | omega | exact Nat.le_refl _⟩, ⟨by (with_reducible repeat (first | apply Kd.R_alloc | apply Kd.R_drewN | apply Kd.R_drew)); exact HO_10.out⟩, ⟨by (with_reducible repeat (first | refine blk_drewN ?_ _ | refine blk_drew ?_ | refine blk_alloc ?_ _)); exact BK9001.out⟩, ⟨by repeat (first | (with_reducible first | exact HB.out | apply below_alloc | apply pw_below_drewN | apply below_drew1 | refine below_set ?_ GE9001.out) | exact HB.out)⟩⟩
                      case rest =>
                        clear HC49
                        try clear c1
                        try clear c2
                        try clear p2
                        try clear c3
                        try clear c4
                        try clear c5
                        try clear p6
                        try clear c8
                        try clear p9
                        try clear q9
                        try clear hx9
                        try clear c15
                        try clear c15b0
                        try clear c15b1
                        try clear c16
                        try clear c17
                        try clear c17b0
                        try clear c17b1
                        try clear c17b2
                        try clear c21
                        try clear c21b0
                        try clear c21b1
                        try clear c21b2
                        try clear c22
                        try clear c22b0
                        try clear c28
                        try clear c29
                        try clear c29b0
                        try clear c32
                        try clear c32b0
                        try clear c33
                        try clear c34
                        try clear c34b0
                        try clear c35
                        try clear c35b0
                        try clear c37
                        try clear c37b0
                        try clear c38
                        try clear c38b0
                        try clear c39
                        try clear c39b0
                        try clear c39b1
                        try clear c42
                        try clear c42b0
                        try clear c43
                        try clear c43b0
                        try clear c44
                        try clear c44b0
                        try clear c45
                        try clear c45b0
                        try clear c45b1
                        try clear c52
                        try clear c52b0
                        try clear c52b1
                        try clear c53
                        try clear c53b0
                        try clear c54
                        try clear c54b0
                        try clear hcz11_0
                        try clear hcz11_1
                        try clear hcz11_2
                        try clear hcz11_3
                        try clear hcz11_4
                        try clear hcz11_5
                        try clear hcz13_0
                        try clear hcz13_1
                        try clear hcz13_2
                        try clear hcz13_3
                        try clear hcz13_4
                        try clear hcz13_5
                        try clear hcz24_0
                        try clear hcz24_1
                        try clear hcz24_2
                        try clear hcz24_3
                        try clear hcz24_4
                        try clear hcz24_5
                        try clear hcz26_0
                        try clear hcz26_1
                        try clear hcz26_2
                        try clear hcz26_3
                        try clear hcz26_4
                        try clear hcz26_5
                        try clear hcz31_0
                        try clear hcz31_1
                        try clear hcz31_2
                        try clear hcz31_3
                        try clear hcz31_4
                        try clear hcz31_5
                        try clear hcz50_0
                        try clear hcz50_1
                        try clear hcz50_2
                        try clear hcz50_3
                        try clear hcz50_4
                        try clear hcz50_5
                        try clear hfz11_0
                        try clear hfz11_1
                        try clear hfz11_2
                        try clear hfz11_3
                        try clear hfz11_4
                        try clear hfz11_5
                        try clear hfz13_0
                        try clear hfz13_1
                        try clear hfz13_2
                        try clear hfz13_3
                        try clear hfz13_4
                        try clear hfz13_5
                        try clear hfz24_0
                        try clear hfz24_1
                        try clear hfz24_2
                        try clear hfz24_3
                        try clear hfz24_4
                        try clear hfz24_5
                        try clear hfz26_0
                        try clear hfz26_1
                        try clear hfz26_2
                        try clear hfz26_3
                        try clear hfz26_4
                        try clear hfz26_5
                        try clear hfz31_0
                        try clear hfz31_1
                        try clear hfz31_2
                        try clear hfz31_3
                        try clear hfz31_4
                        try clear hfz31_5
                        try clear hfz50_0
                        try clear hfz50_1
                        try clear hfz50_2
                        try clear hfz50_3
                        try clear hfz50_4
                        try clear hfz50_5
                        try clear hx9010_0
                        try clear hx9011_0
                        try clear hx9012_0
                        try clear hx9013_0
                        try clear p2
                        try clear p6
                        try clear p9010
                        try clear p9011
                        try clear p9012
                        try clear p9013
                        try clear q9010
                        try clear q9011
                        try clear q9012
                        try clear q9013
                        obtain ⟨kq, x145_48, rfl, HA, HJ48, HO_10, BK9001, HB⟩ := hcut
                        cases kq with
                        | zero => exact absurd HA.out (by simp [tinderlaw21_LabelApart.j4])
                        | succ kj48 =>
                          have H := HA.out
                          clear HA
                          simp only [tinderlaw21_LabelApart.j4] at H
                          by_cases c55 : x145_48 = true
                          · subst c55
                            have H1 : (some true) = some r := by rw [if_pos rfl] at H; exact H
                            clear H
                            have H := H1
                            clear H1
                            obtain rfl := Option.some.inj H
                            go_wp2
                            repeat (go_quiet (fail); try go_wp2)
                            go_ret
                            exact ⟨by first | rfl | (simp [errW_none, errW_some] <;> rfl) | (simp [*, errW_none, errW_some] <;> rfl), by repeat (first | (with_reducible first | exact HB.out | apply below_alloc | apply pw_below_drewN | apply below_drew1 | refine below_set ?_ GE9001.out) | exact HB.out)⟩
                          · replace c55 := Bool.eq_false_iff.mpr c55
                            subst c55
                            have H1 : ((label_Get.f kj48 l0 a1_3 a1_4 a1_5).bind fun bt9017 => ((label_Get.f kj48 t9006 a1_3 a1_4 a1_5).bind fun bt9021 => (if bt9017.2 = bt9021.2 then ((tinderref04_Same.f bt9017.1 bt9021.1).bind fun t9025 => (some t9025)) else (some false)))) = some r := by rw [if_neg (show ¬ (false = true) by decide)] at H; exact H
                            clear H
                            have H := H1
                            clear H1
                            replace H := Option.bind_eq_some_iff.mp H
                            obtain ⟨⟨t9017, t9018⟩, A560, H⟩ := H
                            replace H : ((label_Get.f kj48 t9006 a1_3 a1_4 a1_5).bind fun bt9021 => (if t9018 = bt9021.2 then ((tinderref04_Same.f t9017 bt9021.1).bind fun t9025 => (some t9025)) else (some false))) = some r := H
                            have A56 := Aside0.mk A560
                            clear A560
                            replace H := Option.bind_eq_some_iff.mp H
                            obtain ⟨⟨t9021, t9022⟩, A570, H⟩ := H
                            replace H : (if t9018 = t9022 then ((tinderref04_Same.f t9017 t9021).bind fun t9025 => (some t9025)) else (some false)) = some r := H
                            have A57 := Aside0.mk A570
                            clear A570
                            by_cases c58 : t9018 = t9022
                            · rw [if_pos c58] at H
                              have c58b0 : (t9018 == t9022) = true := beq_iff_eq.mpr c58
                              have c58b1 : (t9018 != t9022) = false := bne_eq_false_iff_eq.mpr c58
                              clear c58
                              replace H := Option.bind_eq_some_iff.mp H
                              obtain ⟨t9025, A590, H⟩ := H
                              replace H : (some t9025) = some r := H
                              have A59 := Aside0.mk A590
                              clear A590
                              obtain rfl := Option.some.inj H
                              have hcz60_0 : wc.cell? ⟨gb9001, 0, none⟩ = some (.string a1_0) := (blk_cell BK9001.out 0).trans rfl
                              have hcz60_1 : wc.cell? ⟨gb9001, 1, none⟩ = some (.int .i64 a1_1) := (blk_cell BK9001.out 1).trans rfl
                              have hcz60_2 : wc.cell? ⟨gb9001, 2, none⟩ = some (.int .i64 a1_2) := (blk_cell BK9001.out 2).trans rfl
                              have hcz60_3 : wc.cell? ⟨gb9001, 3, none⟩ = some (.string a1_3) := (blk_cell BK9001.out 3).trans rfl
                              have hcz60_4 : wc.cell? ⟨gb9001, 4, none⟩ = some (.int .i64 a1_4) := (blk_cell BK9001.out 4).trans rfl
                              have hcz60_5 : wc.cell? ⟨gb9001, 5, none⟩ = some (.int .i64 a1_5) := (blk_cell BK9001.out 5).trans rfl
                              have hfz60_0 := blk_frozen BK9001.out 0
                              have hfz60_1 := blk_frozen BK9001.out 1
                              have hfz60_2 := blk_frozen BK9001.out 2
                              have hfz60_3 := blk_frozen BK9001.out 3
                              have hfz60_4 := blk_frozen BK9001.out 4
                              have hfz60_5 := blk_frozen BK9001.out 5
                              go_wp2_with (first | (go_at_call 20; (with_reducible refine (label_Get.calls kj48 _ _ l0 a1_3 a1_4 a1_5 t9017 t9018 _ ?side1 ?side2 A56.out).mono ?_); (case side1 => repeat (first | exact (Kd.C_below HR0.out HB.out) | (with_reducible refine Kd.C_alloc ?_ _) | (with_reducible refine Kd.C_drewN ?_ _) | (with_reducible refine Kd.C_drew ?_))); (case side2 => exact HC0.out); rintro e w61 ⟨v9019, rfl, ho0, hb⟩; have n0_ := Aside0.mk (Kd.R_elder' (by (with_reducible repeat (first | apply Kd.R_alloc | apply Kd.R_drewN | apply Kd.R_drew)); exact HO_10.out) (Kd.R_base ho0) hb); have n1_ := Aside0.mk (Kd.R_lower (Kd.R_new' ho0 (Kd.R_lt (by (with_reducible repeat (first | apply Kd.R_alloc | apply Kd.R_drewN | apply Kd.R_drew)); exact HO_10.out))) (below_size (by repeat (first | (with_reducible first | exact HB.out | apply below_alloc | apply pw_below_drewN | apply below_drew1 | refine below_set ?_ GE9001.out) | exact HB.out)))); have n2_ := Aside0.mk (blk_below (g := gb9001) (o := .cells #[.string a1_0, .int .i64 a1_1, .int .i64 a1_2, .string a1_3, .int .i64 a1_4, .int .i64 a1_5] 49 (0, 0)) (by (with_reducible repeat (first | refine blk_drewN ?_ _ | refine blk_drew ?_ | refine blk_alloc ?_ _)); exact BK9001.out) hb); have n3_ := Aside0.mk (below_step (by repeat (first | (with_reducible first | exact HB.out | apply below_alloc | apply pw_below_drewN | apply below_drew1 | refine below_set ?_ GE9001.out) | exact HB.out)) hb); clear HO_10; clear BK9001; clear HB; have HO_10 := n0_; have HO9020 := n1_; have BK9001 := n2_; have HB := n3_; clear n0_ n1_ n2_ n3_; (try clear hb); (try clear hb2); (try clear hk); (try clear hi); (try clear ho0); have hcz62_0 : w61.cell? ⟨gb9001, 0, none⟩ = some (.string a1_0) := (blk_cell BK9001.out 0).trans rfl; have hcz62_1 : w61.cell? ⟨gb9001, 1, none⟩ = some (.int .i64 a1_1) := (blk_cell BK9001.out 1).trans rfl; have hcz62_2 : w61.cell? ⟨gb9001, 2, none⟩ = some (.int .i64 a1_2) := (blk_cell BK9001.out 2).trans rfl; have hcz62_3 : w61.cell? ⟨gb9001, 3, none⟩ = some (.string a1_3) := (blk_cell BK9001.out 3).trans rfl; have hcz62_4 : w61.cell? ⟨gb9001, 4, none⟩ = some (.int .i64 a1_4) := (blk_cell BK9001.out 4).trans rfl; have hcz62_5 : w61.cell? ⟨gb9001, 5, none⟩ = some (.int .i64 a1_5) := (blk_cell BK9001.out 5).trans rfl; have hfz62_0 := blk_frozen BK9001.out 0; have hfz62_1 := blk_frozen BK9001.out 1; have hfz62_2 := blk_frozen BK9001.out 2; have hfz62_3 := blk_frozen BK9001.out 3; have hfz62_4 := blk_frozen BK9001.out 4; have hfz62_5 := blk_frozen BK9001.out 5; obtain ⟨Ao63, co63, eo63⟩ := Kd.R_slice HO_10.out; subst eo63) | (go_at_call 20; (with_reducible refine (label_Get.calls kj48 _ _ t9006 a1_3 a1_4 a1_5 t9021 t9022 _ ?side1 ?side2 A57.out).mono ?_); (case side1 => repeat (first | exact (Kd.R_reads' HO_10.out).2.2 | (with_reducible refine Kd.C_alloc ?_ _) | (with_reducible refine Kd.C_drewN ?_ _) | (with_reducible refine Kd.C_drew ?_))); (case side2 => exact (Kd.R_reads' HO_10.out).2.1); rintro e w64 ⟨v9023, rfl, ho0, hb⟩; have n0_ := Aside0.mk (Kd.R_elder' (by (with_reducible repeat (first | apply Kd.R_alloc | apply Kd.R_drewN | apply Kd.R_drew)); exact HO_10.out) (Kd.R_base ho0) hb); have n1_ := Aside0.mk (Kd.R_elder' (by (with_reducible repeat (first | apply Kd.R_alloc | apply Kd.R_drewN | apply Kd.R_drew)); exact HO9020.out) (Kd.R_base ho0) hb); have n2_ := Aside0.mk (Kd.R_lower (Kd.R_new' (Kd.R_new' ho0 (Kd.R_lt (by (with_reducible repeat (first | apply Kd.R_alloc | apply Kd.R_drewN | apply Kd.R_drew)); exact HO_10.out))) (Kd.R_lt (by (with_reducible repeat (first | apply Kd.R_alloc | apply Kd.R_drewN | apply Kd.R_drew)); exact HO9020.out))) (below_size (by repeat (first | (with_reducible first | exact HB.out | apply below_alloc | apply pw_below_drewN | apply below_drew1 | refine below_set ?_ GE9001.out) | exact HB.out)))); have n3_ := Aside0.mk (blk_below (g := gb9001) (o := .cells #[.string a1_0, .int .i64 a1_1, .int .i64 a1_2, .string a1_3, .int .i64 a1_4, .int .i64 a1_5] 49 (0, 0)) (by (with_reducible repeat (first | refine blk_drewN ?_ _ | refine blk_drew ?_ | refine blk_alloc ?_ _)); exact BK9001.out) hb); have n4_ := Aside0.mk (below_step (by repeat (first | (with_reducible first | exact HB.out | apply below_alloc | apply pw_below_drewN | apply below_drew1 | refine below_set ?_ GE9001.out) | exact HB.out)) hb); clear HO_10; clear HO9020; clear BK9001; clear HB; have HO_10 := n0_; have HO9020 := n1_; have HO9024 := n2_; have BK9001 := n3_; have HB := n4_; clear n0_ n1_ n2_ n3_ n4_; (try clear hb); (try clear hb2); (try clear hk); (try clear hi); (try clear ho0); obtain ⟨Ao65, co65, eo65⟩ := Kd.R_slice HO9020.out; subst eo65; obtain ⟨Ao66, co66, eo66⟩ := Kd.R_slice HO9024.out; subst eo66) | (go_at_call 12; (with_reducible refine (tinderref04_Same.calls _ _ t9017 _ _ t9021 t9025 _ ?side1 ?side2 ?side3 ?side4 A59.out).mono ?_); (case side1 => repeat (first | exact (Kd.R_reads' HO9020.out).2.2 | (with_reducible refine Kd.C_alloc ?_ _) | (with_reducible refine Kd.C_drewN ?_ _) | (with_reducible refine Kd.C_drew ?_))); (case side2 => exact (Kd.R_reads' HO9020.out).2.1); (case side3 => repeat (first | exact (Kd.R_reads' HO9024.out).2.2 | (with_reducible refine Kd.C_alloc ?_ _) | (with_reducible refine Kd.C_drewN ?_ _) | (with_reducible refine Kd.C_drew ?_))); (case side4 => exact (Kd.R_reads' HO9024.out).2.1); rintro e w' ⟨rfl, ⟨nd, rfl⟩⟩; (try first | exact ⟨rfl, _, World.drewN_drewN _ _ _⟩ | exact ⟨rfl, _, Eq.trans (World.drewN_drewN _ _ _) (congrArg (World.drewN _) (Nat.add_assoc _ _ _))⟩)))
                              repeat (go_quiet (first | (go_at_call 20; (with_reducible refine (label_Get.calls kj48 _ _ l0 a1_3 a1_4 a1_5 t9017 t9018 _ ?side1 ?side2 A56.out).mono ?_); (case side1 => repeat (first | exact (Kd.C_below HR0.out HB.out) | (with_reducible refine Kd.C_alloc ?_ _) | (with_reducible refine Kd.C_drewN ?_ _) | (with_reducible refine Kd.C_drew ?_))); (case side2 => exact HC0.out); rintro e w61 ⟨v9019, rfl, ho0, hb⟩; have n0_ := Aside0.mk (Kd.R_elder' (by (with_reducible repeat (first | apply Kd.R_alloc | apply Kd.R_drewN | apply Kd.R_drew)); exact HO_10.out) (Kd.R_base ho0) hb); have n1_ := Aside0.mk (Kd.R_lower (Kd.R_new' ho0 (Kd.R_lt (by (with_reducible repeat (first | apply Kd.R_alloc | apply Kd.R_drewN | apply Kd.R_drew)); exact HO_10.out))) (below_size (by repeat (first | (with_reducible first | exact HB.out | apply below_alloc | apply pw_below_drewN | apply below_drew1 | refine below_set ?_ GE9001.out) | exact HB.out)))); have n2_ := Aside0.mk (blk_below (g := gb9001) (o := .cells #[.string a1_0, .int .i64 a1_1, .int .i64 a1_2, .string a1_3, .int .i64 a1_4, .int .i64 a1_5] 49 (0, 0)) (by (with_reducible repeat (first | refine blk_drewN ?_ _ | refine blk_drew ?_ | refine blk_alloc ?_ _)); exact BK9001.out) hb); have n3_ := Aside0.mk (below_step (by repeat (first | (with_reducible first | exact HB.out | apply below_alloc | apply pw_below_drewN | apply below_drew1 | refine below_set ?_ GE9001.out) | exact HB.out)) hb); clear HO_10; clear BK9001; clear HB; have HO_10 := n0_; have HO9020 := n1_; have BK9001 := n2_; have HB := n3_; clear n0_ n1_ n2_ n3_; (try clear hb); (try clear hb2); (try clear hk); (try clear hi); (try clear ho0); have hcz62_0 : w61.cell? ⟨gb9001, 0, none⟩ = some (.string a1_0) := (blk_cell BK9001.out 0).trans rfl; have hcz62_1 : w61.cell? ⟨gb9001, 1, none⟩ = some (.int .i64 a1_1) := (blk_cell BK9001.out 1).trans rfl; have hcz62_2 : w61.cell? ⟨gb9001, 2, none⟩ = some (.int .i64 a1_2) := (blk_cell BK9001.out 2).trans rfl; have hcz62_3 : w61.cell? ⟨gb9001, 3, none⟩ = some (.string a1_3) := (blk_cell BK9001.out 3).trans rfl; have hcz62_4 : w61.cell? ⟨gb9001, 4, none⟩ = some (.int .i64 a1_4) := (blk_cell BK9001.out 4).trans rfl; have hcz62_5 : w61.cell? ⟨gb9001, 5, none⟩ = some (.int .i64 a1_5) := (blk_cell BK9001.out 5).trans rfl; have hfz62_0 := blk_frozen BK9001.out 0; have hfz62_1 := blk_frozen BK9001.out 1; have hfz62_2 := blk_frozen BK9001.out 2; have hfz62_3 := blk_frozen BK9001.out 3; have hfz62_4 := blk_frozen BK9001.out 4; have hfz62_5 := blk_frozen BK9001.out 5; obtain ⟨Ao63, co63, eo63⟩ := Kd.R_slice HO_10.out; subst eo63) | (go_at_call 20; (with_reducible refine (label_Get.calls kj48 _ _ t9006 a1_3 a1_4 a1_5 t9021 t9022 _ ?side1 ?side2 A57.out).mono ?_); (case side1 => repeat (first | exact (Kd.R_reads' HO_10.out).2.2 | (with_reducible refine Kd.C_alloc ?_ _) | (with_reducible refine Kd.C_drewN ?_ _) | (with_reducible refine Kd.C_drew ?_))); (case side2 => exact (Kd.R_reads' HO_10.out).2.1); rintro e w64 ⟨v9023, rfl, ho0, hb⟩; have n0_ := Aside0.mk (Kd.R_elder' (by (with_reducible repeat (first | apply Kd.R_alloc | apply Kd.R_drewN | apply Kd.R_drew)); exact HO_10.out) (Kd.R_base ho0) hb); have n1_ := Aside0.mk (Kd.R_elder' (by (with_reducible repeat (first | apply Kd.R_alloc | apply Kd.R_drewN | apply Kd.R_drew)); exact HO9020.out) (Kd.R_base ho0) hb); have n2_ := Aside0.mk (Kd.R_lower (Kd.R_new' (Kd.R_new' ho0 (Kd.R_lt (by (with_reducible repeat (first | apply Kd.R_alloc | apply Kd.R_drewN | apply Kd.R_drew)); exact HO_10.out))) (Kd.R_lt (by (with_reducible repeat (first | apply Kd.R_alloc | apply Kd.R_drewN | apply Kd.R_drew)); exact HO9020.out))) (below_size (by repeat (first | (with_reducible first | exact HB.out | apply below_alloc | apply pw_below_drewN | apply below_drew1 | refine below_set ?_ GE9001.out) | exact HB.out)))); have n3_ := Aside0.mk (blk_below (g := gb9001) (o := .cells #[.string a1_0, .int .i64 a1_1, .int .i64 a1_2, .string a1_3, .int .i64 a1_4, .int .i64 a1_5] 49 (0, 0)) (by (with_reducible repeat (first | refine blk_drewN ?_ _ | refine blk_drew ?_ | refine blk_alloc ?_ _)); exact BK9001.out) hb); have n4_ := Aside0.mk (below_step (by repeat (first | (with_reducible first | exact HB.out | apply below_alloc | apply pw_below_drewN | apply below_drew1 | refine below_set ?_ GE9001.out) | exact HB.out)) hb); clear HO_10; clear HO9020; clear BK9001; clear HB; have HO_10 := n0_; have HO9020 := n1_; have HO9024 := n2_; have BK9001 := n3_; have HB := n4_; clear n0_ n1_ n2_ n3_ n4_; (try clear hb); (try clear hb2); (try clear hk); (try clear hi); (try clear ho0); obtain ⟨Ao65, co65, eo65⟩ := Kd.R_slice HO9020.out; subst eo65; obtain ⟨Ao66, co66, eo66⟩ := Kd.R_slice HO9024.out; subst eo66) | (go_at_call 12; (with_reducible refine (tinderref04_Same.calls _ _ t9017 _ _ t9021 t9025 _ ?side1 ?side2 ?side3 ?side4 A59.out).mono ?_); (case side1 => repeat (first | exact (Kd.R_reads' HO9020.out).2.2 | (with_reducible refine Kd.C_alloc ?_ _) | (with_reducible refine Kd.C_drewN ?_ _) | (with_reducible refine Kd.C_drew ?_))); (case side2 => exact (Kd.R_reads' HO9020.out).2.1); (case side3 => repeat (first | exact (Kd.R_reads' HO9024.out).2.2 | (with_reducible refine Kd.C_alloc ?_ _) | (with_reducible refine Kd.C_drewN ?_ _) | (with_reducible refine Kd.C_drew ?_))); (case side4 => exact (Kd.R_reads' HO9024.out).2.1); rintro e w' ⟨rfl, ⟨nd, rfl⟩⟩; (try first | exact ⟨rfl, _, World.drewN_drewN _ _ _⟩ | exact ⟨rfl, _, Eq.trans (World.drewN_drewN _ _ _) (congrArg (World.drewN _) (Nat.add_assoc _ _ _))⟩))); try go_wp2_with (first | (go_at_call 20; (with_reducible refine (label_Get.calls kj48 _ _ l0 a1_3 a1_4 a1_5 t9017 t9018 _ ?side1 ?side2 A56.out).mono ?_); (case side1 => repeat (first | exact (Kd.C_below HR0.out HB.out) | (with_reducible refine Kd.C_alloc ?_ _) | (with_reducible refine Kd.C_drewN ?_ _) | (with_reducible refine Kd.C_drew ?_))); (case side2 => exact HC0.out); rintro e w61 ⟨v9019, rfl, ho0, hb⟩; have n0_ := Aside0.mk (Kd.R_elder' (by (with_reducible repeat (first | apply Kd.R_alloc | apply Kd.R_drewN | apply Kd.R_drew)); exact HO_10.out) (Kd.R_base ho0) hb); have n1_ := Aside0.mk (Kd.R_lower (Kd.R_new' ho0 (Kd.R_lt (by (with_reducible repeat (first | apply Kd.R_alloc | apply Kd.R_drewN | apply Kd.R_drew)); exact HO_10.out))) (below_size (by repeat (first | (with_reducible first | exact HB.out | apply below_alloc | apply pw_below_drewN | apply below_drew1 | refine below_set ?_ GE9001.out) | exact HB.out)))); have n2_ := Aside0.mk (blk_below (g := gb9001) (o := .cells #[.string a1_0, .int .i64 a1_1, .int .i64 a1_2, .string a1_3, .int .i64 a1_4, .int .i64 a1_5] 49 (0, 0)) (by (with_reducible repeat (first | refine blk_drewN ?_ _ | refine blk_drew ?_ | refine blk_alloc ?_ _)); exact BK9001.out) hb); have n3_ := Aside0.mk (below_step (by repeat (first | (with_reducible first | exact HB.out | apply below_alloc | apply pw_below_drewN | apply below_drew1 | refine below_set ?_ GE9001.out) | exact HB.out)) hb); clear HO_10; clear BK9001; clear HB; have HO_10 := n0_; have HO9020 := n1_; have BK9001 := n2_; have HB := n3_; clear n0_ n1_ n2_ n3_; (try clear hb); (try clear hb2); (try clear hk); (try clear hi); (try clear ho0); have hcz62_0 : w61.cell? ⟨gb9001, 0, none⟩ = some (.string a1_0) := (blk_cell BK9001.out 0).trans rfl; have hcz62_1 : w61.cell? ⟨gb9001, 1, none⟩ = some (.int .i64 a1_1) := (blk_cell BK9001.out 1).trans rfl; have hcz62_2 : w61.cell? ⟨gb9001, 2, none⟩ = some (.int .i64 a1_2) := (blk_cell BK9001.out 2).trans rfl; have hcz62_3 : w61.cell? ⟨gb9001, 3, none⟩ = some (.string a1_3) := (blk_cell BK9001.out 3).trans rfl; have hcz62_4 : w61.cell? ⟨gb9001, 4, none⟩ = some (.int .i64 a1_4) := (blk_cell BK9001.out 4).trans rfl; have hcz62_5 : w61.cell? ⟨gb9001, 5, none⟩ = some (.int .i64 a1_5) := (blk_cell BK9001.out 5).trans rfl; have hfz62_0 := blk_frozen BK9001.out 0; have hfz62_1 := blk_frozen BK9001.out 1; have hfz62_2 := blk_frozen BK9001.out 2; have hfz62_3 := blk_frozen BK9001.out 3; have hfz62_4 := blk_frozen BK9001.out 4; have hfz62_5 := blk_frozen BK9001.out 5; obtain ⟨Ao63, co63, eo63⟩ := Kd.R_slice HO_10.out; subst eo63) | (go_at_call 20; (with_reducible refine (label_Get.calls kj48 _ _ t9006 a1_3 a1_4 a1_5 t9021 t9022 _ ?side1 ?side2 A57.out).mono ?_); (case side1 => repeat (first | exact (Kd.R_reads' HO_10.out).2.2 | (with_reducible refine Kd.C_alloc ?_ _) | (with_reducible refine Kd.C_drewN ?_ _) | (with_reducible refine Kd.C_drew ?_))); (case side2 => exact (Kd.R_reads' HO_10.out).2.1); rintro e w64 ⟨v9023, rfl, ho0, hb⟩; have n0_ := Aside0.mk (Kd.R_elder' (by (with_reducible repeat (first | apply Kd.R_alloc | apply Kd.R_drewN | apply Kd.R_drew)); exact HO_10.out) (Kd.R_base ho0) hb); have n1_ := Aside0.mk (Kd.R_elder' (by (with_reducible repeat (first | apply Kd.R_alloc | apply Kd.R_drewN | apply Kd.R_drew)); exact HO9020.out) (Kd.R_base ho0) hb); have n2_ := Aside0.mk (Kd.R_lower (Kd.R_new' (Kd.R_new' ho0 (Kd.R_lt (by (with_reducible repeat (first | apply Kd.R_alloc | apply Kd.R_drewN | apply Kd.R_drew)); exact HO_10.out))) (Kd.R_lt (by (with_reducible repeat (first | apply Kd.R_alloc | apply Kd.R_drewN | apply Kd.R_drew)); exact HO9020.out))) (below_size (by repeat (first | (with_reducible first | exact HB.out | apply below_alloc | apply pw_below_drewN | apply below_drew1 | refine below_set ?_ GE9001.out) | exact HB.out)))); have n3_ := Aside0.mk (blk_below (g := gb9001) (o := .cells #[.string a1_0, .int .i64 a1_1, .int .i64 a1_2, .string a1_3, .int .i64 a1_4, .int .i64 a1_5] 49 (0, 0)) (by (with_reducible repeat (first | refine blk_drewN ?_ _ | refine blk_drew ?_ | refine blk_alloc ?_ _)); exact BK9001.out) hb); have n4_ := Aside0.mk (below_step (by repeat (first | (with_reducible first | exact HB.out | apply below_alloc | apply pw_below_drewN | apply below_drew1 | refine below_set ?_ GE9001.out) | exact HB.out)) hb); clear HO_10; clear HO9020; clear BK9001; clear HB; have HO_10 := n0_; have HO9020 := n1_; have HO9024 := n2_; have BK9001 := n3_; have HB := n4_; clear n0_ n1_ n2_ n3_ n4_; (try clear hb); (try clear hb2); (try clear hk); (try clear hi); (try clear ho0); obtain ⟨Ao65, co65, eo65⟩ := Kd.R_slice HO9020.out; subst eo65; obtain ⟨Ao66, co66, eo66⟩ := Kd.R_slice HO9024.out; subst eo66) | (go_at_call 12; (with_reducible refine (tinderref04_Same.calls _ _ t9017 _ _ t9021 t9025 _ ?side1 ?side2 ?side3 ?side4 A59.out).mono ?_); (case side1 => repeat (first | exact (Kd.R_reads' HO9020.out).2.2 | (with_reducible refine Kd.C_alloc ?_ _) | (with_reducible refine Kd.C_drewN ?_ _) | (with_reducible refine Kd.C_drew ?_))); (case side2 => exact (Kd.R_reads' HO9020.out).2.1); (case side3 => repeat (first | exact (Kd.R_reads' HO9024.out).2.2 | (with_reducible refine Kd.C_alloc ?_ _) | (with_reducible refine Kd.C_drewN ?_ _) | (with_reducible refine Kd.C_drew ?_))); (case side4 => exact (Kd.R_reads' HO9024.out).2.1); rintro e w' ⟨rfl, ⟨nd, rfl⟩⟩; (try first | exact ⟨rfl, _, World.drewN_drewN _ _ _⟩ | exact ⟨rfl, _, Eq.trans (World.drewN_drewN _ _ _) (congrArg (World.drewN _) (Nat.add_assoc _ _ _))⟩))))
                              go_ret
                              exact ⟨by first | rfl | (simp [errW_none, errW_some] <;> rfl) | (simp [*, errW_none, errW_some] <;> rfl), by repeat (first | (with_reducible first | exact HB.out | apply below_alloc | apply pw_below_drewN | apply below_drew1 | refine below_set ?_ GE9001.out) | exact HB.out)⟩
                            · rw [if_neg c58] at H
                              have c58b0 : (t9018 == t9022) = false := beq_eq_false_iff_ne.mpr c58
                              have c58b1 : (t9018 != t9022) = true := bne_iff_ne.mpr c58
                              obtain rfl := Option.some.inj H
                              have hcz67_0 : wc.cell? ⟨gb9001, 0, none⟩ = some (.string a1_0) := (blk_cell BK9001.out 0).trans rfl
                              have hcz67_1 : wc.cell? ⟨gb9001, 1, none⟩ = some (.int .i64 a1_1) := (blk_cell BK9001.out 1).trans rfl
                              have hcz67_2 : wc.cell? ⟨gb9001, 2, none⟩ = some (.int .i64 a1_2) := (blk_cell BK9001.out 2).trans rfl
                              have hcz67_3 : wc.cell? ⟨gb9001, 3, none⟩ = some (.string a1_3) := (blk_cell BK9001.out 3).trans rfl
                              have hcz67_4 : wc.cell? ⟨gb9001, 4, none⟩ = some (.int .i64 a1_4) := (blk_cell BK9001.out 4).trans rfl
                              have hcz67_5 : wc.cell? ⟨gb9001, 5, none⟩ = some (.int .i64 a1_5) := (blk_cell BK9001.out 5).trans rfl
                              have hfz67_0 := blk_frozen BK9001.out 0
                              have hfz67_1 := blk_frozen BK9001.out 1
                              have hfz67_2 := blk_frozen BK9001.out 2
                              have hfz67_3 := blk_frozen BK9001.out 3
                              have hfz67_4 := blk_frozen BK9001.out 4
                              have hfz67_5 := blk_frozen BK9001.out 5
                              go_wp2_with (first | (go_at_call 20; (with_reducible refine (label_Get.calls kj48 _ _ l0 a1_3 a1_4 a1_5 t9017 t9018 _ ?side1 ?side2 A56.out).mono ?_); (case side1 => repeat (first | exact (Kd.C_below HR0.out HB.out) | (with_reducible refine Kd.C_alloc ?_ _) | (with_reducible refine Kd.C_drewN ?_ _) | (with_reducible refine Kd.C_drew ?_))); (case side2 => exact HC0.out); rintro e w68 ⟨v9019, rfl, ho0, hb⟩; have n0_ := Aside0.mk (Kd.R_elder' (by (with_reducible repeat (first | apply Kd.R_alloc | apply Kd.R_drewN | apply Kd.R_drew)); exact HO_10.out) (Kd.R_base ho0) hb); have n1_ := Aside0.mk (Kd.R_lower (Kd.R_new' ho0 (Kd.R_lt (by (with_reducible repeat (first | apply Kd.R_alloc | apply Kd.R_drewN | apply Kd.R_drew)); exact HO_10.out))) (below_size (by repeat (first | (with_reducible first | exact HB.out | apply below_alloc | apply pw_below_drewN | apply below_drew1 | refine below_set ?_ GE9001.out) | exact HB.out)))); have n2_ := Aside0.mk (blk_below (g := gb9001) (o := .cells #[.string a1_0, .int .i64 a1_1, .int .i64 a1_2, .string a1_3, .int .i64 a1_4, .int .i64 a1_5] 49 (0, 0)) (by (with_reducible repeat (first | refine blk_drewN ?_ _ | refine blk_drew ?_ | refine blk_alloc ?_ _)); exact BK9001.out) hb); have n3_ := Aside0.mk (below_step (by repeat (first | (with_reducible first | exact HB.out | apply below_alloc | apply pw_below_drewN | apply below_drew1 | refine below_set ?_ GE9001.out) | exact HB.out)) hb); clear HO_10; clear BK9001; clear HB; have HO_10 := n0_; have HO9020 := n1_; have BK9001 := n2_; have HB := n3_; clear n0_ n1_ n2_ n3_; (try clear hb); (try clear hb2); (try clear hk); (try clear hi); (try clear ho0); have hcz69_0 : w68.cell? ⟨gb9001, 0, none⟩ = some (.string a1_0) := (blk_cell BK9001.out 0).trans rfl; have hcz69_1 : w68.cell? ⟨gb9001, 1, none⟩ = some (.int .i64 a1_1) := (blk_cell BK9001.out 1).trans rfl; have hcz69_2 : w68.cell? ⟨gb9001, 2, none⟩ = some (.int .i64 a1_2) := (blk_cell BK9001.out 2).trans rfl; have hcz69_3 : w68.cell? ⟨gb9001, 3, none⟩ = some (.string a1_3) := (blk_cell BK9001.out 3).trans rfl; have hcz69_4 : w68.cell? ⟨gb9001, 4, none⟩ = some (.int .i64 a1_4) := (blk_cell BK9001.out 4).trans rfl; have hcz69_5 : w68.cell? ⟨gb9001, 5, none⟩ = some (.int .i64 a1_5) := (blk_cell BK9001.out 5).trans rfl; have hfz69_0 := blk_frozen BK9001.out 0; have hfz69_1 := blk_frozen BK9001.out 1; have hfz69_2 := blk_frozen BK9001.out 2; have hfz69_3 := blk_frozen BK9001.out 3; have hfz69_4 := blk_frozen BK9001.out 4; have hfz69_5 := blk_frozen BK9001.out 5; obtain ⟨Ao70, co70, eo70⟩ := Kd.R_slice HO_10.out; subst eo70) | (go_at_call 20; (with_reducible refine (label_Get.calls kj48 _ _ t9006 a1_3 a1_4 a1_5 t9021 t9022 _ ?side1 ?side2 A57.out).mono ?_); (case side1 => repeat (first | exact (Kd.R_reads' HO_10.out).2.2 | (with_reducible refine Kd.C_alloc ?_ _) | (with_reducible refine Kd.C_drewN ?_ _) | (with_reducible refine Kd.C_drew ?_))); (case side2 => exact (Kd.R_reads' HO_10.out).2.1); rintro e w71 ⟨v9023, rfl, ho0, hb⟩; have n0_ := Aside0.mk (Kd.R_elder' (by (with_reducible repeat (first | apply Kd.R_alloc | apply Kd.R_drewN | apply Kd.R_drew)); exact HO_10.out) (Kd.R_base ho0) hb); have n1_ := Aside0.mk (Kd.R_elder' (by (with_reducible repeat (first | apply Kd.R_alloc | apply Kd.R_drewN | apply Kd.R_drew)); exact HO9020.out) (Kd.R_base ho0) hb); have n2_ := Aside0.mk (Kd.R_lower (Kd.R_new' (Kd.R_new' ho0 (Kd.R_lt (by (with_reducible repeat (first | apply Kd.R_alloc | apply Kd.R_drewN | apply Kd.R_drew)); exact HO_10.out))) (Kd.R_lt (by (with_reducible repeat (first | apply Kd.R_alloc | apply Kd.R_drewN | apply Kd.R_drew)); exact HO9020.out))) (below_size (by repeat (first | (with_reducible first | exact HB.out | apply below_alloc | apply pw_below_drewN | apply below_drew1 | refine below_set ?_ GE9001.out) | exact HB.out)))); have n3_ := Aside0.mk (blk_below (g := gb9001) (o := .cells #[.string a1_0, .int .i64 a1_1, .int .i64 a1_2, .string a1_3, .int .i64 a1_4, .int .i64 a1_5] 49 (0, 0)) (by (with_reducible repeat (first | refine blk_drewN ?_ _ | refine blk_drew ?_ | refine blk_alloc ?_ _)); exact BK9001.out) hb); have n4_ := Aside0.mk (below_step (by repeat (first | (with_reducible first | exact HB.out | apply below_alloc | apply pw_below_drewN | apply below_drew1 | refine below_set ?_ GE9001.out) | exact HB.out)) hb); clear HO_10; clear HO9020; clear BK9001; clear HB; have HO_10 := n0_; have HO9020 := n1_; have HO9024 := n2_; have BK9001 := n3_; have HB := n4_; clear n0_ n1_ n2_ n3_ n4_; (try clear hb); (try clear hb2); (try clear hk); (try clear hi); (try clear ho0)))
                              repeat (go_quiet (first | (go_at_call 20; (with_reducible refine (label_Get.calls kj48 _ _ l0 a1_3 a1_4 a1_5 t9017 t9018 _ ?side1 ?side2 A56.out).mono ?_); (case side1 => repeat (first | exact (Kd.C_below HR0.out HB.out) | (with_reducible refine Kd.C_alloc ?_ _) | (with_reducible refine Kd.C_drewN ?_ _) | (with_reducible refine Kd.C_drew ?_))); (case side2 => exact HC0.out); rintro e w68 ⟨v9019, rfl, ho0, hb⟩; have n0_ := Aside0.mk (Kd.R_elder' (by (with_reducible repeat (first | apply Kd.R_alloc | apply Kd.R_drewN | apply Kd.R_drew)); exact HO_10.out) (Kd.R_base ho0) hb); have n1_ := Aside0.mk (Kd.R_lower (Kd.R_new' ho0 (Kd.R_lt (by (with_reducible repeat (first | apply Kd.R_alloc | apply Kd.R_drewN | apply Kd.R_drew)); exact HO_10.out))) (below_size (by repeat (first | (with_reducible first | exact HB.out | apply below_alloc | apply pw_below_drewN | apply below_drew1 | refine below_set ?_ GE9001.out) | exact HB.out)))); have n2_ := Aside0.mk (blk_below (g := gb9001) (o := .cells #[.string a1_0, .int .i64 a1_1, .int .i64 a1_2, .string a1_3, .int .i64 a1_4, .int .i64 a1_5] 49 (0, 0)) (by (with_reducible repeat (first | refine blk_drewN ?_ _ | refine blk_drew ?_ | refine blk_alloc ?_ _)); exact BK9001.out) hb); have n3_ := Aside0.mk (below_step (by repeat (first | (with_reducible first | exact HB.out | apply below_alloc | apply pw_below_drewN | apply below_drew1 | refine below_set ?_ GE9001.out) | exact HB.out)) hb); clear HO_10; clear BK9001; clear HB; have HO_10 := n0_; have HO9020 := n1_; have BK9001 := n2_; have HB := n3_; clear n0_ n1_ n2_ n3_; (try clear hb); (try clear hb2); (try clear hk); (try clear hi); (try clear ho0); have hcz69_0 : w68.cell? ⟨gb9001, 0, none⟩ = some (.string a1_0) := (blk_cell BK9001.out 0).trans rfl; have hcz69_1 : w68.cell? ⟨gb9001, 1, none⟩ = some (.int .i64 a1_1) := (blk_cell BK9001.out 1).trans rfl; have hcz69_2 : w68.cell? ⟨gb9001, 2, none⟩ = some (.int .i64 a1_2) := (blk_cell BK9001.out 2).trans rfl; have hcz69_3 : w68.cell? ⟨gb9001, 3, none⟩ = some (.string a1_3) := (blk_cell BK9001.out 3).trans rfl; have hcz69_4 : w68.cell? ⟨gb9001, 4, none⟩ = some (.int .i64 a1_4) := (blk_cell BK9001.out 4).trans rfl; have hcz69_5 : w68.cell? ⟨gb9001, 5, none⟩ = some (.int .i64 a1_5) := (blk_cell BK9001.out 5).trans rfl; have hfz69_0 := blk_frozen BK9001.out 0; have hfz69_1 := blk_frozen BK9001.out 1; have hfz69_2 := blk_frozen BK9001.out 2; have hfz69_3 := blk_frozen BK9001.out 3; have hfz69_4 := blk_frozen BK9001.out 4; have hfz69_5 := blk_frozen BK9001.out 5; obtain ⟨Ao70, co70, eo70⟩ := Kd.R_slice HO_10.out; subst eo70) | (go_at_call 20; (with_reducible refine (label_Get.calls kj48 _ _ t9006 a1_3 a1_4 a1_5 t9021 t9022 _ ?side1 ?side2 A57.out).mono ?_); (case side1 => repeat (first | exact (Kd.R_reads' HO_10.out).2.2 | (with_reducible refine Kd.C_alloc ?_ _) | (with_reducible refine Kd.C_drewN ?_ _) | (with_reducible refine Kd.C_drew ?_))); (case side2 => exact (Kd.R_reads' HO_10.out).2.1); rintro e w71 ⟨v9023, rfl, ho0, hb⟩; have n0_ := Aside0.mk (Kd.R_elder' (by (with_reducible repeat (first | apply Kd.R_alloc | apply Kd.R_drewN | apply Kd.R_drew)); exact HO_10.out) (Kd.R_base ho0) hb); have n1_ := Aside0.mk (Kd.R_elder' (by (with_reducible repeat (first | apply Kd.R_alloc | apply Kd.R_drewN | apply Kd.R_drew)); exact HO9020.out) (Kd.R_base ho0) hb); have n2_ := Aside0.mk (Kd.R_lower (Kd.R_new' (Kd.R_new' ho0 (Kd.R_lt (by (with_reducible repeat (first | apply Kd.R_alloc | apply Kd.R_drewN | apply Kd.R_drew)); exact HO_10.out))) (Kd.R_lt (by (with_reducible repeat (first | apply Kd.R_alloc | apply Kd.R_drewN | apply Kd.R_drew)); exact HO9020.out))) (below_size (by repeat (first | (with_reducible first | exact HB.out | apply below_alloc | apply pw_below_drewN | apply below_drew1 | refine below_set ?_ GE9001.out) | exact HB.out)))); have n3_ := Aside0.mk (blk_below (g := gb9001) (o := .cells #[.string a1_0, .int .i64 a1_1, .int .i64 a1_2, .string a1_3, .int .i64 a1_4, .int .i64 a1_5] 49 (0, 0)) (by (with_reducible repeat (first | refine blk_drewN ?_ _ | refine blk_drew ?_ | refine blk_alloc ?_ _)); exact BK9001.out) hb); have n4_ := Aside0.mk (below_step (by repeat (first | (with_reducible first | exact HB.out | apply below_alloc | apply pw_below_drewN | apply below_drew1 | refine below_set ?_ GE9001.out) | exact HB.out)) hb); clear HO_10; clear HO9020; clear BK9001; clear HB; have HO_10 := n0_; have HO9020 := n1_; have HO9024 := n2_; have BK9001 := n3_; have HB := n4_; clear n0_ n1_ n2_ n3_ n4_; (try clear hb); (try clear hb2); (try clear hk); (try clear hi); (try clear ho0))); try go_wp2_with (first | (go_at_call 20; (with_reducible refine (label_Get.calls kj48 _ _ l0 a1_3 a1_4 a1_5 t9017 t9018 _ ?side1 ?side2 A56.out).mono ?_); (case side1 => repeat (first | exact (Kd.C_below HR0.out HB.out) | (with_reducible refine Kd.C_alloc ?_ _) | (with_reducible refine Kd.C_drewN ?_ _) | (with_reducible refine Kd.C_drew ?_))); (case side2 => exact HC0.out); rintro e w68 ⟨v9019, rfl, ho0, hb⟩; have n0_ := Aside0.mk (Kd.R_elder' (by (with_reducible repeat (first | apply Kd.R_alloc | apply Kd.R_drewN | apply Kd.R_drew)); exact HO_10.out) (Kd.R_base ho0) hb); have n1_ := Aside0.mk (Kd.R_lower (Kd.R_new' ho0 (Kd.R_lt (by (with_reducible repeat (first | apply Kd.R_alloc | apply Kd.R_drewN | apply Kd.R_drew)); exact HO_10.out))) (below_size (by repeat (first | (with_reducible first | exact HB.out | apply below_alloc | apply pw_below_drewN | apply below_drew1 | refine below_set ?_ GE9001.out) | exact HB.out)))); have n2_ := Aside0.mk (blk_below (g := gb9001) (o := .cells #[.string a1_0, .int .i64 a1_1, .int .i64 a1_2, .string a1_3, .int .i64 a1_4, .int .i64 a1_5] 49 (0, 0)) (by (with_reducible repeat (first | refine blk_drewN ?_ _ | refine blk_drew ?_ | refine blk_alloc ?_ _)); exact BK9001.out) hb); have n3_ := Aside0.mk (below_step (by repeat (first | (with_reducible first | exact HB.out | apply below_alloc | apply pw_below_drewN | apply below_drew1 | refine below_set ?_ GE9001.out) | exact HB.out)) hb); clear HO_10; clear BK9001; clear HB; have HO_10 := n0_; have HO9020 := n1_; have BK9001 := n2_; have HB := n3_; clear n0_ n1_ n2_ n3_; (try clear hb); (try clear hb2); (try clear hk); (try clear hi); (try clear ho0); have hcz69_0 : w68.cell? ⟨gb9001, 0, none⟩ = some (.string a1_0) := (blk_cell BK9001.out 0).trans rfl; have hcz69_1 : w68.cell? ⟨gb9001, 1, none⟩ = some (.int .i64 a1_1) := (blk_cell BK9001.out 1).trans rfl; have hcz69_2 : w68.cell? ⟨gb9001, 2, none⟩ = some (.int .i64 a1_2) := (blk_cell BK9001.out 2).trans rfl; have hcz69_3 : w68.cell? ⟨gb9001, 3, none⟩ = some (.string a1_3) := (blk_cell BK9001.out 3).trans rfl; have hcz69_4 : w68.cell? ⟨gb9001, 4, none⟩ = some (.int .i64 a1_4) := (blk_cell BK9001.out 4).trans rfl; have hcz69_5 : w68.cell? ⟨gb9001, 5, none⟩ = some (.int .i64 a1_5) := (blk_cell BK9001.out 5).trans rfl; have hfz69_0 := blk_frozen BK9001.out 0; have hfz69_1 := blk_frozen BK9001.out 1; have hfz69_2 := blk_frozen BK9001.out 2; have hfz69_3 := blk_frozen BK9001.out 3; have hfz69_4 := blk_frozen BK9001.out 4; have hfz69_5 := blk_frozen BK9001.out 5; obtain ⟨Ao70, co70, eo70⟩ := Kd.R_slice HO_10.out; subst eo70) | (go_at_call 20; (with_reducible refine (label_Get.calls kj48 _ _ t9006 a1_3 a1_4 a1_5 t9021 t9022 _ ?side1 ?side2 A57.out).mono ?_); (case side1 => repeat (first | exact (Kd.R_reads' HO_10.out).2.2 | (with_reducible refine Kd.C_alloc ?_ _) | (with_reducible refine Kd.C_drewN ?_ _) | (with_reducible refine Kd.C_drew ?_))); (case side2 => exact (Kd.R_reads' HO_10.out).2.1); rintro e w71 ⟨v9023, rfl, ho0, hb⟩; have n0_ := Aside0.mk (Kd.R_elder' (by (with_reducible repeat (first | apply Kd.R_alloc | apply Kd.R_drewN | apply Kd.R_drew)); exact HO_10.out) (Kd.R_base ho0) hb); have n1_ := Aside0.mk (Kd.R_elder' (by (with_reducible repeat (first | apply Kd.R_alloc | apply Kd.R_drewN | apply Kd.R_drew)); exact HO9020.out) (Kd.R_base ho0) hb); have n2_ := Aside0.mk (Kd.R_lower (Kd.R_new' (Kd.R_new' ho0 (Kd.R_lt (by (with_reducible repeat (first | apply Kd.R_alloc | apply Kd.R_drewN | apply Kd.R_drew)); exact HO_10.out))) (Kd.R_lt (by (with_reducible repeat (first | apply Kd.R_alloc | apply Kd.R_drewN | apply Kd.R_drew)); exact HO9020.out))) (below_size (by repeat (first | (with_reducible first | exact HB.out | apply below_alloc | apply pw_below_drewN | apply below_drew1 | refine below_set ?_ GE9001.out) | exact HB.out)))); have n3_ := Aside0.mk (blk_below (g := gb9001) (o := .cells #[.string a1_0, .int .i64 a1_1, .int .i64 a1_2, .string a1_3, .int .i64 a1_4, .int .i64 a1_5] 49 (0, 0)) (by (with_reducible repeat (first | refine blk_drewN ?_ _ | refine blk_drew ?_ | refine blk_alloc ?_ _)); exact BK9001.out) hb); have n4_ := Aside0.mk (below_step (by repeat (first | (with_reducible first | exact HB.out | apply below_alloc | apply pw_below_drewN | apply below_drew1 | refine below_set ?_ GE9001.out) | exact HB.out)) hb); clear HO_10; clear HO9020; clear BK9001; clear HB; have HO_10 := n0_; have HO9020 := n1_; have HO9024 := n2_; have BK9001 := n3_; have HB := n4_; clear n0_ n1_ n2_ n3_ n4_; (try clear hb); (try clear hb2); (try clear hk); (try clear hi); (try clear ho0))))
                              go_ret
                              exact ⟨by first | rfl | (simp [errW_none, errW_some] <;> rfl) | (simp [*, errW_none, errW_some] <;> rfl), by repeat (first | (with_reducible first | exact HB.out | apply below_alloc | apply pw_below_drewN | apply below_drew1 | refine below_set ?_ GE9001.out) | exact HB.out)⟩
  · replace c5 := Bool.eq_false_iff.mpr c5
    subst c5
    have H1 : (some false) = some r := by rw [if_neg (show ¬ (false = true) by decide)] at H; exact H
    clear H
    have H := H1
    clear H1
    obtain rfl := Option.some.inj H
    go_enter Try.func8, Try.ntmps8
    go_wp2_with (first | ((with_reducible refine gate_dst (N := 4) rfl ?_); (try (refine gate_guard (by rfl) ?_; dsimp only)); refine box_event ?hg (N := 4) ?hd (cs := #[.string a1_0, .int .i64 a1_1, .int .i64 a1_2, .string a1_3, .int .i64 a1_4, .int .i64 a1_5]) (t := 49) ?hr ?_; (case hd => rfl); (case hg => rfl); (case hr => first | (go_simp; done) | (go_simp; rfl)); intro gb9001 hg w72 hbox hb; have n0_ := Aside0.mk (below_step (by repeat (first | (with_reducible first | exact HB.out | apply below_alloc | apply pw_below_drewN | apply below_drew1) | exact HB.out)) hb); have n1_ := Aside0.mk (hbox); have n2_ := Aside0.mk ((by rw [hg]; exact (below_size (by repeat (first | (with_reducible first | exact HB.out | apply below_alloc | apply pw_below_drewN | apply below_drew1) | exact HB.out))) : w.heap.size ≤ gb9001)); have n3_ := Aside0.mk ((by rw [hg]; exact (below_size (by repeat (first | (with_reducible first | exact HB.out | apply below_alloc | apply pw_below_drewN | apply below_drew1) | exact HB.out))) : w.heap.size ≤ gb9001)); clear HB; have HB := n0_; have BK9001 := n1_; have GW9001 := n2_; have GE9001 := n3_; clear n0_ n1_ n2_ n3_; clear hb hbox hg) | (go_at_call 9; (with_reducible refine (tinderlaw21_alive.calls  false _ A4.out).mono ?_); rintro e w73 ⟨rfl, hb⟩; have n0_ := Aside0.mk (blk_below (g := gb9001) (o := .cells #[.string a1_0, .int .i64 a1_1, .int .i64 a1_2, .string a1_3, .int .i64 a1_4, .int .i64 a1_5] 49 (0, 0)) (by (with_reducible repeat (first | refine blk_drewN ?_ _ | refine blk_drew ?_ | refine blk_alloc ?_ _)); exact BK9001.out) hb); have n1_ := Aside0.mk (below_step (by repeat (first | (with_reducible first | exact HB.out | apply below_alloc | apply pw_below_drewN | apply below_drew1 | refine below_set ?_ GE9001.out) | exact HB.out)) hb); clear BK9001; clear HB; have BK9001 := n0_; have HB := n1_; clear n0_ n1_; (try clear hb); (try clear hb2); (try clear hk); (try clear hi)))
    repeat (go_quiet (first | ((with_reducible refine gate_dst (N := 4) rfl ?_); (try (refine gate_guard (by rfl) ?_; dsimp only)); refine box_event ?hg (N := 4) ?hd (cs := #[.string a1_0, .int .i64 a1_1, .int .i64 a1_2, .string a1_3, .int .i64 a1_4, .int .i64 a1_5]) (t := 49) ?hr ?_; (case hd => rfl); (case hg => rfl); (case hr => first | (go_simp; done) | (go_simp; rfl)); intro gb9001 hg w72 hbox hb; have n0_ := Aside0.mk (below_step (by repeat (first | (with_reducible first | exact HB.out | apply below_alloc | apply pw_below_drewN | apply below_drew1) | exact HB.out)) hb); have n1_ := Aside0.mk (hbox); have n2_ := Aside0.mk ((by rw [hg]; exact (below_size (by repeat (first | (with_reducible first | exact HB.out | apply below_alloc | apply pw_below_drewN | apply below_drew1) | exact HB.out))) : w.heap.size ≤ gb9001)); have n3_ := Aside0.mk ((by rw [hg]; exact (below_size (by repeat (first | (with_reducible first | exact HB.out | apply below_alloc | apply pw_below_drewN | apply below_drew1) | exact HB.out))) : w.heap.size ≤ gb9001)); clear HB; have HB := n0_; have BK9001 := n1_; have GW9001 := n2_; have GE9001 := n3_; clear n0_ n1_ n2_ n3_; clear hb hbox hg) | (go_at_call 9; (with_reducible refine (tinderlaw21_alive.calls  false _ A4.out).mono ?_); rintro e w73 ⟨rfl, hb⟩; have n0_ := Aside0.mk (blk_below (g := gb9001) (o := .cells #[.string a1_0, .int .i64 a1_1, .int .i64 a1_2, .string a1_3, .int .i64 a1_4, .int .i64 a1_5] 49 (0, 0)) (by (with_reducible repeat (first | refine blk_drewN ?_ _ | refine blk_drew ?_ | refine blk_alloc ?_ _)); exact BK9001.out) hb); have n1_ := Aside0.mk (below_step (by repeat (first | (with_reducible first | exact HB.out | apply below_alloc | apply pw_below_drewN | apply below_drew1 | refine below_set ?_ GE9001.out) | exact HB.out)) hb); clear BK9001; clear HB; have BK9001 := n0_; have HB := n1_; clear n0_ n1_; (try clear hb); (try clear hb2); (try clear hk); (try clear hi))); try go_wp2_with (first | ((with_reducible refine gate_dst (N := 4) rfl ?_); (try (refine gate_guard (by rfl) ?_; dsimp only)); refine box_event ?hg (N := 4) ?hd (cs := #[.string a1_0, .int .i64 a1_1, .int .i64 a1_2, .string a1_3, .int .i64 a1_4, .int .i64 a1_5]) (t := 49) ?hr ?_; (case hd => rfl); (case hg => rfl); (case hr => first | (go_simp; done) | (go_simp; rfl)); intro gb9001 hg w72 hbox hb; have n0_ := Aside0.mk (below_step (by repeat (first | (with_reducible first | exact HB.out | apply below_alloc | apply pw_below_drewN | apply below_drew1) | exact HB.out)) hb); have n1_ := Aside0.mk (hbox); have n2_ := Aside0.mk ((by rw [hg]; exact (below_size (by repeat (first | (with_reducible first | exact HB.out | apply below_alloc | apply pw_below_drewN | apply below_drew1) | exact HB.out))) : w.heap.size ≤ gb9001)); have n3_ := Aside0.mk ((by rw [hg]; exact (below_size (by repeat (first | (with_reducible first | exact HB.out | apply below_alloc | apply pw_below_drewN | apply below_drew1) | exact HB.out))) : w.heap.size ≤ gb9001)); clear HB; have HB := n0_; have BK9001 := n1_; have GW9001 := n2_; have GE9001 := n3_; clear n0_ n1_ n2_ n3_; clear hb hbox hg) | (go_at_call 9; (with_reducible refine (tinderlaw21_alive.calls  false _ A4.out).mono ?_); rintro e w73 ⟨rfl, hb⟩; have n0_ := Aside0.mk (blk_below (g := gb9001) (o := .cells #[.string a1_0, .int .i64 a1_1, .int .i64 a1_2, .string a1_3, .int .i64 a1_4, .int .i64 a1_5] 49 (0, 0)) (by (with_reducible repeat (first | refine blk_drewN ?_ _ | refine blk_drew ?_ | refine blk_alloc ?_ _)); exact BK9001.out) hb); have n1_ := Aside0.mk (below_step (by repeat (first | (with_reducible first | exact HB.out | apply below_alloc | apply pw_below_drewN | apply below_drew1 | refine below_set ?_ GE9001.out) | exact HB.out)) hb); clear BK9001; clear HB; have BK9001 := n0_; have HB := n1_; clear n0_ n1_; (try clear hb); (try clear hb2); (try clear hk); (try clear hi))))
    go_ret
    exact ⟨by first | rfl | (simp [errW_none, errW_some] <;> rfl) | (simp [*, errW_none, errW_some] <;> rfl), by repeat (first | (with_reducible first | exact HB.out | apply below_alloc | apply pw_below_drewN | apply below_drew1 | refine below_set ?_ GE9001.out) | exact HB.out)⟩

end Go.Proofs.Ytnbomjfpnpmllaa.Q
end
section
set_option linter.unusedSimpArgs false
set_option linter.unusedVariables false
namespace Go.Proofs.Ytnbomjfpnpmllaa.Q
open Go.RowKit Go.Proofs.YtnbomjfpnpmllaaW.PrintWords Go.Proofs.YtnbomjfpnpmllaaW.PrintLast Go.Proofs.YtnbomjfpnpmllaaW.PrintMore
theorem wrap_fit {x : Int} (h1 : -9223372036854775808 ≤ x) (h2 : x ≤ 9223372036854775807) : wrap64 x = x := by unfold wrap64; omega
theorem apart_j4 (k : Nat) (hk : 40000 ≤ k) (l b : List Int) (s1 s2 : ByteArray) (a1 n1 a2 n2 : Int) (t : Bool) (p : Nat) (h : winOk l s2) (hb : Bytes b) (hp : p + b.length ≤ l.length)
    (ht : t = false → 512 ≤ p ∧ (winF l s2).2.2 = 0 ∧ ((winF l s2).1 + (winF l s2).2.1 ≤ p ∨ p + b.length ≤ (winF l s2).1)) :
    tinderlaw21_LabelApart.j4 (k + 1) l (splice l p b) t s1 a1 n1 s2 a2 n2 = some true := by
  rw [tinderlaw21_LabelApart.j4]
  cases t with
  | true => rw [if_pos rfl]
  | false =>
    obtain ⟨h1, h2, h3⟩ := ht rfl
    rw [if_neg (by decide), get_apart k hk l b s2 a2 n2 p h hb hp h1 h2 h3]
    obtain ⟨x, e, hx⟩ := get_total k hk l s2 a2 n2 h
    rw [hx]
    simp only [Option.bind_some, if_true, ref04_Same_self]
theorem apart_loop (l b : List Int) (s1 s2 : ByteArray) (base size a1 n1 a2 n2 : Int) (p : Nat) (hp : (p : Int) = base + a1) (h : winOk l s2) (hb : Bytes b) (hl : l.length ≤ 32768) (h0 : 0 ≤ base) (hs : 0 ≤ size) (hbs : base + size ≤ l.length) (ha : 0 ≤ a1) (hbl : (b.length : Int) ≤ size - a1) :
    ∀ (d k : Nat) (i : Int), 0 ≤ i → i + d = l.length → 2 * d + 40010 ≤ k → tinderlaw21_LabelApart.l0 k l b base size (splice l p b) i s1 a1 n1 s2 a2 n2 = some true
  | 0, k, i, hi, hd, hk => by
    obtain ⟨k, rfl⟩ : ∃ m, k = m + 1 := ⟨k - 1, by omega⟩
    obtain ⟨k, rfl⟩ : ∃ m, k = m + 1 := ⟨k - 1, by omega⟩
    have hw : label_Window.f l s2 = some (winF l s2) := if_pos h
    have hin : (winF l s2).2.2 = 0 → _ := win_in (bytesB_iff.1 h.1)
    have hj : ∀ t : Bool, (t = false → 512 ≤ p ∧ (winF l s2).2.2 = 0 ∧ ((winF l s2).1 + (winF l s2).2.1 ≤ p ∨ p + b.length ≤ (winF l s2).1)) → _ := fun t => apart_j4 k (by omega) l b s1 s2 a1 n1 a2 n2 t p h hb (by omega)
    rw [tinderlaw21_LabelApart.l0, if_neg (by omega), hw]
    simp only [Option.bind_some]
    generalize winF l s2 = W at hin hj ⊢
    obtain ⟨other, much, g⟩ := W
    simp only at hin hj ⊢
    by_cases hg : g = 0
    · obtain ⟨_, _, g1, g2, g3⟩ := hin hg
      rw [if_pos hg]
      by_cases h5 : base < 512
      · rw [if_pos h5]
        exact hj true (fun e => by cases e)
      · rw [if_neg h5, wrap_fit (show -9223372036854775808 ≤ base + size by omega) (by omega), wrap_fit (show -9223372036854775808 ≤ other + much by omega) (by omega)]
        by_cases h6 : other < base + size
        · rw [if_pos h6]
          refine hj _ (fun e => ⟨by omega, hg, .inl ?_⟩)
          have := of_decide_eq_false e
          omega
        · rw [if_neg h6]
          exact hj _ (fun e => ⟨by omega, hg, .inr (by omega)⟩)
    · rw [if_neg hg]
      exact hj true (fun e => by cases e)
  | d + 1, k, i, hi, hd, hk => by
    obtain ⟨k, rfl⟩ : ∃ m, k = m + 1 := ⟨k - 1, by omega⟩
    obtain ⟨k, rfl⟩ : ∃ m, k = m + 1 := ⟨k - 1, by omega⟩
    have ih := apart_loop l b s1 s2 base size a1 n1 a2 n2 p hp h hb hl h0 hs hbs ha hbl d k (i + 1) (by omega) (by omega) (by omega)
    have hx := splice_rd l b p (by omega) i hi
    have hlen := splice_len l b p (by omega)
    rw [tinderlaw21_LabelApart.l0, if_pos (by omega), wrap_fit (show -9223372036854775808 ≤ i - base by omega) (by omega), wrap_fit (show -9223372036854775808 ≤ i - base - a1 by omega) (by omega)]
    have hno : ¬ (0 ≤ i - base - a1 ∧ i - base - a1 < b.length) → tinderlaw21_LabelApart.j3 (k + 1) l b base size (splice l p b) i (i - base - a1) false s1 a1 n1 s2 a2 n2 = some true := fun hn => by
      rw [tinderlaw21_LabelApart.j3, if_neg (by decide), if_pos hi, hlen, if_pos (by omega), if_pos (by omega), hx]
      have e : (if i.toNat < p then rd l i else if i.toNat < p + b.length then rd b (i - p) else rd l i) = rd l i := by
        split
        · rfl
        · split
          · omega
          · rfl
      rw [e, if_pos rfl, wrap_fit (by omega) (by omega)]
      exact ih
    by_cases h1 : i - base - a1 ≥ 0
    · rw [if_pos h1]
      by_cases h2 : i - base - a1 < (b.length : Int)
      · have hx2 : rd (splice l p b) i = rd b (i - base - a1) := by rw [hx, if_neg (by omega), if_pos (by omega), show i - (p : Int) = i - base - a1 by omega]
        rw [decide_eq_true h2, tinderlaw21_LabelApart.j3, if_pos rfl, if_pos hi, hlen, if_pos (by omega), if_pos (by omega), if_pos h2, hx2, if_pos rfl, wrap_fit (by omega) (by omega)]
        exact ih
      · rw [decide_eq_false h2]
        exact hno (fun hh => h2 hh.2)
    · rw [if_neg h1]
      exact hno (fun hh => h1 hh.1)
theorem apart_true (l b : List Int) (s1 s2 : ByteArray) (a1 n1 a2 n2 : Int) (h1 : winOk l s1) (h2 : winOk l s2) (hb : Bytes b) (hbl : b.length ≤ 140737488351232) : tinderlaw21_LabelApart.f 110000 l s1 a1 n1 s2 a2 n2 b = some true := by
  have hw : label_Window.f l s1 = some (winF l s1) := if_pos h1
  have hj : ∀ k x7 x8 x10 x11 t, tinderlaw21_LabelApart.j0 (k + 1) l b x7 x8 x10 x11 t s1 a1 n1 s2 a2 n2 = _ := fun k x7 x8 x10 x11 t => by rw [tinderlaw21_LabelApart.j0]
  unfold tinderlaw21_LabelApart.f tinderlaw21_alive.f
  rw [hw]
  obtain ⟨k, hk, hk2⟩ : ∃ k, 110000 = k + 1 + 1 ∧ 109990 ≤ k := ⟨109998, rfl, by decide⟩
  rw [hk]
  simp only [Option.bind_some, if_true]
  rcases put_cases l s1 a1 b h1 with ⟨he, hp⟩ | ⟨he, hp⟩ | ⟨he, ha, hs, hp⟩
  · rw [hp]
    simp only [Option.bind_some]
    rw [if_neg he, hj, if_pos rfl, if_pos (by rfl)]
    simp [he]
  · rw [hp]
    simp only [Option.bind_some]
    rw [if_pos he, hj, if_pos (by decide), if_pos (by rfl)]
    rfl
  · obtain ⟨hd, hl, g1, g2, g3⟩ := win_in (bytesB_iff.1 h1.1) he
    rw [hp]
    simp only [Option.bind_some]
    rw [if_pos he]
    have hlen := splice_len l b ((winF l s1).1 + a1).toNat (by omega)
    rw [hj, if_neg (by decide), if_pos (by rw [hlen]), if_neg (by omega), wrap_fit (by omega) (by omega), decide_eq_false (by omega), tinderlaw21_LabelApart.j1, if_neg (by decide)]
    exact apart_loop l b s1 s2 _ _ a1 n1 a2 n2 _ (by omega) h2 hb hl g1 g2 g3 ha hs l.length k 0 (Int.le_refl 0) (by omega) (by omega)
theorem labelApart_row (A0 : Option Addr) (c0 : Nat) (l0 : List Int) {w : World} (hr0 : Kd.C (Kd.int .u8) w A0 l0.length l0) (hc0 : l0.length ≤ c0) (hg0 : l0.length * 1 ≤ 140737488351232 ∧ ∀ a ∈ l0, (Lit.int .u8 a).wf = true)
    (cs : Array Value) (z : List S41) (hz : z.length = 2) (hr : Reps (k41.K w) k41.sz z cs.toList) (g : ∀ a ∈ z, a.f0.size ≤ 140737488351232 ∧ (Lit.int .i64 a.f1).wf = true ∧ (Lit.int .i64 a.f2).wf = true)
    (A2 : Option Addr) (c2 : Nat) (l2 : List Int) (hr2 : Kd.C (Kd.int .u8) w A2 l2.length l2) (hc2 : l2.length ≤ c2) (hg2 : l2.length * 1 ≤ 140737488351232 ∧ ∀ a ∈ l2, (Lit.int .u8 a).wf = true) :
    Calls Try.prog 8 #[.slice A0 l0.length c0, .agg cs, .slice A2 l2.length c2] w fun e w' => e = .returned (.bool true) ∧ Below w.heap.size w w' := by
  match z, hz with
  | [x, y], _ =>
    have hx := k41_open (hr.2 0 x rfl)
    have hy := k41_open (hr.2 1 y rfl)
    have hl := hr.1
    have e : cs = #[.string x.f0, .int .i64 x.f1, .int .i64 x.f2, .string y.f0, .int .i64 y.f1, .int .i64 y.f2] := by
      apply Array.ext'
      have e1 : cs.toList = cs.toList.take 3 ++ (cs.toList.drop 3).take 3 := by
        rw [← List.take_append_drop 3 cs.toList]
        congr 1
        · rw [List.take_append_drop]
        · rw [List.take_append_drop, List.take_of_length_le]
          rw [List.length_drop, hl]
          exact Nat.le_refl 3
      rw [e1]
      have hx' : cs.toList.take 3 = _ := hx
      have hy' : (cs.toList.drop 3).take 3 = _ := hy
      rw [hx', hy']
      rfl
    rw [e]
    have hbb : Bytes l2 := bytesB_iff.1 (winOk_of hg2 (s := ⟨#[]⟩) (by decide)).1
    exact tinderlaw21_LabelApart.calls 110000 A0 c0 l0 _ _ _ _ _ _ A2 c2 l2 true w hr0 hc0 hr2 hc2 (apart_true _ _ _ _ _ _ _ _ (winOk_of hg0 (g x (by simp)).1) (winOk_of hg0 (g y (by simp)).1) hbb (by omega))
end Go.Proofs.Ytnbomjfpnpmllaa.Q
end
section
namespace Go.Proofs.Ytnbomjfpnpmllaa.Q
open Go.RowKit Go.Proofs.YtnbomjfpnpmllaaW.PrintWords Go.Proofs.YtnbomjfpnpmllaaW.PrintLast Go.Proofs.YtnbomjfpnpmllaaW.PrintMore
def Opens {α : Type} (P : Program) (t : TypeId) (d : Kd α) (G : α → Prop) : Prop :=
  ∀ (H : Type) (enc : TypeId × Value → H) (W : World) (fuel : Nat) (cs : List Value) (x : DataW H × List MemPlace), DataW.trod enc P W 0 (fun _ => true) true fuel t cs = some x → (∀ n ∈ x.1.weights P t, n ≤ reachBytes) → ∃ a, d.K W a cs ∧ G a
section
variable {P : Program} {t e : TypeId}
theorem opens_int {k : IntKind} (ht : P.underlying t = some (.int k)) : Opens P t (Kd.int k) (fun n => (Lit.int k n).wf = true) := by
  intro H enc W fuel cs x h _
  obtain ⟨n, rfl, _, hw⟩ := DataW.trod_int ht h
  exact ⟨n, rfl, hw⟩
theorem opens_bool (ht : P.underlying t = some .bool) : Opens P t Kd.bool (fun _ => True) := by
  intro H enc W fuel cs x h _
  obtain ⟨b, rfl, _⟩ := DataW.trod_bool ht h
  exact ⟨b, rfl, trivial⟩
theorem opens_string (ht : P.underlying t = some .string) : Opens P t Kd.string (fun s => s.size ≤ 140737488351232) := by
  intro H enc W fuel cs x h hw
  obtain ⟨s, rfl, rfl, _⟩ := DataW.trod_string ht h
  have := hw s.data.toList.length (by simp [DataW.weights])
  exact ⟨s, rfl, by simpa [reachBytes] using this⟩
theorem weights_all {H : Type} {P : Program} {e : TypeId} : ∀ {l : List (DataW H)} {d : DataW H}, d ∈ l → ∀ n ∈ d.weights P e, n ∈ DataW.weightsAll P e l
  | d0 :: l, d, hd, n, hn => by
    simp only [DataW.weightsAll, List.mem_append]
    rcases List.mem_cons.1 hd with rfl | hd
    · exact .inl hn
    · exact .inr (weights_all hd n hn)
theorem cells_get {W : World} {base : Nat} {a : Addr} {n : Nat} {c : List Value} (h : W.cells? base a n = some c) : c.length = n ∧ ∀ i u, c[i]? = some u → W.cell? (a.add i) = some u := by
  unfold World.cells? at h
  split at h
  · have hl := mapM_some_length h
    refine ⟨by simpa using hl, fun i u hu => ?_⟩
    have hi : i < n := by
      have := (List.getElem?_eq_some_iff.1 hu).1
      simp at hl
      omega
    have := mapM_some_get h i i (by simp [hi])
    rw [this, hu]
  · cases h
theorem opens_slice {α : Type} {d : Kd α} {G : α → Prop} (ht : P.underlying t = some (.slice e)) (hc : P.cellsOf e = d.sz) (b : Nat) (hb : P.bytesOf e = b) (he : Opens P e d G) :
    Opens P t (Kd.slice e d) (fun xs => xs.length * b ≤ 140737488351232 ∧ ∀ a ∈ xs, G a) := by
  intro H enc W fuel cs x h hw
  rcases DataW.trod_slice ht h with ⟨rfl, _⟩ | ⟨a, len, cap, elems, rest, n, _, rfl, rfl, _, hl, hm, hlen, hel, _⟩
  · exact ⟨[], ⟨none, 0, rfl, Nat.le_refl _, Kd.C_nil d W⟩, by simp, fun a h => by cases h⟩
  · have hwt : (elems.length + rest.length) * b ≤ 140737488351232 := by
      have := hw ((elems.length + rest.length) * P.bytesOf e) (by simp [DataW.weights, ht])
      rw [hb] at this
      simpa [reachBytes] using this
    have hall : ∀ i : Fin len, ∃ p : α, ∃ c, c.length = d.sz ∧ d.K W p c ∧ G p ∧ ∀ j u, c[j]? = some u → W.cell? (a.add (i.1 * d.sz + j)) = some u := by
      intro i
      have hi : i.1 < elems.length := by have := i.2; omega
      have h1 := hel i.1 i.2
      rw [List.getElem?_eq_getElem hi] at h1
      obtain ⟨c, hcs, htr⟩ := Option.bind_eq_some_iff.1 h1
      obtain ⟨hcl, hcg⟩ := cells_get hcs
      obtain ⟨p, hK, hG⟩ := he H enc W n c _ htr (fun m hm => hw m (by
        simp only [DataW.weights, ht, List.mem_cons, List.mem_append]
        exact .inr (.inl (weights_all (List.mem_map.2 ⟨_, List.getElem_mem hi, rfl⟩) m hm))))
      refine ⟨p, c, by rw [hcl, hc], hK, hG, fun j u hu => ?_⟩
      have := hcg j u hu
      rw [add_add, hc] at this
      exact this
    refine ⟨List.ofFn fun i => Classical.choose (hall i), ⟨some a, cap, by simp, by simpa using hl, by simp, by simp only [maxLen] at hm; simp; omega, fun _ => ⟨a, rfl, fun j p hj => ?_⟩⟩, ?_, ?_⟩
    · obtain ⟨hjl, hjp⟩ := List.getElem?_eq_some_iff.1 hj
      simp only [List.length_ofFn] at hjl
      have h2 := Classical.choose_spec (hall ⟨j, hjl⟩)
      rw [List.getElem_ofFn] at hjp
      rw [hjp] at h2
      obtain ⟨c, h3, h4, _, h6⟩ := h2
      exact ⟨c, h3, h4, h6⟩
    · rw [List.length_ofFn]
      refine Nat.le_trans (Nat.mul_le_mul_right b ?_) hwt
      omega
    · intro p hp
      obtain ⟨i, rfl⟩ := (List.mem_ofFn).1 hp
      obtain ⟨_, _, _, h5, _⟩ := Classical.choose_spec (hall i)
      exact h5
/-- The fields of a struct from one on, one behind the other. -/
def OpensFields {α : Type} (P : Program) (fs : List Field) (off : Nat) (d : Kd α) (G : α → Prop) : Prop :=
  ∀ (H : Type) (enc : TypeId × Value → H) (W : World) (fuel : Nat) (cs : List Value) (xs : List (DataW H × List MemPlace)), off + d.sz = cs.length → xs.length = fs.length →
    (∀ (i : Nat) (f : Field), fs[i]? = some f → DataW.trod enc P W 0 (fun _ => true) true fuel f.type ((cs.drop f.offset).take (P.cellsOf f.type)) = xs[i]?) →
    (∀ n ∈ DataW.weightsEach P (fs.map (·.type)) (xs.map (·.1)), n ≤ reachBytes) → ∃ a, d.K W a (cs.drop off) ∧ G a
theorem opens_one {α : Type} {d : Kd α} {G : α → Prop} {f : Field} {off : Nat} (ho : f.offset = off) (hc : P.cellsOf f.type = d.sz) (he : Opens P f.type d G) : OpensFields P [f] off d G := by
  intro H enc W fuel cs xs hl hx hf hw
  match xs, hx with
  | [x], _ =>
    have h0 := hf 0 f rfl
    rw [ho, hc, List.take_of_length_le (by rw [List.length_drop]; omega)] at h0
    exact he H enc W fuel _ x h0 (fun n hn => hw n (by simpa [DataW.weightsEach] using hn))
theorem opens_more {α β : Type} {d : Kd α} {d2 : Kd β} {G : α → Prop} {G2 : β → Prop} {f : Field} {fs : List Field} {off : Nat} (ho : f.offset = off) (hc : P.cellsOf f.type = d.sz) (he : Opens P f.type d G) (hs : OpensFields P fs (off + d.sz) d2 G2) :
    OpensFields P (f :: fs) off (Kd.pair d d2) (fun p => G p.1 ∧ G2 p.2) := by
  intro H enc W fuel cs xs hl hx hf hw
  have hl' : off + (d.sz + d2.sz) = cs.length := hl
  match xs, hx with
  | x :: xs, hx =>
    have h0 := hf 0 f rfl
    rw [ho, hc] at h0
    obtain ⟨a, h1, h2⟩ := he H enc W fuel _ x h0 (fun n hn => hw n (by simp only [List.map_cons, DataW.weightsEach, List.mem_append]; exact .inl hn))
    obtain ⟨b, h3, h4⟩ := hs H enc W fuel cs xs (by omega) (by simpa using hx) (fun i g hg => by simpa using hf (i + 1) g (by simpa using hg)) (fun n hn => hw n (by simp only [List.map_cons, DataW.weightsEach, List.mem_append]; exact .inr hn))
    refine ⟨(a, b), ⟨_, _, ?_, h1, h3⟩, h2, h4⟩
    rw [← List.drop_drop, List.take_append_drop]
theorem opens_struct {α : Type} {d : Kd α} {G : α → Prop} {fs : Array Field} (ht : P.underlying t = some (.struct fs)) (hc : P.cellsOf t = d.sz) (hf : OpensFields P fs.toList 0 d G) : Opens P t d G := by
  intro H enc W fuel cs x h hw
  obtain ⟨xs, n, _, rfl, hl, hlen, hg⟩ := DataW.trod_struct ht h
  have := hf H enc W n cs xs (by omega) (by simpa using hlen) (fun i f hi => hg i f (by simpa using hi)) (fun m hm => hw m (by simpa [DataW.weights, ht] using hm))
  simpa using this
theorem opens_iso {α β : Type} {d : Kd α} {G : α → Prop} (f : β → α) (g : α → β) (hfg : ∀ a, f (g a) = a) (h : Opens P t d G) : Opens P t (Kd.iso d f) (fun b => G (f b)) := by
  intro H enc W fuel cs x hx hw
  obtain ⟨a, h1, h2⟩ := h H enc W fuel cs x hx hw
  exact ⟨g a, by show d.K W (f (g a)) cs; rw [hfg]; exact h1, by show G (f (g a)); rw [hfg]; exact h2⟩
/-- An array's elements, one behind the other. -/
theorem opens_array {α : Type} {d : Kd α} {G : α → Prop} {n : Nat} (ht : P.underlying t = some (.array n e)) (hc : P.cellsOf e = d.sz) (hct : P.cellsOf t = n * d.sz) (he : Opens P e d G)
    {H : Type} (enc : TypeId × Value → H) (W : World) (fuel : Nat) (cs : List Value) (x : DataW H × List MemPlace) (h : DataW.trod enc P W 0 (fun _ => true) true fuel t cs = some x) (hw : ∀ m ∈ x.1.weights P t, m ≤ reachBytes) :
    ∃ xs : List α, xs.length = n ∧ Reps (d.K W) d.sz xs cs ∧ ∀ a ∈ xs, G a := by
  obtain ⟨ys, m, _, rfl, hl, hlen, hg⟩ := DataW.trod_array ht h
  have hall : ∀ i : Fin n, ∃ p : α, d.K W p ((cs.drop (i.1 * d.sz)).take d.sz) ∧ G p := by
    intro i
    have hi : i.1 < ys.length := by have := i.2; omega
    have h1 := hg i.1 i.2
    rw [List.getElem?_eq_getElem hi, hc] at h1
    exact he H enc W m _ _ h1 (fun k hk => hw k (by
      simp only [DataW.weights, ht]
      exact weights_all (List.mem_map.2 ⟨_, List.getElem_mem hi, rfl⟩) k hk))
  refine ⟨List.ofFn fun i => Classical.choose (hall i), by simp, ⟨by rw [hl, hct, List.length_ofFn], fun j p hj => ?_⟩, fun p hp => ?_⟩
  · obtain ⟨hjl, hjp⟩ := List.getElem?_eq_some_iff.1 hj
    simp only [List.length_ofFn] at hjl
    have h2 := Classical.choose_spec (hall ⟨j, hjl⟩)
    rw [List.getElem_ofFn] at hjp
    rw [hjp] at h2
    exact h2.1
  · obtain ⟨i, rfl⟩ := (List.mem_ofFn).1 hp
    exact (Classical.choose_spec (hall i)).2
theorem okWide_array {W : World} {r : Reach} {b0 n : Nat} {v : Value} (ht : P.underlying t = some (.array n e)) (h : Value.okWide P W r b0 t v) : ∃ cs, v = .agg cs := by
  simp only [Value.okWide, ht] at h
  obtain ⟨cs, h1, _, _⟩ := h
  exact ⟨cs, h1⟩
theorem weights_each {H : Type} {P : Program} {ts : List TypeId} {ds : List (DataW H)} (h : (DataW.weightsEach P ts ds).all (· ≤ reachBytes) = true) {j : Nat} {t : TypeId} {d : DataW H} (ht : ts[j]? = some t) (hd : ds[j]? = some d) : ∀ n ∈ d.weights P t, n ≤ reachBytes := fun n hn => by
  simpa using List.all_eq_true.1 h _ (DataW.weights_mem_each ht hd n hn)
end
end Go.Proofs.Ytnbomjfpnpmllaa.Q
end
