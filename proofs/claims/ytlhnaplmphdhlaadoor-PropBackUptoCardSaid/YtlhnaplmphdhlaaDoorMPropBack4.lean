/- Contracts of Go functions and plain facts, of several texts, one behind the other; no condition. -/
import Derived.Test.YtlhnaplmphdhlaaDoorMPropBack2
import Derived.Test.YtlhnaplmphdhlaaDoorMPropBack3
import Derived.Shelf.Vars
import Derived.Shelf.Strings.Builder1
import Derived.Test.YtlhnaplmphdhlaaDoorProg
import Derived.Lib.ItoaNum
import Derived.Lib.IndexLaws
import Derived.Laws.Cover1
import Derived.Deep.QuietTactic
import Derived.BigQuiet
import Derived.ChangeArms
import Derived.OpenShut
import Derived.SizedLaws
section
namespace Go.Proofs.YtlhnaplmphdhlaaDoor.Q
open Go.RowKit Go.Proofs.YtlhnaplmphdhlaaDoorW.PrintWords Go.Proofs.YtlhnaplmphdhlaaDoorW.PrintLast Go.Proofs.YtlhnaplmphdhlaaDoorW.PrintMore
set_option linter.unusedVariables false
set_option linter.unusedSimpArgs false

attribute [local go_sem] max2_int min2_int max_two min_two max_three min_three max_four min_four
/-! ### tinderlaw05_same: function 29 -/
def tinderlaw05_same.l0 : Nat → List ByteArray → List ByteArray → Int → Option (Bool)
  | 0, _, _, _ => none
  | k + 1, x0, x1, x5 => if x5 < (x0.length : Int) then (if 0 ≤ x5 then (if x5 < (x1.length : Int) then (if (rdOf ByteArray.empty x0 x5).toList = (rdOf ByteArray.empty x1 x5).toList then (tinderlaw05_same.l0 k x0 x1 (wrap64 (x5 + 1))) else (some false)) else (none)) else (none)) else (some true)
def tinderlaw05_same.f (k : Nat) (l0 : List ByteArray) (l1 : List ByteArray) : Option (Bool) := if (l0.length : Int) = (l1.length : Int) then (tinderlaw05_same.l0 k l0 l1 0) else (some false)
set_option maxHeartbeats 8000000 in
set_option maxRecDepth 100000 in
theorem tinderlaw05_same.calls (k : Nat) (A0 : Option Addr) (c0 : Nat) (l0 : List ByteArray) (A1 : Option Addr) (c1 : Nat) (l1 : List ByteArray) (r : Bool) (w : World) (hr0 : Kd.C Kd.string w A0 l0.length l0) (hc0 : l0.length ≤ c0) (hr1 : Kd.C Kd.string w A1 l1.length l1) (hc1 : l1.length ≤ c1) (h : tinderlaw05_same.f k l0 l1 = some r) :
    Calls Tryd.prog 29 #[.slice A0 l0.length c0, .slice A1 l1.length c1] w fun e w' => e = .returned (.bool r) ∧ Drawn0 w w' := by
  have HR0 := Aside0.mk hr0
  have HC0 := Aside0.mk hc0
  clear hr0 hc0
  have HR1 := Aside0.mk hr1
  have HC1 := Aside0.mk hc1
  clear hr1 hc1
  have H : (if (l0.length : Int) = (l1.length : Int) then (tinderlaw05_same.l0 k l0 l1 0) else (some false)) = some r := h
  clear h
  by_cases c3 : (l0.length : Int) = (l1.length : Int)
  · rw [if_pos c3] at H
    have c3b0 : ((l0.length : Int) == (l1.length : Int)) = true := beq_iff_eq.mpr c3
    have c3b1 : ((l0.length : Int) != (l1.length : Int)) = false := bne_eq_false_iff_eq.mpr c3
    have c3b2 : (l0.length == l1.length) = true := by first | simpa using c3 | (simp at c3 ⊢; omega)
    clear c3
    have H' := Aside0.mk H
    clear H
    go_enter Tryd.func29, Tryd.ntmps29
    go_wp2
    repeat (go_quiet (fail); try go_wp2)
    go_loopg [5] k (fun kq v5 w' => ∃ (x5_1 : Int), v5 = .int .i64 x5_1 ∧ Aside0 (tinderlaw05_same.l0 kq l0 l1 x5_1 = some r) ∧ Aside0 (kq ≤ k) ∧ Drawn0 w w')
    case atStart => exact ⟨(0), (by first | rfl | (simp; done) | (simp [*]; done)), H', ⟨Nat.le_refl _⟩, by repeat (first | exact Drawn0.refl _ | apply Drawn0.step)⟩
    case round =>
      clear H'
      try clear c1
      try clear c2
      try clear p2
      try clear c3
      try clear c3b0
      try clear c3b1
      try clear c3b2
      obtain ⟨x5_1, rfl, HA, HK1, ⟨m1, rfl⟩⟩ := hrel
      cases gk with
      | zero => exact absurd HA.out (by simp [tinderlaw05_same.l0])
      | succ k1 =>
        have H := HA.out
        clear HA
        simp only [tinderlaw05_same.l0] at H
        by_cases c4 : x5_1 < (l0.length : Int)
        · rw [if_pos c4] at H
          have c4b0 : decide (x5_1 < (l0.length : Int)) = true := decide_eq_true c4
          clear c4
          by_cases c5 : 0 ≤ x5_1
          · rw [if_pos c5] at H
            have c5b0 : decide (0 ≤ x5_1) = true := decide_eq_true c5
            clear c5
            by_cases c6 : x5_1 < (l1.length : Int)
            · rw [if_pos c6] at H
              have c6b0 : decide (x5_1 < (l1.length : Int)) = true := decide_eq_true c6
              clear c6
              by_cases c7 : (rdOf ByteArray.empty l0 x5_1).toList = (rdOf ByteArray.empty l1 x5_1).toList
              · rw [if_pos c7] at H
                have c7b0 : ((rdOf ByteArray.empty l0 x5_1).toList == (rdOf ByteArray.empty l1 x5_1).toList) = true := beq_iff_eq.mpr c7
                have c7b1 : ((rdOf ByteArray.empty l0 x5_1).toList != (rdOf ByteArray.empty l1 x5_1).toList) = false := bne_eq_false_iff_eq.mpr c7
                clear c7
                have H' := Aside0.mk H
                clear H
                have p30001 : 0 ≤ (x5_1 : Int) := of_decide_eq_true (by first | (with_reducible assumption) | assumption)
                have q30001 : x5_1 < (l0.length : Int) := of_decide_eq_true (by first | (with_reducible assumption) | assumption)
                obtain ⟨ad30001, e30001, hx30001_0⟩ := Kd.at_string HR0.out x5_1 p30001 q30001
                cases e30001
                replace p30001 := eq_true p30001
                replace q30001 := eq_true q30001
                have p30002 : 0 ≤ (x5_1 : Int) := of_decide_eq_true (by first | (with_reducible assumption) | assumption)
                have q30002 : x5_1 < (l1.length : Int) := of_decide_eq_true (by first | (with_reducible assumption) | assumption)
                obtain ⟨ad30002, e30002, hx30002_0⟩ := Kd.at_string HR1.out x5_1 p30002 q30002
                cases e30002
                replace p30002 := eq_true p30002
                replace q30002 := eq_true q30002
                go_wp2
                repeat (go_quiet (fail); try go_wp2)
                go_roundg k1
                case measure => have := HK1.out; omega
                case rel => exact ⟨(wrap64 (x5_1 + 1)), (by first | rfl | (simp; done) | (simp [*]; done)), H', ⟨by have := HK1.out; omega⟩, by repeat (first | exact Drawn0.refl _ | apply Drawn0.step)⟩
              · rw [if_neg c7] at H
                have c7b0 : ((rdOf ByteArray.empty l0 x5_1).toList == (rdOf ByteArray.empty l1 x5_1).toList) = false := beq_eq_false_iff_ne.mpr c7
                have c7b1 : ((rdOf ByteArray.empty l0 x5_1).toList != (rdOf ByteArray.empty l1 x5_1).toList) = true := bne_iff_ne.mpr c7
                obtain rfl := Option.some.inj H
                have p30001 : 0 ≤ (x5_1 : Int) := of_decide_eq_true (by first | (with_reducible assumption) | assumption)
                have q30001 : x5_1 < (l0.length : Int) := of_decide_eq_true (by first | (with_reducible assumption) | assumption)
                obtain ⟨ad30001, e30001, hx30001_0⟩ := Kd.at_string HR0.out x5_1 p30001 q30001
                cases e30001
                replace p30001 := eq_true p30001
                replace q30001 := eq_true q30001
                have p30002 : 0 ≤ (x5_1 : Int) := of_decide_eq_true (by first | (with_reducible assumption) | assumption)
                have q30002 : x5_1 < (l1.length : Int) := of_decide_eq_true (by first | (with_reducible assumption) | assumption)
                obtain ⟨ad30002, e30002, hx30002_0⟩ := Kd.at_string HR1.out x5_1 p30002 q30002
                cases e30002
                replace p30002 := eq_true p30002
                replace q30002 := eq_true q30002
                go_wp2
                repeat (go_quiet (fail); try go_wp2)
                go_ret
                exact ⟨by first | rfl | (simp; done) | (simp [*]; done), by repeat (first | exact Drawn0.refl _ | apply Drawn0.step)⟩
            · rw [if_neg c6] at H
              exact absurd H (by simp)
          · rw [if_neg c5] at H
            exact absurd H (by simp)
        · rw [if_neg c4] at H
          have c4b0 : decide (x5_1 < (l0.length : Int)) = false := decide_eq_false c4
          clear c4
          obtain rfl := Option.some.inj H
          go_wp2
          repeat (go_quiet (fail); try go_wp2)
          go_ret
          exact ⟨by first | rfl | (simp; done) | (simp [*]; done), by repeat (first | exact Drawn0.refl _ | apply Drawn0.step)⟩
  · rw [if_neg c3] at H
    have c3b0 : ((l0.length : Int) == (l1.length : Int)) = false := beq_eq_false_iff_ne.mpr c3
    have c3b1 : ((l0.length : Int) != (l1.length : Int)) = true := bne_iff_ne.mpr c3
    have c3b2 : (l0.length == l1.length) = false := by first | simpa using c3 | (simp at c3 ⊢; omega)
    obtain rfl := Option.some.inj H
    go_enter Tryd.func29, Tryd.ntmps29
    go_wp2
    repeat (go_quiet (fail); try go_wp2)
    go_ret
    exact ⟨by first | rfl | (simp; done) | (simp [*]; done), by repeat (first | exact Drawn0.refl _ | apply Drawn0.step)⟩

end Go.Proofs.YtlhnaplmphdhlaaDoor.Q
end
section
namespace Go.Proofs.YtlhnaplmphdhlaaDoor.Q
open Go.RowKit Go.Proofs.YtlhnaplmphdhlaaDoorW.PrintWords Go.Proofs.YtlhnaplmphdhlaaDoorW.PrintLast Go.Proofs.YtlhnaplmphdhlaaDoorW.PrintMore
set_option linter.unusedVariables false
set_option linter.unusedSimpArgs false

attribute [local go_sem] max2_int min2_int max_two min_two max_three min_three max_four min_four
/-! ### tinderref03_Same: function 28 -/
def tinderref03_Same.l0 : Nat → List Int → List Int → Int → Option (Bool)
  | 0, _, _, _ => none
  | k + 1, x0, x1, x5 => if x5 < (x0.length : Int) then (if 0 ≤ x5 then (if x5 < (x1.length : Int) then (if (rd x0 x5) = (rd x1 x5) then (tinderref03_Same.l0 k x0 x1 (wrap64 (x5 + 1))) else (some false)) else (none)) else (none)) else (some true)
def tinderref03_Same.f (k : Nat) (l0 : List Int) (l1 : List Int) : Option (Bool) := if (l0.length : Int) = (l1.length : Int) then (tinderref03_Same.l0 k l0 l1 0) else (some false)
set_option maxHeartbeats 8000000 in
set_option maxRecDepth 100000 in
theorem tinderref03_Same.calls (k : Nat) (A0 : Option Addr) (c0 : Nat) (l0 : List Int) (A1 : Option Addr) (c1 : Nat) (l1 : List Int) (r : Bool) (w : World) (hr0 : Kd.C (Kd.int .u32) w A0 l0.length l0) (hc0 : l0.length ≤ c0) (hr1 : Kd.C (Kd.int .u32) w A1 l1.length l1) (hc1 : l1.length ≤ c1) (h : tinderref03_Same.f k l0 l1 = some r) :
    Calls Tryd.prog 28 #[.slice A0 l0.length c0, .slice A1 l1.length c1] w fun e w' => e = .returned (.bool r) ∧ Drawn0 w w' := by
  have HR0 := Aside0.mk hr0
  have HC0 := Aside0.mk hc0
  clear hr0 hc0
  have HR1 := Aside0.mk hr1
  have HC1 := Aside0.mk hc1
  clear hr1 hc1
  have H : (if (l0.length : Int) = (l1.length : Int) then (tinderref03_Same.l0 k l0 l1 0) else (some false)) = some r := h
  clear h
  by_cases c3 : (l0.length : Int) = (l1.length : Int)
  · rw [if_pos c3] at H
    have c3b0 : ((l0.length : Int) == (l1.length : Int)) = true := beq_iff_eq.mpr c3
    have c3b1 : ((l0.length : Int) != (l1.length : Int)) = false := bne_eq_false_iff_eq.mpr c3
    have c3b2 : (l0.length == l1.length) = true := by first | simpa using c3 | (simp at c3 ⊢; omega)
    clear c3
    have H' := Aside0.mk H
    clear H
    go_enter Tryd.func28, Tryd.ntmps28
    go_wp2
    repeat (go_quiet (fail); try go_wp2)
    go_loopg [5] k (fun kq v5 w' => ∃ (x5_1 : Int), v5 = .int .i64 x5_1 ∧ Aside0 (tinderref03_Same.l0 kq l0 l1 x5_1 = some r) ∧ Aside0 (kq ≤ k) ∧ Drawn0 w w')
    case atStart => exact ⟨(0), (by first | rfl | (simp; done) | (simp [*]; done)), H', ⟨Nat.le_refl _⟩, by repeat (first | exact Drawn0.refl _ | apply Drawn0.step)⟩
    case round =>
      clear H'
      try clear c1
      try clear c2
      try clear p2
      try clear c3
      try clear c3b0
      try clear c3b1
      try clear c3b2
      obtain ⟨x5_1, rfl, HA, HK1, ⟨m1, rfl⟩⟩ := hrel
      cases gk with
      | zero => exact absurd HA.out (by simp [tinderref03_Same.l0])
      | succ k1 =>
        have H := HA.out
        clear HA
        simp only [tinderref03_Same.l0] at H
        by_cases c4 : x5_1 < (l0.length : Int)
        · rw [if_pos c4] at H
          have c4b0 : decide (x5_1 < (l0.length : Int)) = true := decide_eq_true c4
          clear c4
          by_cases c5 : 0 ≤ x5_1
          · rw [if_pos c5] at H
            have c5b0 : decide (0 ≤ x5_1) = true := decide_eq_true c5
            clear c5
            by_cases c6 : x5_1 < (l1.length : Int)
            · rw [if_pos c6] at H
              have c6b0 : decide (x5_1 < (l1.length : Int)) = true := decide_eq_true c6
              clear c6
              by_cases c7 : (rd l0 x5_1) = (rd l1 x5_1)
              · rw [if_pos c7] at H
                have c7b0 : ((rd l0 x5_1) == (rd l1 x5_1)) = true := beq_iff_eq.mpr c7
                have c7b1 : ((rd l0 x5_1) != (rd l1 x5_1)) = false := bne_eq_false_iff_eq.mpr c7
                clear c7
                have H' := Aside0.mk H
                clear H
                have p29001 : 0 ≤ (x5_1 : Int) := of_decide_eq_true (by first | (with_reducible assumption) | assumption)
                have q29001 : x5_1 < (l0.length : Int) := of_decide_eq_true (by first | (with_reducible assumption) | assumption)
                obtain ⟨ad29001, e29001, hx29001_0⟩ := Kd.at_int HR0.out x5_1 p29001 q29001
                cases e29001
                replace p29001 := eq_true p29001
                replace q29001 := eq_true q29001
                have p29002 : 0 ≤ (x5_1 : Int) := of_decide_eq_true (by first | (with_reducible assumption) | assumption)
                have q29002 : x5_1 < (l1.length : Int) := of_decide_eq_true (by first | (with_reducible assumption) | assumption)
                obtain ⟨ad29002, e29002, hx29002_0⟩ := Kd.at_int HR1.out x5_1 p29002 q29002
                cases e29002
                replace p29002 := eq_true p29002
                replace q29002 := eq_true q29002
                go_wp2
                repeat (go_quiet (fail); try go_wp2)
                go_roundg k1
                case measure => have := HK1.out; omega
                case rel => exact ⟨(wrap64 (x5_1 + 1)), (by first | rfl | (simp; done) | (simp [*]; done)), H', ⟨by have := HK1.out; omega⟩, by repeat (first | exact Drawn0.refl _ | apply Drawn0.step)⟩
              · rw [if_neg c7] at H
                have c7b0 : ((rd l0 x5_1) == (rd l1 x5_1)) = false := beq_eq_false_iff_ne.mpr c7
                have c7b1 : ((rd l0 x5_1) != (rd l1 x5_1)) = true := bne_iff_ne.mpr c7
                obtain rfl := Option.some.inj H
                have p29001 : 0 ≤ (x5_1 : Int) := of_decide_eq_true (by first | (with_reducible assumption) | assumption)
                have q29001 : x5_1 < (l0.length : Int) := of_decide_eq_true (by first | (with_reducible assumption) | assumption)
                obtain ⟨ad29001, e29001, hx29001_0⟩ := Kd.at_int HR0.out x5_1 p29001 q29001
                cases e29001
                replace p29001 := eq_true p29001
                replace q29001 := eq_true q29001
                have p29002 : 0 ≤ (x5_1 : Int) := of_decide_eq_true (by first | (with_reducible assumption) | assumption)
                have q29002 : x5_1 < (l1.length : Int) := of_decide_eq_true (by first | (with_reducible assumption) | assumption)
                obtain ⟨ad29002, e29002, hx29002_0⟩ := Kd.at_int HR1.out x5_1 p29002 q29002
                cases e29002
                replace p29002 := eq_true p29002
                replace q29002 := eq_true q29002
                go_wp2
                repeat (go_quiet (fail); try go_wp2)
                go_ret
                exact ⟨by first | rfl | (simp; done) | (simp [*]; done), by repeat (first | exact Drawn0.refl _ | apply Drawn0.step)⟩
            · rw [if_neg c6] at H
              exact absurd H (by simp)
          · rw [if_neg c5] at H
            exact absurd H (by simp)
        · rw [if_neg c4] at H
          have c4b0 : decide (x5_1 < (l0.length : Int)) = false := decide_eq_false c4
          clear c4
          obtain rfl := Option.some.inj H
          go_wp2
          repeat (go_quiet (fail); try go_wp2)
          go_ret
          exact ⟨by first | rfl | (simp; done) | (simp [*]; done), by repeat (first | exact Drawn0.refl _ | apply Drawn0.step)⟩
  · rw [if_neg c3] at H
    have c3b0 : ((l0.length : Int) == (l1.length : Int)) = false := beq_eq_false_iff_ne.mpr c3
    have c3b1 : ((l0.length : Int) != (l1.length : Int)) = true := bne_iff_ne.mpr c3
    have c3b2 : (l0.length == l1.length) = false := by first | simpa using c3 | (simp at c3 ⊢; omega)
    obtain rfl := Option.some.inj H
    go_enter Tryd.func28, Tryd.ntmps28
    go_wp2
    repeat (go_quiet (fail); try go_wp2)
    go_ret
    exact ⟨by first | rfl | (simp; done) | (simp [*]; done), by repeat (first | exact Drawn0.refl _ | apply Drawn0.step)⟩

end Go.Proofs.YtlhnaplmphdhlaaDoor.Q
end
section
set_option linter.unusedSimpArgs false
set_option linter.unusedVariables false
namespace Go.Proofs.YtlhnaplmphdhlaaDoor.Q
open Go.RowKit Go.Proofs.YtlhnaplmphdhlaaDoorW.PrintWords Go.Proofs.YtlhnaplmphdhlaaDoorW.PrintLast Go.Proofs.YtlhnaplmphdhlaaDoorW.PrintMore
attribute [local go_sem] max2_int min2_int max_two min_two max_three min_three max_four min_four
theorem cell0 {w : World} (h : w.ShapedOpen Tryd.prog) : ∃ m, w.cell? ⟨0, 0, none⟩ = some (.int .i64 m) :=
  cell_of_shapedOpen_int (t := 3) (zero := #[.int .i64 0]) h (by decide +kernel) (by kernel_rfl) rfl (by kernel_rfl) (by kernel_rfl) Tryd.underlying3
theorem sames_l0 (L : List ByteArray) (hl : L.length ≤ 1000000000) : ∀ (k : Nat) (i : Int), 0 ≤ i → i ≤ L.length → L.length + 1 ≤ k + i → tinderlaw05_same.l0 k L L i = some true := by
  intro k
  induction k with
  | zero => intro i h0 hi hk; exact absurd hk (by omega)
  | succ k ih =>
    intro i h0 hi hk
    unfold tinderlaw05_same.l0
    by_cases h : i < (L.length : Int)
    · rw [if_pos h, if_pos h0, if_pos h, if_pos rfl, show wrap64 (i + 1) = i + 1 by unfold wrap64; omega]
      exact ih (i + 1) (by omega) (by omega) (by omega)
    · rw [if_neg h]
theorem sameu_l0 (L : List Int) (hl : L.length ≤ 1000000000) : ∀ (k : Nat) (i : Int), 0 ≤ i → i ≤ L.length → L.length + 1 ≤ k + i → tinderref03_Same.l0 k L L i = some true := by
  intro k
  induction k with
  | zero => intro i h0 hi hk; exact absurd hk (by omega)
  | succ k ih =>
    intro i h0 hi hk
    unfold tinderref03_Same.l0
    by_cases h : i < (L.length : Int)
    · rw [if_pos h, if_pos h0, if_pos h, if_pos rfl, show wrap64 (i + 1) = i + 1 by unfold wrap64; omega]
      exact ih (i + 1) (by omega) (by omega) (by omega)
    · rw [if_neg h]
theorem sames_at (A : Option Addr) (c : Nat) (B : Option Addr) (d : Nat) (L : List ByteArray) (hl : L.length ≤ 1000000000) (W : World) (h1 : Kd.C Kd.string W A L.length L) (hc : L.length ≤ c) (h2 : Kd.C Kd.string W B L.length L) (hd : L.length ≤ d) :
    Calls Tryd.prog 29 #[.slice A L.length c, .slice B L.length d] W fun e w' => e = .returned (.bool true) ∧ Below W.heap.size W w' := by
  refine (tinderlaw05_same.calls (L.length + 1) A c L B d L true W h1 hc h2 hd (by unfold tinderlaw05_same.f; rw [if_pos rfl]; exact sames_l0 L hl _ _ (Int.le_refl _) (by omega) (by omega))).mono ?_
  rintro e w' ⟨rfl, h⟩
  exact ⟨rfl, h.below⟩
theorem sameu_at (A : Option Addr) (c : Nat) (B : Option Addr) (d : Nat) (L : List Int) (hl : L.length ≤ 1000000000) (W : World) (h1 : Kd.C (Kd.int .u32) W A L.length L) (hc : L.length ≤ c) (h2 : Kd.C (Kd.int .u32) W B L.length L) (hd : L.length ≤ d) :
    Calls Tryd.prog 28 #[.slice A L.length c, .slice B L.length d] W fun e w' => e = .returned (.bool true) ∧ Below W.heap.size W w' := by
  refine (tinderref03_Same.calls (L.length + 1) A c L B d L true W h1 hc h2 hd (by unfold tinderref03_Same.f; rw [if_pos rfl]; exact sameu_l0 L hl _ _ (Int.le_refl _) (by omega) (by omega))).mono ?_
  rintro e w' ⟨rfl, h⟩
  exact ⟨rfl, h.below⟩
/-- What Ints answers, on both sides. -/
def intsG (L : List Int) : List Int × Int := if L.length % 4 = 0 then (allNums L, 0) else ([], 15)
theorem intsG_calls (A : Option Addr) (c : Nat) (L : List Int) (w : World) (hC : Kd.C (Kd.int .u8) w A L.length L) (hc : L.length ≤ c) (hl : L.length ≤ 4000000) :
    Calls Tryd.prog 24 #[.slice A L.length c] w fun e w' => ∃ v, e = .returned (.tuple #[v, .int .i64 (intsG L).2]) ∧ Kd.R (Kd.int .u32) 24 w' w.heap.size (fun _ => True) v (intsG L).1 ∧ Below w.heap.size w w' :=
  prop_Ints.calls A c L _ _ w hC hc (by unfold prop_Ints.f intsG; split <;> first | rfl | (rw [if_pos hl]))
end Go.Proofs.YtlhnaplmphdhlaaDoor.Q
end
section
set_option linter.unusedSimpArgs false
set_option linter.unusedVariables false
namespace Go.Proofs.YtlhnaplmphdhlaaDoor.Q
open Go.RowKit Go.Shelf Go.Proofs.YtlhnaplmphdhlaaDoorW.PrintWords Go.Proofs.YtlhnaplmphdhlaaDoorW.PrintLast
/-- All blocks of another type than bytes, but b, are as they were. -/
def KeepT (b : Nat) (w w' : World) : Prop := ∀ k cs t fr, k ≠ b → t ≠ 5 → w.heap[k]? = some (.cells cs t fr) → w'.heap[k]? = some (.cells cs t fr)
end Go.Proofs.YtlhnaplmphdhlaaDoor.Q
end
section
namespace Go.Proofs
open Go.Shelf
def Tryd.lays170_ren : Go.Shelf.Ren := ⟨fun | 170 => 65 | n => n, fun | 70 => 85 | 3 => 3 | 0 => 0 | 72 => 87 | 37 => 25 | 5 => 5 | n => n, fun | n => n⟩
def Tryd.lays169_ren : Go.Shelf.Ren := ⟨fun | 169 => 66 | n => n, fun | 70 => 85 | 9 => 9 | 0 => 0 | 72 => 87 | 37 => 25 | 127 => 108 | 3 => 3 | 5 => 5 | n => n, fun | n => n⟩
end Go.Proofs
end
section
namespace Go.Proofs.YtlhnaplmphdhlaaDoor.Q
open Go.RowKit Go.Proofs.YtlhnaplmphdhlaaDoorW.PrintWords Go.Proofs.YtlhnaplmphdhlaaDoorW.PrintLast
def joinB (l : List ByteArray) (sep : ByteArray) : ByteArray := ⟨(Lib.join (l.map (·.data.toList)) sep.data.toList).toArray⟩
def strings_Join.f (l : List ByteArray) (sep : ByteArray) : Option ByteArray := if l.length ≤ 140737488355328 ∧ (joinB l sep).size ≤ 140737488355328 then some (joinB l sep) else none
theorem strings_Join.calls (A0 : Option Addr) (c0 : Nat) (l0 : List ByteArray) (a1 : ByteArray) (r : ByteArray) (w : World) (hr0 : Kd.C Kd.string w A0 l0.length l0) (hc0 : l0.length ≤ c0) (h : strings_Join.f l0 a1 = some r) :
    Calls Tryd.prog 57 #[.slice A0 l0.length c0, .string a1] w fun e w' => e = .returned (.string r) ∧ Below w.heap.size w w' := by
  unfold strings_Join.f at h
  split at h
  case isFalse => cases h
  rename_i hs
  obtain rfl := Option.some.inj h
  by_cases h0 : l0.length = 0
  · obtain rfl := List.eq_nil_of_length_eq_zero h0
    refine (Tryd.strings_Join_none A0 c0 a1 w).mono ?_
    rintro e w' ⟨rfl, rfl⟩
    exact ⟨rfl, Below.refl _ _⟩
  · obtain ⟨ad, rfl, hx⟩ := (Kd.reads_of_C (enc := Value.string) (d := ByteArray.empty) (h1 := fun _ => rfl) hr0).2.2 (by omega)
    have h00 := hx 0 (by omega)
    obtain ⟨bk, o, sp⟩ := ad
    have hsp : sp = none := by
      cases sp with
      | none => rfl
      | some y =>
        rw [show (⟨bk, o, some y⟩ : Addr).add 0 = ⟨bk, o, some y⟩ from rfl] at h00
        unfold World.cell? at h00
        split at h00 <;> simp at h00
    subst hsp
    have hb := World.block_lt_of_cell? w _ h00
    refine (Tryd.strings_Join bk o c0 l0 a1 w (fun j x hj => ?_) hb hs.1 hc0 (by have := hs.2; unfold joinB at this; simpa [ByteArray.size] using this)).mono ?_
    · have hjl := (List.getElem?_eq_some_iff.1 hj).1
      have h2 := hx j hjl
      rw [List.getD_eq_getElem?_getD, hj, Option.getD_some] at h2
      rw [← h2]
      congr 1
      unfold Addr.add
      split
      · rename_i h; subst h; rfl
      · rfl
    · rintro e w' ⟨rfl, hb⟩
      exact ⟨rfl, hb⟩
end Go.Proofs.YtlhnaplmphdhlaaDoor.Q
end
section
namespace Go.Proofs.YtlhnaplmphdhlaaDoor.Q
open Go.RowKit Go.Proofs.YtlhnaplmphdhlaaDoorW.PrintWords Go.Proofs.YtlhnaplmphdhlaaDoorW.PrintLast Go.Proofs.YtlhnaplmphdhlaaDoorW.PrintMore
def chN (v : Nat) : Nat := if v < 10 then 48 + v else 87 + v
def showL (b u : Nat) : List UInt8 := if _h : u < b ∨ b < 2 then [UInt8.ofNat (chN u)] else showL b (u / b) ++ [UInt8.ofNat (chN (u % b))]
termination_by u
decreasing_by exact Nat.div_lt_self (by omega) (by omega)
theorem showL_small {b u : Nat} (h : u < b) : showL b u = [UInt8.ofNat (chN u)] := by rw [showL, dif_pos (.inl h)]
theorem showL_big {b u : Nat} (hb : 2 ≤ b) (h : b ≤ u) : showL b u = showL b (u / b) ++ [UInt8.ofNat (chN (u % b))] := by rw [showL, dif_neg (by omega)]
theorem showL_len (b : Nat) (hb : 2 ≤ b) (k : Nat) : ∀ u : Nat, u < 2 ^ (k + 1) → (showL b u).length ≤ k + 1 := by
  induction k with
  | zero =>
    intro u hu
    rw [showL_small (by omega)]
    simp
  | succ k ih =>
    intro u hu
    by_cases h : u < b
    · rw [showL_small h]; simp
    · rw [showL_big hb (by omega), List.length_append]
      have h1 : u / b ≤ u / 2 := Nat.div_le_div_left hb (by omega)
      have h2 : u / 2 < 2 ^ (k + 1) := by
        rw [Nat.pow_succ] at hu
        omega
      have := ih (u / b) (by omega)
      simp
      omega
theorem showL_pos (b u : Nat) : 1 ≤ (showL b u).length := by
  rw [showL]
  split
  · simp
  · rw [List.length_append]; simp
theorem showL_one {b u : Nat} (hb : 2 ≤ b) (h : (showL b u).length = 1) : u < b := by
  rcases Nat.lt_or_ge u b with h1 | h1
  · exact h1
  · rw [showL_big hb h1, List.length_append] at h
    have := showL_pos b (u / b)
    rw [List.length_singleton] at h
    omega
theorem showL_more {b u k : Nat} (hb : 2 ≤ b) (h : (showL b u).length = k + 1 + 1) : b ≤ u ∧ (showL b (u / b)).length = k + 1 := by
  rcases Nat.lt_or_ge u b with h1 | h1
  · rw [showL_small h1] at h
    simp at h
  · refine ⟨h1, ?_⟩
    rw [showL_big hb h1, List.length_append] at h
    simpa using h
def showI (b u : Int) : List Int := (showL b.toNat u.toNat).map fun c => (c.toNat : Int)
def chI (v : Int) : Int := if v < 10 then v + 48 else v + 87
theorem ch_eq (v : Nat) (h : v < 36) : ((UInt8.ofNat (chN v)).toNat : Int) = chI v := by
  unfold chN chI
  by_cases h1 : v < 10
  · rw [if_pos h1, if_pos (by omega), UInt8.toNat_ofNat']
    omega
  · rw [if_neg h1, if_neg (by omega), UInt8.toNat_ofNat']
    omega
theorem showI_small {b u : Int} (h0 : 0 ≤ u) (h : u < b) (hb : b ≤ 36) : showI b u = [chI u] := by
  unfold showI
  rw [showL_small (by omega), List.map_singleton, ch_eq _ (by omega), Int.toNat_of_nonneg h0]
theorem showI_big {b u : Int} (hb : 2 ≤ b) (hb2 : b ≤ 36) (h : b ≤ u) : showI b u = showI b (u / b) ++ [chI (u % b)] := by
  unfold showI
  have e1 : (u / b).toNat = u.toNat / b.toNat := by
    obtain ⟨n, rfl⟩ := Int.eq_ofNat_of_zero_le (show 0 ≤ u by omega)
    obtain ⟨m, rfl⟩ := Int.eq_ofNat_of_zero_le (show 0 ≤ b by omega)
    rfl
  have e2 : ((u.toNat % b.toNat : Nat) : Int) = u % b := by
    rw [Int.natCast_emod, Int.toNat_of_nonneg (by omega), Int.toNat_of_nonneg (by omega)]
  rw [showL_big (by omega) (by omega), List.map_append, List.map_singleton, ch_eq _ (by have := Nat.mod_lt u.toNat (show 0 < b.toNat by omega); omega), e1, e2]
theorem digits_ch (v : Int) (h : 0 ≤ v ∧ v < 36) : bt digitsB v = chI v := digits_at v h
/-- A block of bytes as a row of the call's own. -/
theorem R_arr {W : World} {base g : Nat} {L : List Int} {t : TypeId} (h : W.heap[g]? = some (.cells (L.map (Value.int .u8)).toArray t (0, 0))) (hb : base ≤ g) (hl : L.length ≤ 9223372036854775807) :
    Kd.R (Kd.int .u8) t W base (fun _ => True) (.slice (some ⟨g, 0, none⟩) L.length L.length) L := by
  have e : (Kd.int .u8).sz = 1 := rfl
  refine ⟨fun _ _ => trivial, L.map (Value.int .u8), ⟨by rw [List.length_map, e, Nat.mul_one], .inr ⟨g, L.length, _, rfl, hb, h, Nat.le_refl _, hl, by rw [List.size_toArray, List.length_map, e, Nat.mul_one], ?_⟩⟩, reps_scalar_mk (enc := Value.int .u8) (R := (Kd.int .u8).M W base _) (fun _ => rfl) L⟩
  rw [e, Nat.mul_one]
  exact List.take_of_length_le (by rw [List.length_map]; exact Nat.le_refl _)
end Go.Proofs.YtlhnaplmphdhlaaDoor.Q
end
section
namespace Go.Proofs.YtlhnaplmphdhlaaDoor.Q
open Go.RowKit Go.Proofs.YtlhnaplmphdhlaaDoorW.PrintWords Go.Proofs.YtlhnaplmphdhlaaDoorW.PrintLast Go.Proofs.YtlhnaplmphdhlaaDoorW.PrintMore
set_option linter.unusedVariables false
set_option linter.unusedSimpArgs false

attribute [local go_sem] max2_int min2_int max_two min_two max_three min_three max_four min_four
/-! ### strconv_isPowerOfTwo: function 116 -/
def strconv_isPowerOfTwo.f (a0 : Int) : Option (Bool) := some ((Go.bits .and .i64 a0 (wrap64 (a0 - 1))) == 0)
set_option maxHeartbeats 8000000 in
set_option maxRecDepth 100000 in
theorem strconv_isPowerOfTwo.calls (a0 : Int) (r : Bool) (w : World) (h : strconv_isPowerOfTwo.f a0 = some r) :
    Calls Tryd.prog 116 #[.int .i64 a0] w fun e w' => e = .returned (.bool r) ∧ Drawn0 w w' := by
  have H : (some ((Go.bits .and .i64 a0 (wrap64 (a0 - 1))) == 0)) = some r := h
  clear h
  obtain rfl := Option.some.inj H
  go_enter Tryd.func116, Tryd.ntmps116
  go_wp2
  go_ret
  exact ⟨by first | rfl | (simp; done) | (simp [*]; done), by repeat (first | exact Drawn0.refl _ | apply Drawn0.step)⟩

end Go.Proofs.YtlhnaplmphdhlaaDoor.Q
end
section
namespace Go.Proofs.YtlhnaplmphdhlaaDoor.Q
open Go.RowKit Go.Proofs.YtlhnaplmphdhlaaDoorW.PrintWords Go.Proofs.YtlhnaplmphdhlaaDoorW.PrintLast Go.Proofs.YtlhnaplmphdhlaaDoorW.PrintMore
theorem digits_idx (v : Int) (h : 0 ≤ v ∧ v < 36) : ∀ hh : v.toNat < (⟨#[48, 49, 50, 51, 52, 53, 54, 55, 56, 57, 97, 98, 99, 100, 101, 102, 103, 104, 105, 106, 107, 108, 109, 110, 111, 112, 113, 114, 115, 116, 117, 118, 119, 120, 121, 122]⟩ : ByteArray).size, (((⟨#[48, 49, 50, 51, 52, 53, 54, 55, 56, 57, 97, 98, 99, 100, 101, 102, 103, 104, 105, 106, 107, 108, 109, 110, 111, 112, 113, 114, 115, 116, 117, 118, 119, 120, 121, 122]⟩ : ByteArray)[v.toNat]'hh).toNat : Int) = chI v := fun hh => (bt_at (⟨#[48, 49, 50, 51, 52, 53, 54, 55, 56, 57, 97, 98, 99, 100, 101, 102, 103, 104, 105, 106, 107, 108, 109, 110, 111, 112, 113, 114, 115, 116, 117, 118, 119, 120, 121, 122]⟩ : ByteArray) v hh).trans (digits_ch v h)
theorem drop_set_at (L : List Int) (j : Nat) (x : Int) (h : j < L.length) : (L.set j x).drop j = x :: L.drop (j + 1) := by
  rw [List.drop_eq_getElem_cons (by rw [List.length_set]; exact h), List.getElem_set_self, List.drop_set_of_lt (by omega)]
theorem slice_arr (gb : Nat) (j : Int) (h : 0 ≤ j ∧ j < 65) (W : World) : (Instr.sliceAt 133 (.pointer (some ⟨gb, 0, none⟩)) (some (.int .i64 j)) none none).run Tryd.prog W = .ok (.slice (some ⟨gb, j.toNat, none⟩) (65 - j.toNat) (65 - j.toNat)) W := by
  have hal : Tryd.prog.arrayLen 133 = 65 := by kernel_rfl
  have hel : Tryd.prog.elem 133 = 5 := by kernel_rfl
  rw [run_sliceAt_array_l W 133 ⟨gb, 0, none⟩ (by kernel_rfl) .i64 j h.1 (by rw [hal]; omega), hal, hel, run_size (sz := 1) (by kernel_rfl) W]
  show Result.ok (slicedAt ⟨gb, 0, none⟩ j.toNat 65 65 1) W = _
  unfold slicedAt
  rw [if_neg (by omega), Nat.mul_one, add_plain]
def Z65 : List Value := (List.replicate 65 (0 : Int)).map (Value.int .u8)
theorem and_mask (u : Int) (s : Nat) (h0 : 0 ≤ u) (h1 : u < 18446744073709551616 ∧ s < 8) : bits .and .u64 u (2 ^ s - 1 : Nat) = u % (2 ^ s : Nat) := by
  obtain ⟨n, rfl⟩ := Int.eq_ofNat_of_zero_le h0
  have h2 : 2 ^ s ≤ 2 ^ 8 := Nat.pow_le_pow_right (by decide) (by omega)
  rw [bits_and_u64_nat n (2 ^ s - 1) (by omega) (by omega), Nat.and_two_pow_sub_one_eq_mod]
  rfl
set_option maxRecDepth 100000 in
theorem tz64_16 (w : World) (ht : QB.Tabs w) : Calls Tryd.prog 120 #[.int .u64 16] w fun e w' => e = .returned (.int .i64 4) ∧ w' = w := by
  have hc : w.cell? ⟨5, 15, none⟩ = some (.int .u8 4) := ht.at_bits_deBruijn64tab 15 (by decide)
  have e1 : IntKind.u64.wrap (bits .and .u64 16 (IntKind.u64.wrap (-16)) * 285870213051353865) / 288230376151711744 = 15 := by kernel_rfl
  clear ht
  go_enter Tryd.func120, Tryd.ntmps120
  go_wp2
  go_ret
  exact ⟨rfl, rfl⟩
set_option maxRecDepth 100000 in
theorem tz_16 (w : World) (ht : QB.Tabs w) : Calls Tryd.prog 117 #[.int .u64 16] w fun e w' => e = .returned (.int .i64 4) ∧ Below w.heap.size w w' := by
  have HT := Aside0.mk ht
  clear ht
  go_enter Tryd.func117, Tryd.ntmps117
  go_wp2_with (first
    | (go_at_call 120; refine (tz64_16 _ HT.out).mono ?_; rintro e w1 ⟨rfl, rfl⟩))
  go_ret
  exact ⟨rfl, Below.refl _ _⟩
set_option maxHeartbeats 4000000 in
set_option maxRecDepth 100000 in
theorem formatBits_p16 (u0 : Int) (hu : 0 ≤ u0 ∧ u0 < 4294967296) (w : World) (ht : QB.Tabs w) :
    Calls Tryd.prog 109 #[.slice none 0 0, .int .u64 u0, .int .i64 16, .bool false, .bool false] w fun e w' => e = .returned (.tuple #[.slice none 0 0, .string (strOfNums (showI 16 u0))]) ∧ Below w.heap.size w w' := by
  have HP := Aside0.mk (show strconv_isPowerOfTwo.f 16 = some true by kernel_rfl)
  have HBb := Aside0.mk (show (2 : Int) ≤ 16 ∧ (16 : Int) ≤ 36 ∧ (16 : Int) ≠ 10 by decide)
  have HT := Aside0.mk ht
  have hb := HBb.out
  have HU := Aside0.mk hu
  have HB := Aside0.mk (Below.refl w.heap.size w)
  obtain ⟨Z, hZ⟩ : ∃ Z, Z = Z65 := ⟨_, rfl⟩
  have HZ := Aside0.mk hZ
  clear ht hb hu hZ
  go_enter Tryd.func109, Tryd.ntmps109
  go_wp2_with (first
    | ((with_reducible refine gate_dst (N := 12) rfl ?_); refine box_event ?hg (N := 12) ?hd (cs := Z.toArray) (t := 133) ?hr ?_; (case hd => rfl); (case hg => rfl); (case hr => have hZ2 := HZ.out; first | (go_simp; done) | (go_simp; rfl)); intro gb hg w2 hbox hb; have BK := Aside0.mk hbox; have GB := Aside0.mk (show w.heap.size ≤ gb from hg ▸ Nat.le_refl _); have HB1 := Aside0.mk hb; clear hbox hb hg HB)
    | (go_at_call 116; refine (strconv_isPowerOfTwo.calls _ _ _ HP.out).mono ?_; rintro e w3 ⟨rfl, hd⟩; have HB3 := Aside0.mk (below_step HB1.out hd.below); have BK3 := Aside0.mk (blk_below BK.out hd.below); clear hd BK HB1)
    | (go_at_call 117; refine (tz_16 _ (HT.out.below HB3.out)).mono ?_; rintro e w4 ⟨rfl, hd⟩; have HB2 := Aside0.mk (below_step HB3.out hd); have BK2 := Aside0.mk (blk_below BK3.out hd); clear hd BK3 HB3))
  have HR := Aside0.mk (show Kd.R (Kd.int .u8) 133 _ w.heap.size (fun _ => True) (.slice (some ⟨gb, 0, none⟩) 65 65) (List.replicate 65 (0 : Int)) from by
    have h := BK2.out
    rw [HZ.out] at h
    exact R_arr (L := List.replicate 65 (0 : Int)) h GB.out (by decide))
  obtain ⟨n0, hn0⟩ : ∃ n0, n0 = (showL (16 : Int).toNat u0.toNat).length := ⟨_, rfl⟩
  have hn1 : 1 ≤ n0 ∧ n0 ≤ 32 := by
    have h1 := HU.out
    have h2 := HBb.out
    rw [hn0]
    exact ⟨showL_pos _ _, showL_len (16 : Int).toNat (by omega) 31 u0.toNat (by omega)⟩
  have HN0 := Aside0.mk hn0
  clear BK2 hn0
  go_loopg [1, 13] n0 (fun kq v1 v13 w' => ∃ (u i : Int) (L : List Int), v1 = .int .u64 u ∧ v13 = .int .i64 i ∧ Aside0 (0 ≤ u ∧ u < 4294967296 ∧ (showL (16 : Int).toNat u.toNat).length = kq ∧ kq ≤ n0 ∧ i = 65 - (n0 - kq) ∧ L.length = 65) ∧ Aside0 (showI 16 u ++ L.drop i.toNat = showI 16 u0) ∧ Aside0 (Kd.R (Kd.int .u8) 133 w' w.heap.size (fun _ => True) (.slice (some ⟨gb, 0, none⟩) 65 65) L) ∧ Aside0 (Below w.heap.size w w'))
  case atStart =>
    have h1 := HU.out
    exact ⟨u0, 65, _, rfl, rfl, ⟨h1.1, h1.2, HN0.out.symm, Nat.le_refl _, by omega, by simp⟩, ⟨by simp⟩, HR, HB2⟩
  case round =>
    clear HR HB2
    obtain ⟨u, i, L, rfl, rfl, HI, HS, HR, HB2⟩ := hrel
    have h7 := HBb.out
    by_cases hlt : 16 ≤ u
    · have d4 : decide (16 ≤ u) = true := decide_eq_true hlt
      obtain ⟨h1, h2, h3, h4, h5, h6⟩ := HI.out
      cases gk with
      | zero => exact absurd h3 (by have := showL_pos (16 : Int).toNat u.toNat; omega)
      | succ k1 =>
      cases k1 with
      | zero => exact absurd (showL_one (by omega) h3) (by omega)
      | succ k2 =>
      obtain ⟨h8, h9⟩ := showL_more (show 2 ≤ (16 : Int).toNat by omega) h3
      have hbig := showI_big h7.1 h7.2.1 hlt
      have hdm := Int.mul_ediv_add_emod u 16
      have hm0 := Int.emod_nonneg u (show (16 : Int) ≠ 0 by omega)
      have hm1 := Int.emod_lt_of_pos u (show (0 : Int) < 16 by omega)
      have hq0 : 0 ≤ u / 16 := Int.ediv_nonneg h1 (by omega)
      have hq1 : u / 16 ≤ u := Int.ediv_le_self _ h1
      have hqn : (u / 16).toNat = u.toNat / (16 : Int).toNat := by
        obtain ⟨n, rfl⟩ := Int.eq_ofNat_of_zero_le h1
        rfl
      rw [← hqn] at h9
      obtain ⟨q, hq⟩ : ∃ q : Int, q = u / 16 := ⟨_, rfl⟩
      obtain ⟨r, hr⟩ : ∃ r : Int, r = u % 16 := ⟨_, rfl⟩
      rw [← hq] at hbig hdm hq0 hq1 h9
      rw [← hr] at hbig hdm hm0 hm1
      obtain ⟨j, hj⟩ : ∃ j : Int, j = i - 1 := ⟨_, rfl⟩
      have hj2 : 0 ≤ j ∧ j < 65 := by omega
      have e1 : wrap64 (i - 1) = j := by unfold wrap64; omega
      have e2 : bits .and .u64 u 15 = r := by rw [hr]; exact and_mask u 4 h1 (by omega)
      have e3 : u / 16 = q := hq.symm
      obtain ⟨hx, hf⟩ := Kd.R_celln 0 HR.out j (by omega) (by omega)
      have hdg := digits_idx r (by omega)
      have p1 : (0 ≤ r) = True := eq_true hm0
      have p2 : (r < 36) = True := eq_true (by omega)
      have p3 : (0 ≤ j) = True := eq_true hj2.1
      have p4 : (j < 65) = True := eq_true hj2.2
      have HJ := Aside0.mk hj
      have HJ2 := Aside0.mk hj2
      have HBIG := Aside0.mk hbig
      have HQ := Aside0.mk (show 0 ≤ q ∧ q < 4294967296 from ⟨hq0, by omega⟩)
      have H9 := Aside0.mk h9
      have HP2 := Aside0.mk (Kd.R_putn HR.out j (chI r))
      clear hj hj2 hlt h1 h2 h3 h4 h5 h6 h7 h8 h9 hbig hdm hm0 hm1 hq0 hq1 hqn hq hr
      go_wp2
      go_roundg (k2 + 1)
      case measure => omega
      case rel =>
        have hi := HI.out
        have hj := HJ.out
        have hj2 := HJ2.out
        refine ⟨q, j, L.set j.toNat (chI r), rfl, rfl, ⟨HQ.out.1, HQ.out.2, H9.out, by omega, by omega, by rw [List.length_set]; exact hi.2.2.2.2.2⟩, ⟨?_⟩, ⟨HP2.out⟩, ⟨below_set HB2.out GB.out⟩⟩
        rw [drop_set_at L j.toNat (chI r) (by omega), show j.toNat + 1 = i.toNat by omega, ← HS.out, HBIG.out, List.append_assoc]
        rfl
    · have d4 : decide (16 ≤ u) = false := decide_eq_false hlt
      obtain ⟨j, hj⟩ : ∃ j : Int, j = i - 1 := ⟨_, rfl⟩
      have hj2 : 0 ≤ j ∧ j < 65 := by have := HI.out; omega
      have e1 : wrap64 (i - 1) = j := by unfold wrap64; omega
      obtain ⟨hx, hf⟩ := Kd.R_celln 0 HR.out j (by omega) (by omega)
      have hu1 := HI.out.1
      have hdg := digits_idx u (by omega)
      have p1 : (0 ≤ u) = True := eq_true hu1
      have p2 : (u < 36) = True := eq_true (by omega)
      have p3 : (0 ≤ j) = True := eq_true hj2.1
      have p4 : (j < 65) = True := eq_true hj2.2
      have HJ := Aside0.mk hj
      have HJ2 := Aside0.mk hj2
      have HLT := Aside0.mk hlt
      clear hj hj2 hlt hu1 h7
      have HP2 := Aside0.mk (Kd.R_putn HR.out j (chI u))
      have hsl : ∀ W, (Instr.sliceAt 133 (.pointer (some ⟨gb, 0, none⟩)) (some (.int .i64 j)) none none).run Tryd.prog W = .ok (.slice (some ⟨gb, j.toNat, none⟩) (65 - j.toNat) (65 - j.toNat)) W := fun W => slice_arr gb j HJ2.out W
      have hcv : (convert 25 9 (.slice (some ⟨gb, j.toNat, none⟩) (65 - j.toNat) (65 - j.toNat))).run Tryd.prog (wr.setCell ⟨gb, j.toNat, none⟩ (.int .u8 (chI u))) = .ok (.string (strOfNums (showI 16 u0))) (wr.setCell ⟨gb, j.toNat, none⟩ (.int .u8 (chI u))) := by
        have hi := HI.out
        have hj := HJ.out
        have hj2 := HJ2.out
        have h7 := HBb.out
        have h := C_cut (Kd.R_reads' HP2.out).2.2 (c := 65) (by rw [List.length_set]; omega) j.toNat (65 - j.toNat) (by rw [List.length_set]; omega)
        rw [cutAt_own (show j.toNat < 65 by omega)] at h
        have h' : Kd.C (Kd.int .u8) (wr.setCell ⟨gb, j.toNat, none⟩ (.int .u8 (chI u))) (some ⟨gb, j.toNat * 1, none⟩) (65 - j.toNat) (((L.set j.toNat (chI u)).drop j.toNat).take (65 - j.toNat)) := h
        rw [Nat.mul_one] at h'
        have h2 := Kd.C_string (src := 25) (dst := 9) (c := 65 - j.toNat) Tryd.underlying25 Tryd.underlying5 Tryd.underlying9 h'
        rw [h2, List.take_of_length_le (by rw [List.length_drop, List.length_set]; omega), drop_set_at L j.toNat (chI u) (by omega), show j.toNat + 1 = i.toNat by omega, ← HS.out, showI_small hi.1 (Int.lt_of_not_ge HLT.out) h7.2.1]
        rfl
      go_wp2
      go_ret2
      exact ⟨rfl, below_set HB2.out GB.out⟩
end Go.Proofs.YtlhnaplmphdhlaaDoor.Q
end
section
namespace Go.Proofs.YtlhnaplmphdhlaaDoor.Q
open Go.RowKit Go.Proofs.YtlhnaplmphdhlaaDoorW.PrintWords Go.Proofs.YtlhnaplmphdhlaaDoorW.PrintLast Go.Proofs.YtlhnaplmphdhlaaDoorW.PrintMore
def showB (b u : Int) : ByteArray := ⟨(showL b.toNat u.toNat).toArray⟩
theorem str_showI (b u : Int) : strOfNums (showI b u) = showB b u := by
  unfold strOfNums showI showB
  rw [List.map_map]
  congr 2
  conv => rhs; rw [← List.map_id (showL b.toNat u.toNat)]
  apply List.map_congr_left
  intro c _
  exact UInt8.toNat_inj.1 (by simp)
set_option maxHeartbeats 1000000 in
set_option maxRecDepth 100000 in
theorem formatUint_16 (u : Int) (hu : 0 ≤ u ∧ u < 4294967296) (w : World) (ht : QB.Tabs w) :
    Calls Tryd.prog 95 #[.int .u64 u, .int .i64 16] w fun e w' => e = .returned (.string (showB 16 u)) ∧ Below w.heap.size w w' := by
  have HC := Aside0.mk (formatBits_p16 u hu w ht)
  rw [str_showI] at HC
  clear ht hu
  go_enter Tryd.func95, Tryd.ntmps95
  go_wp2_with (first
    | (go_at_call 109; (with_reducible refine HC.out.mono ?_); rintro e w1 ⟨rfl, hb⟩; have HB := Aside0.mk hb; clear hb))
  go_ret
  exact ⟨rfl, HB.out⟩
set_option maxHeartbeats 1000000 in
set_option maxRecDepth 100000 in
theorem formatUintO_16 (u : Int) (hu : 0 ≤ u ∧ u < 4294967296) (w : World) (ht : QB.Tabs w) :
    Calls Tryd.prog 77 #[.int .u64 u, .int .i64 16] w fun e w' => e = .returned (.string (showB 16 u)) ∧ Below w.heap.size w w' := by
  have HC := Aside0.mk (formatUint_16 u hu w ht)
  clear ht hu
  go_enter Tryd.func77, Tryd.ntmps77
  go_wp2_with (first
    | (go_at_call 95; (with_reducible refine HC.out.mono ?_); rintro e w1 ⟨rfl, hb⟩; have HB := Aside0.mk hb; clear hb))
  go_ret
  exact ⟨rfl, HB.out⟩
set_option maxHeartbeats 1000000 in
set_option maxRecDepth 100000 in
theorem show16 (n : Int) (hn : 0 ≤ n ∧ n < 4294967296) (w : World) (ht : QB.Tabs w) :
    Calls Tryd.prog 56 #[.int .u32 n, .int .u32 16] w fun e w' => e = .returned (.tuple #[.string (showB 16 n), .int .i64 0]) ∧ Below w.heap.size w w' := by
  have HU := Aside0.mk (fun (W : World) (hT : QB.Tabs W) => formatUintO_16 n hn W hT)
  have HF := Aside0.mk (show digit_fit.f 16 = some true by kernel_rfl)
  have HT := Aside0.mk ht
  have e1 : IntKind.u64.wrap n = n := wrap_u64_id n hn.1 (by omega)
  clear hn ht
  go_enter Tryd.func56, Tryd.ntmps56
  go_wp2_with (first
    | (go_at_call 74; (with_reducible refine (digit_fit.calls _ _ _ HF.out).mono ?_); rintro e w1 ⟨rfl, hd⟩; have HB1 := Aside0.mk hd.below; have HT1 := Aside0.mk (HT.out.below hd.below); clear hd)
    | (go_at_call 77; (with_reducible refine (HU.out _ HT1.out).mono ?_); rintro e w2 ⟨rfl, hb⟩; have HB2 := Aside0.mk (below_step HB1.out hb); clear hb))
  go_ret2
  exact ⟨rfl, HB2.out⟩
def digit_Show.f (n b : Int) : Option (ByteArray × Int) := if (0 ≤ n ∧ n < 4294967296) ∧ b = 16 then some (showB 16 n, 0) else none
theorem digit_Show.calls (a0 : Int) (a1 : Int) (r1 : ByteArray) (r2 : Int) (w : World) (ht : QB.Tabs w) (h : digit_Show.f a0 a1 = some (r1, r2)) :
    Calls Tryd.prog 56 #[.int .u32 a0, .int .u32 a1] w fun e w' => e = .returned (.tuple #[.string r1, .int .i64 r2]) ∧ Below w.heap.size w w' := by
  unfold digit_Show.f at h
  split at h
  case isFalse => cases h
  rename_i hn
  obtain ⟨rfl, rfl⟩ := Prod.mk.inj (Option.some.inj h)
  obtain ⟨hn, rfl⟩ := hn
  exact show16 a0 hn w ht
end Go.Proofs.YtlhnaplmphdhlaaDoor.Q
end
section
namespace Go.Proofs.YtlhnaplmphdhlaaDoor.Q
open Go.RowKit Go.Proofs.YtlhnaplmphdhlaaDoorW.PrintWords Go.Proofs.YtlhnaplmphdhlaaDoorW.PrintLast Go.Proofs.YtlhnaplmphdhlaaDoorW.PrintMore
set_option linter.unusedVariables false
set_option linter.unusedSimpArgs false

attribute [local go_sem] max2_int min2_int max_two min_two max_three min_three max_four min_four
/-! ### prop_ShowUnit: function 37 -/
def prop_ShowUnit.l0 : Nat → List ByteArray → List Int → Int → Int → Option (ByteArray)
  | 0, _, _, _, _ => none
  | k + 1, x3, x9, x10, x11 => if x11 < x10 then (if 0 ≤ x11 then (if x11 < (x9.length : Int) then ((digit_Show.f (rd x9 x11) 16).bind fun bt38005 => (if x11 < (x3.length : Int) then (prop_ShowUnit.l0 k (x3.set (x11 : Int).toNat bt38005.1) x9 x10 (wrap64 (x11 + 1))) else (none))) else (none)) else (none)) else ((strings_Join.f x3 (⟨#[44]⟩ : ByteArray)).bind fun t38008 => (some t38008))
def prop_ShowUnit.f (k : Nat) (l0 : List Int) : Option (ByteArray) := if 0 ≤ (l0.length : Int) then (if ((l0.length : Int) : Int).toNat ≤ 17592186044416 then (prop_ShowUnit.l0 k (List.replicate ((l0.length : Int) : Int).toNat (⟨#[]⟩ : ByteArray)) l0 (l0.length : Int) 0) else (none)) else (none)
set_option maxHeartbeats 8000000 in
set_option maxRecDepth 100000 in
theorem prop_ShowUnit.calls (k : Nat) (A0 : Option Addr) (c0 : Nat) (l0 : List Int) (r : ByteArray) (w : World) (ht : QB.Tabs w) (hr0 : Kd.C (Kd.int .u32) w A0 l0.length l0) (hc0 : l0.length ≤ c0) (h : prop_ShowUnit.f k l0 = some r) :
    Calls Tryd.prog 37 #[.slice A0 l0.length c0] w fun e w' => e = .returned (.string r) ∧ Below w.heap.size w w' := by
  have HR0 := Aside0.mk hr0
  have HC0 := Aside0.mk hc0
  clear hr0 hc0
  have HB := Aside0.mk (Below.refl w.heap.size w)
  have H : (if 0 ≤ (l0.length : Int) then (if ((l0.length : Int) : Int).toNat ≤ 17592186044416 then (prop_ShowUnit.l0 k (List.replicate ((l0.length : Int) : Int).toNat (⟨#[]⟩ : ByteArray)) l0 (l0.length : Int) 0) else (none)) else (none)) = some r := h
  clear h
  by_cases c2 : 0 ≤ (l0.length : Int)
  · rw [if_pos c2] at H
    have c2b0 := eq_true c2
    have c2b1 : decide (0 ≤ (l0.length : Int)) = true := decide_eq_true c2
    clear c2
    by_cases c3 : ((l0.length : Int) : Int).toNat ≤ 17592186044416
    · rw [if_pos c3] at H
      have c3b0 := eq_true c3
      have c3b1 : decide (((l0.length : Int) : Int).toNat ≤ 17592186044416) = true := decide_eq_true c3
      clear c3
      obtain ⟨y38001, hy38001⟩ : ∃ y_ : List ByteArray, y_ = (List.replicate ((l0.length : Int) : Int).toNat (⟨#[]⟩ : ByteArray)) := ⟨_, rfl⟩
      replace H : (prop_ShowUnit.l0 k y38001 l0 (l0.length : Int) 0) = some r := by first | (rw [hy38001]; with_reducible exact H) | (have H2_ := (Option.bind_some _ _).symm.trans H; rw [hy38001]; with_reducible exact H2_) | (have H2_ := (Option.bind_some _ _).symm.trans H; with_reducible exact H2_) | with_reducible exact H | (rw [hy38001]; exact H) | exact H
      have Ny38001 := Aside0.mk hy38001
      clear hy38001
      have H' := Aside0.mk H
      clear H
      go_enter Tryd.func37, Tryd.ntmps37
      go_wp2_with (first | ((with_reducible refine gate_dst (N := 8) rfl ?_); refine Kd.R_make Kd.string _ 9 rfl (N := 8) rfl 39 _ _ rfl (l0.length : Int) rfl rfl Tryd.underlying39 (.string ⟨#[]⟩) 16 info9 rfl (by decide) (by omega) (⟨#[]⟩ : ByteArray) (ok := fun _ => True) (okp := fun _ => True) rfl (fun _ hk => hk) trivial (of_decide_eq_true (by first | (with_reducible assumption) | assumption)) (Nat.le_trans (Nat.mul_le_mul_right _ (of_decide_eq_true (by first | (with_reducible assumption) | assumption) : (l0.length : Int).toNat ≤ 17592186044416)) (by omega)) (Below.refl _ _) (Nat.le_refl _) ?_; intro v38002 w4 ho5 hb hg_ hnew_; clear hg_ hnew_; (first | rw [← Ny38001.out] at ho5 | (simp only [Int.reduceToNat] at ho5; rw [← Ny38001.out] at ho5)); have n0_ := Aside0.mk (Kd.R_lower ho5 (below_size (by repeat (first | (with_reducible first | exact HB.out | apply below_alloc | apply pw_below_drewN | apply below_drew1) | exact HB.out)))); have n1_ := Aside0.mk (below_step (by repeat (first | (with_reducible first | exact HB.out | apply below_alloc | apply pw_below_drewN | apply below_drew1) | exact HB.out)) hb); clear HB; have HO38003 := n0_; have HB := n1_; clear n0_ n1_; clear hb ho5))
      go_loopg [11] k (fun kq v11 w' => ∃ (x3_1 : List ByteArray) (x11_1 : Int), v11 = .int .i64 x11_1 ∧ Aside0 (prop_ShowUnit.l0 kq x3_1 l0 (l0.length : Int) x11_1 = some r) ∧ Aside0 (kq ≤ k) ∧ Aside0 (Kd.R Kd.string 9 w' w.heap.size (fun _ => True) v38002 x3_1) ∧ Aside0 (Below w.heap.size w w'))
      case atStart => exact ⟨(y38001), (0), (by first | rfl | (simp; done) | (simp [*]; done)), H', ⟨Nat.le_refl _⟩, ⟨by (with_reducible repeat (first | apply Kd.R_alloc | apply Kd.R_drewN | apply Kd.R_drew)); exact HO38003.out⟩, ⟨by repeat (first | (with_reducible first | exact HB.out | apply below_alloc | apply pw_below_drewN | apply below_drew1) | exact HB.out)⟩⟩
      case round =>
        clear H'
        try clear c2
        try clear c2b0
        try clear c2b1
        try clear p2
        try clear c3
        try clear c3b0
        try clear c3b1
        obtain ⟨x3_1, x11_1, rfl, HA, HK1, HO_3, HB⟩ := hrel
        cases gk with
        | zero => exact absurd HA.out (by simp [prop_ShowUnit.l0])
        | succ k1 =>
          have H := HA.out
          clear HA
          simp only [prop_ShowUnit.l0] at H
          by_cases c6 : x11_1 < (l0.length : Int)
          · rw [if_pos c6] at H
            have c6b0 : decide (x11_1 < (l0.length : Int)) = true := decide_eq_true c6
            clear c6
            by_cases c7 : 0 ≤ x11_1
            · rw [if_pos c7] at H
              have c7b0 : decide (0 ≤ x11_1) = true := decide_eq_true c7
              clear c7
              by_cases c8 : x11_1 < (l0.length : Int)
              · rw [if_pos c8] at H
                have c8b0 : decide (x11_1 < (l0.length : Int)) = true := decide_eq_true c8
                clear c8
                replace H := Option.bind_eq_some_iff.mp H
                obtain ⟨⟨t38005, t38006⟩, A90, H⟩ := H
                replace H : (if x11_1 < (x3_1.length : Int) then (prop_ShowUnit.l0 k1 (x3_1.set (x11_1 : Int).toNat t38005) l0 (l0.length : Int) (wrap64 (x11_1 + 1))) else (none)) = some r := H
                have A9 := Aside0.mk A90
                clear A90
                by_cases c10 : x11_1 < (x3_1.length : Int)
                · rw [if_pos c10] at H
                  have c10b0 : decide (x11_1 < (x3_1.length : Int)) = true := decide_eq_true c10
                  clear c10
                  obtain ⟨y38007, hy38007⟩ : ∃ y_ : List ByteArray, y_ = (x3_1.set (x11_1 : Int).toNat t38005) := ⟨_, rfl⟩
                  replace H : (prop_ShowUnit.l0 k1 y38007 l0 (l0.length : Int) (wrap64 (x11_1 + 1))) = some r := by first | (rw [hy38007]; with_reducible exact H) | (have H2_ := (Option.bind_some _ _).symm.trans H; rw [hy38007]; with_reducible exact H2_) | (have H2_ := (Option.bind_some _ _).symm.trans H; with_reducible exact H2_) | with_reducible exact H | (rw [hy38007]; exact H) | exact H
                  have Ny38007 := Aside0.mk hy38007
                  clear hy38007
                  have H' := Aside0.mk H
                  clear H
                  have p38004 : 0 ≤ (x11_1 : Int) := of_decide_eq_true (by first | (with_reducible assumption) | assumption)
                  have q38004 : x11_1 < (l0.length : Int) := of_decide_eq_true (by first | (with_reducible assumption) | assumption)
                  obtain ⟨ad38004, e38004, hx38004_0⟩ := Kd.at_int HR0.out x11_1 p38004 q38004
                  cases e38004
                  replace hx38004_0 := (HB.out.cell (World.block_lt_of_cell? w _ hx38004_0)).trans hx38004_0
                  replace p38004 := eq_true p38004
                  replace q38004 := eq_true q38004
                  go_wp2_with (first | ((with_reducible refine gate_callee (f := 56) rfl ?_); refine goesL_ (some 20) rfl rfl Tryd.func56 (by kernel_rfl) rfl #[.int .u32 (rd l0 x11_1), .int .u32 16] rfl (by (try simp only [List.map_toArray, List.map_cons, List.map_nil]); first | done | rfl | (simp only [List.length_drop, List.length_take]; rfl)) ?_; (with_reducible refine (digit_Show.calls (rd l0 x11_1) 16 t38005 t38006 _ (QB.Tabs.below ht (by repeat (first | (with_reducible first | exact HB.out | apply below_alloc | apply pw_below_drewN | apply below_drew1 | refine below_set ?_ (Aside0.out (by assumption))) | exact HB.out))) A9.out).mono ?_); rintro e w12 ⟨rfl, hb⟩; refine ⟨_, rfl, ?_⟩; have n0_ := Aside0.mk (Kd.R_below (by (with_reducible repeat (first | apply Kd.R_alloc | apply Kd.R_drewN | apply Kd.R_drew)); exact HO_3.out) hb); have n1_ := Aside0.mk (below_step (by repeat (first | (with_reducible first | exact HB.out | apply below_alloc | apply pw_below_drewN | apply below_drew1) | exact HB.out)) hb); clear HO_3; clear HB; have HO_3 := n0_; have HB := n1_; clear n0_ n1_; (try clear hb); (try clear hb2); (try clear hk); (try clear hi); have p11 : 0 ≤ (x11_1 : Int) := of_decide_eq_true (by first | (with_reducible assumption) | assumption); have q11 : (x11_1 : Int) < ((x3_1.length : Int) : Int) := of_decide_eq_true (by first | (with_reducible assumption) | assumption); obtain ⟨go11, co11, eo11, gb11, gl11, cl11, HG11⟩ := Kd.R_form HO_3.out (by omega); (first | cases eo11 | (injection eo11 with ea_ en_ ec_; (first | subst ea_ | (injection ea_ with ea_; subst ea_)); subst ec_; clear en_)); have GB11 := Aside0.mk gb11; have GG11 := Aside0.mk HG11; clear gb11 gl11 HG11; obtain ⟨hx11_0, hf11_0⟩ := Kd.R_celln (⟨#[]⟩ : ByteArray) HO_3.out (x11_1 : Int) p11 q11; replace p11 := eq_true p11; replace q11 := eq_true q11; obtain ⟨hy13_, hz13_⟩ := Kd.R_celln (⟨#[]⟩ : ByteArray) HO_3.out (x11_1 : Int) (of_decide_eq_true (by first | (with_reducible assumption) | assumption)) (of_decide_eq_true (by first | (with_reducible assumption) | assumption)); have HP13 := Kd.R_putg HO_3.out (x11_1 : Int) t38005) | ((with_reducible refine gate_store (t := 9) (p := 23) rfl ?_); refine store_event (t := 9) (p := 23) (v := ?vo_w14) (w1 := (w12.setCell ⟨go11, (x11_1 : Int).toNat, none⟩ (.string t38005))) ?hg ?ho ?hn ?hr ?_; (case ho => rfl); (case hg => rfl); (case hn => rfl); (case hr => first | (go_simp; done) | (go_simp; rfl)); intro w14 hw; have hg : w12.grownBy w14 (some go11) := (by rw [hw]; exact HP13.2); have hp_ : Kd.R Kd.string 9 w14 w.heap.size (fun _ => True) (.slice (some ⟨go11, 0, none⟩) x3_1.length co11) y38007 := (by rw [hw, Ny38007.out]; exact HP13.1); clear HP13; have n0_ := Aside0.mk (hp_); have n1_ := Aside0.mk ((by rw [hw]; exact below_set (HB.out) GB11.out : Below w.heap.size w w14)); clear HO_3; clear HB; have HO_3 := n0_; have HB := n1_; clear n0_ n1_; clear hg hw hp_))
                  go_roundg k1
                  case measure => have := HK1.out; omega
                  case rel => exact ⟨(y38007), (wrap64 (x11_1 + 1)), (by first | rfl | (simp; done) | (simp [*]; done)), H', ⟨by have := HK1.out; omega⟩, ⟨by (with_reducible repeat (first | apply Kd.R_alloc | apply Kd.R_drewN | apply Kd.R_drew)); exact HO_3.out⟩, ⟨by repeat (first | (with_reducible first | exact HB.out | apply below_alloc | apply pw_below_drewN | apply below_drew1) | exact HB.out)⟩⟩
                · rw [if_neg c10] at H
                  exact absurd H (by simp)
              · rw [if_neg c8] at H
                exact absurd H (by simp)
            · rw [if_neg c7] at H
              exact absurd H (by simp)
          · rw [if_neg c6] at H
            have c6b0 : decide (x11_1 < (l0.length : Int)) = false := decide_eq_false c6
            clear c6
            replace H := Option.bind_eq_some_iff.mp H
            obtain ⟨t38008, A150, H⟩ := H
            replace H : (some t38008) = some r := H
            have A15 := Aside0.mk A150
            clear A150
            obtain rfl := Option.some.inj H
            obtain ⟨Ao16, co16, eo16⟩ := Kd.R_slice HO_3.out
            subst eo16
            go_wp2_with (first | ((with_reducible refine gate_callee (f := 57) rfl ?_); refine goesL_ (some 26) rfl rfl Tryd.func57 (by kernel_rfl) rfl #[.slice Ao16 x3_1.length co16, .string (⟨#[44]⟩ : ByteArray)] rfl (by (try simp only [List.map_toArray, List.map_cons, List.map_nil]); first | done | rfl | (simp only [List.length_drop, List.length_take]; rfl)) ?_; (with_reducible refine (strings_Join.calls _ _ x3_1 (⟨#[44]⟩ : ByteArray) t38008 _ ?side1 ?side2 A15.out).mono ?_); (case side1 => repeat (first | exact (Kd.R_reads' HO_3.out).2.2 | (with_reducible refine Kd.C_alloc ?_ _) | (with_reducible refine Kd.C_drewN ?_ _) | (with_reducible refine Kd.C_drew ?_))); (case side2 => exact (Kd.R_reads' HO_3.out).2.1); rintro e w17 ⟨rfl, hb⟩; refine ⟨_, rfl, ?_⟩; have n0_ := Aside0.mk (Kd.R_below (by (with_reducible repeat (first | apply Kd.R_alloc | apply Kd.R_drewN | apply Kd.R_drew)); exact HO_3.out) hb); have n1_ := Aside0.mk (below_step (by repeat (first | (with_reducible first | exact HB.out | apply below_alloc | apply pw_below_drewN | apply below_drew1) | exact HB.out)) hb); clear HO_3; clear HB; have HO_3 := n0_; have HB := n1_; clear n0_ n1_; (try clear hb); (try clear hb2); (try clear hk); (try clear hi)))
            go_ret
            exact ⟨by first | rfl | (simp [errW_none, errW_some] <;> rfl) | (simp [*, errW_none, errW_some] <;> rfl), by repeat (first | (with_reducible first | exact HB.out | apply below_alloc | apply pw_below_drewN | apply below_drew1) | exact HB.out)⟩
    · rw [if_neg c3] at H
      exact absurd H (by simp)
  · rw [if_neg c2] at H
    exact absurd H (by simp)

end Go.Proofs.YtlhnaplmphdhlaaDoor.Q
end
section
namespace Go.Proofs.YtlhnaplmphdhlaaDoor.Q
open Go.RowKit Go.Proofs.YtlhnaplmphdhlaaDoorW.PrintWords Go.Proofs.YtlhnaplmphdhlaaDoorW.PrintLast Go.Proofs.YtlhnaplmphdhlaaDoorW.PrintMore
def digS (d : Int) : ByteArray := ⟨[UInt8.ofNat (chN d.toNat)].toArray⟩
def preL (kq : Nat) (b u : Int) : List UInt8 := if kq = 0 then [] else showL b.toNat u.toNat
def tinderref02_Show.f (n b : Int) : Option (ByteArray × Int) := if 0 ≤ n ∧ n < 4294967296 then (if 2 ≤ b ∧ b ≤ 36 then some (showB b n, 0) else some (⟨#[]⟩, 1)) else none
end Go.Proofs.YtlhnaplmphdhlaaDoor.Q
end
section
namespace Go.Proofs.YtlhnaplmphdhlaaDoor.Q
open Go.RowKit Go.Proofs.YtlhnaplmphdhlaaDoorW.PrintWords Go.Proofs.YtlhnaplmphdhlaaDoorW.PrintLast Go.Proofs.YtlhnaplmphdhlaaDoorW.PrintMore
set_option linter.unusedVariables false
set_option linter.unusedSimpArgs false

attribute [local go_sem] max2_int min2_int max_two min_two max_three min_three max_four min_four
/-! ### tinderref05_ShowUnit: function 38 -/
def tinderref05_ShowUnit.l0 : Nat → List Int → List Int → Int → Option (ByteArray)
  | 0, _, _, _ => none
  | k + 1, x0, x3, x4 => if x4 < (x0.length : Int) then (if x4 > 0 then (if x3.length < 140737488355328 then ((some (x3 ++ [44] : List Int)).bind fun y39001 => (if 0 ≤ x4 then ((tinderref02_Show.f (rd x0 x4) 16).bind fun bt39005 => (if y39001.length + bt39005.1.size < 140737488355328 then (tinderref05_ShowUnit.l0 k x0 (y39001 ++ bytesOf bt39005.1) (wrap64 (x4 + 1))) else (none))) else (none))) else (none)) else (if 0 ≤ x4 then ((tinderref02_Show.f (rd x0 x4) 16).bind fun bt39011 => (if x3.length + bt39011.1.size < 140737488355328 then (tinderref05_ShowUnit.l0 k x0 (x3 ++ bytesOf bt39011.1) (wrap64 (x4 + 1))) else (none))) else (none))) else (some (strOfNums x3))
def tinderref05_ShowUnit.f (k : Nat) (l0 : List Int) : Option (ByteArray) := tinderref05_ShowUnit.l0 k l0 ([] : List Int) 0

end Go.Proofs.YtlhnaplmphdhlaaDoor.Q
end
section
set_option linter.unusedSimpArgs false
set_option linter.unusedVariables false
namespace Go.Proofs.YtlhnaplmphdhlaaDoor.Q
open Go.RowKit Go.Proofs.YtlhnaplmphdhlaaDoorW.PrintWords Go.Proofs.YtlhnaplmphdhlaaDoorW.PrintLast
def shL (v : Int) : List UInt8 := showL 16 v.toNat
def unitsL (l : List Int) : List UInt8 := Lib.join (l.map shL) [44]
def unitsB (l : List Int) : ByteArray := ⟨(unitsL l).toArray⟩
def U32L (l : List Int) : Prop := ∀ a ∈ l, 0 ≤ a ∧ a < 4294967296
theorem join_snoc (xs : List (List UInt8)) (x : List UInt8) (sep : List UInt8) (h : xs ≠ []) : Lib.join (xs ++ [x]) sep = Lib.join xs sep ++ sep ++ x := by
  cases xs with
  | nil => exact absurd rfl h
  | cons y ys =>
    rw [List.cons_append, Lib.join_cons, Lib.join_cons]
    unfold Lib.joinTail
    rw [List.map_append, List.flatten_append]
    simp [List.append_assoc]
theorem shL_len (v : Int) (h : 0 ≤ v ∧ v < 4294967296) : (shL v).length ≤ 32 := showL_len 16 (by decide) 31 v.toNat (by have : (2 : Nat) ^ (31 + 1) = 4294967296 := by decide
                                                                                                                        omega)
theorem units_one (v : Int) : unitsL [v] = shL v := Lib.join_one _ _
theorem units_snoc (l : List Int) (v : Int) (h : l ≠ []) : unitsL (l ++ [v]) = unitsL l ++ [44] ++ shL v := by
  unfold unitsL
  rw [List.map_append, List.map_singleton, join_snoc _ _ _ (by simpa using h)]
theorem take_succ' {α : Type} (l : List α) (i : Nat) (h : i < l.length) : l.take (i + 1) = l.take i ++ [l[i]] := by
  rw [List.take_succ_eq_append_getElem h]
theorem units_len (l : List Int) (hl : U32L l) : ∀ i, i ≤ l.length → (unitsL (l.take i)).length ≤ 33 * i
  | 0, _ => by simp [unitsL, Lib.join_nil]
  | i + 1, h => by
    have ih := units_len l hl i (by omega)
    rw [take_succ' l i (by omega)]
    have hs := shL_len l[i] (hl _ (List.getElem_mem _))
    by_cases h0 : i = 0
    · subst h0
      rw [List.take_zero, List.nil_append, units_one]
      omega
    · rw [units_snoc _ _ (fun e => by have := congrArg List.length e; rw [List.length_take, List.length_nil] at this; omega)]
      rw [List.length_append, List.length_append, List.length_singleton]
      omega
theorem rd_get (l : List Int) (i : Nat) (h : i < l.length) : rd l (i : Int) = l[i] := by
  unfold rd
  rw [Int.toNat_natCast, List.getD_eq_getElem?_getD, List.getElem?_eq_getElem h]
  rfl
theorem bytesOf_mk (L : List UInt8) : bytesOf ⟨L.toArray⟩ = L.map fun b => (b.toNat : Int) := rfl
theorem strOf_bytes (L : List UInt8) : strOfNums (L.map fun b => (b.toNat : Int)) = ⟨L.toArray⟩ := by
  unfold strOfNums
  rw [List.map_map]
  congr 2
  conv => rhs; rw [← List.map_id L]
  apply List.map_congr_left
  intro c _
  exact UInt8.toNat_inj.1 (by simp)
theorem refshow_eq (v : Int) (h : 0 ≤ v ∧ v < 4294967296) : tinderref02_Show.f v 16 = some (⟨(shL v).toArray⟩, 0) := by
  unfold tinderref02_Show.f
  rw [if_pos h, if_pos (by decide)]
  rfl
theorem show_eq (v : Int) (h : 0 ≤ v ∧ v < 4294967296) : digit_Show.f v 16 = some (⟨(shL v).toArray⟩, 0) := by
  unfold digit_Show.f
  rw [if_pos ⟨h, rfl⟩]
  rfl
theorem refunits_go (l : List Int) (hl : U32L l) (hn : l.length ≤ 1000000000) : ∀ (d k i : Nat), i + d = l.length → d + 1 ≤ k → tinderref05_ShowUnit.l0 k l ((unitsL (l.take i)).map fun b => (b.toNat : Int)) (i : Int) = some (unitsB l)
  | 0, k, i, hi, hk => by
    obtain ⟨k, rfl⟩ : ∃ m, k = m + 1 := ⟨k - 1, by omega⟩
    unfold tinderref05_ShowUnit.l0
    rw [if_neg (by omega), List.take_of_length_le (by omega), strOf_bytes]
    rfl
  | d + 1, k, i, hi, hk => by
    obtain ⟨k, rfl⟩ : ∃ m, k = m + 1 := ⟨k - 1, by omega⟩
    have hb := hl l[i] (List.getElem_mem _)
    have hlen := units_len l hl i (by omega)
    have hs := shL_len l[i] hb
    have e1 : wrap64 ((i : Int) + 1) = ((i + 1 : Nat) : Int) := by unfold wrap64; omega
    have ih := refunits_go l hl hn d k (i + 1) (by omega) (by omega)
    have hsz : (⟨(shL l[i]).toArray⟩ : ByteArray).size = (shL l[i]).length := by simp [ByteArray.size]
    unfold tinderref05_ShowUnit.l0
    rw [if_pos (by omega), rd_get l i (by omega), refshow_eq _ hb]
    by_cases h0 : i = 0
    · subst h0
      rw [if_neg (by omega), if_pos (by omega), Option.bind_some]
      dsimp only
      rw [if_pos (by rw [List.length_map, hsz]; omega), e1, bytesOf_mk]
      rw [take_succ' l 0 (by omega), List.take_zero, List.nil_append, units_one] at ih
      rw [List.take_zero, show unitsL [] = [] from rfl, List.map_nil, List.nil_append]
      exact ih
    · rw [if_pos (by omega), if_pos (by rw [List.length_map]; omega), Option.bind_some, if_pos (by omega), Option.bind_some]
      dsimp only
      rw [if_pos (by rw [List.length_append, List.length_map, hsz, List.length_singleton]; omega), e1, bytesOf_mk]
      rw [take_succ' l i (by omega), units_snoc _ _ (fun e => by have := congrArg List.length e; rw [List.length_take, List.length_nil] at this; omega), List.map_append, List.map_append] at ih
      exact ih
theorem refunits_eq (k : Nat) (l : List Int) (hl : U32L l) (hn : l.length ≤ 1000000000) (hk : l.length + 1 ≤ k) : tinderref05_ShowUnit.f k l = some (unitsB l) := by
  have h := refunits_go l hl hn l.length k 0 (by omega) hk
  exact h
theorem units_go (l : List Int) (hl : U32L l) (hn : l.length ≤ 1000000000) : ∀ (d k i : Nat), i + d = l.length → d + 1 ≤ k → prop_ShowUnit.l0 k ((l.take i).map (fun v => (⟨(shL v).toArray⟩ : ByteArray)) ++ List.replicate d (⟨#[]⟩ : ByteArray)) l (l.length : Int) (i : Int) = some (unitsB l)
  | 0, k, i, hi, hk => by
    obtain ⟨k, rfl⟩ : ∃ m, k = m + 1 := ⟨k - 1, by omega⟩
    unfold prop_ShowUnit.l0
    have hlen := units_len l hl l.length (Nat.le_refl _)
    rw [List.take_length] at hlen
    have e : joinB (l.map (fun v => (⟨(shL v).toArray⟩ : ByteArray))) ⟨#[44]⟩ = unitsB l := by
      unfold joinB unitsB unitsL
      rw [List.map_map]
      rfl
    rw [if_neg (by omega), List.take_of_length_le (by omega), List.replicate_zero, List.append_nil]
    unfold strings_Join.f
    rw [e, if_pos ⟨by rw [List.length_map]; omega, by show (unitsL l).toArray.size ≤ _; rw [List.size_toArray]; omega⟩]
    rfl
  | d + 1, k, i, hi, hk => by
    obtain ⟨k, rfl⟩ : ∃ m, k = m + 1 := ⟨k - 1, by omega⟩
    have hb := hl l[i] (List.getElem_mem _)
    have e1 : wrap64 ((i : Int) + 1) = ((i + 1 : Nat) : Int) := by unfold wrap64; omega
    have ih := units_go l hl hn d k (i + 1) (by omega) (by omega)
    have hml : ((l.take i).map (fun v => (⟨(shL v).toArray⟩ : ByteArray))).length = i := by rw [List.length_map, List.length_take]; omega
    unfold prop_ShowUnit.l0
    rw [if_pos (by omega), if_pos (by omega), if_pos (by omega), rd_get l i (by omega), show_eq _ hb, Option.bind_some, if_pos (by rw [List.length_append, hml, List.length_replicate]; omega), e1]
    rw [take_succ' l i (by omega), List.map_append, List.map_singleton, List.append_assoc] at ih
    rw [Int.toNat_natCast, List.set_append_right _ _ (by omega), hml, Nat.sub_self, List.replicate_succ, List.set_cons_zero]
    exact ih
theorem units_eq (k : Nat) (l : List Int) (hl : U32L l) (hn : l.length ≤ 1000000000) (hk : l.length + 1 ≤ k) : prop_ShowUnit.f k l = some (unitsB l) := by
  have h := units_go l hl hn l.length k 0 (by omega) hk
  unfold prop_ShowUnit.f
  rw [if_pos (by omega), Int.toNat_natCast, if_pos (by omega)]
  exact h
end Go.Proofs.YtlhnaplmphdhlaaDoor.Q
end
section
set_option linter.unusedSimpArgs false
set_option linter.unusedVariables false
namespace Go.Proofs.YtlhnaplmphdhlaaDoor.Q
open Go.RowKit Go.Shelf Go.Proofs.YtlhnaplmphdhlaaDoorW.PrintWords Go.Proofs.YtlhnaplmphdhlaaDoorW.PrintLast Go.Proofs.YtlhnaplmphdhlaaDoorW.PrintMore
attribute [local go_sem] max2_int min2_int max_two min_two max_three min_three max_four min_four
def okP (x : S81) : Bool := namedF x.f0 && decide (x.f1.length ≤ 4) && !decide (0 ≤ Lib.indexByte x.f2.data.toList 47)
def stepB (x : S81) : List UInt8 := (47 :: x.f0.data.toList) ++ (if 0 < x.f1.length then 64 :: unitsL x.f1 else []) ++ (if x.f2.size = 0 then [] else 58 :: x.f2.data.toList)
def pathL (l : List S81) : List UInt8 := (l.map stepB).flatten
def showP (l : List S81) : ByteArray × Int := if l.length = 0 then (⟨#[47]⟩, 0) else if l.all okP = true then (if 256 < (pathL l).length then (⟨#[]⟩, 3) else (⟨(pathL l).toArray⟩, 0)) else (⟨#[]⟩, 1)
end Go.Proofs.YtlhnaplmphdhlaaDoor.Q
end
section
set_option linter.unusedSimpArgs false
set_option linter.unusedVariables false
namespace Go.Proofs.YtlhnaplmphdhlaaDoor.Q
open Go.RowKit Go.Proofs.YtlhnaplmphdhlaaDoorW.PrintWords Go.Proofs.YtlhnaplmphdhlaaDoorW.PrintLast
def ixC (c : UInt8) (s : ByteArray) : Int := Lib.indexByte s.data.toList c
def headC (c : UInt8) (s : ByteArray) : ByteArray := if 0 ≤ ixC c s then s.extract 0 (ixC c s).toNat else s
def tailC (c : UInt8) (s : ByteArray) : ByteArray := if 0 ≤ ixC c s then s.extract (ixC c s + 1).toNat s.size else ⟨#[]⟩
/-- strings.Cut in the printed form, at a separator of one byte. -/
def strings_Cut.f (s p : ByteArray) : Option (ByteArray × ByteArray × Bool) := if s.size ≤ 140737488351232 then (match p.data.toList with | [c] => some (headC c s, tailC c s, decide (0 ≤ ixC c s)) | _ => none) else none
end Go.Proofs.YtlhnaplmphdhlaaDoor.Q
end
section
namespace Go.Proofs.YtlhnaplmphdhlaaDoor.Q
open Go.RowKit Go.Proofs.YtlhnaplmphdhlaaDoorW.PrintWords Go.Proofs.YtlhnaplmphdhlaaDoorW.PrintLast Go.Proofs.YtlhnaplmphdhlaaDoorW.PrintMore
set_option linter.unusedVariables false
set_option linter.unusedSimpArgs false

attribute [local go_sem] max2_int min2_int max_two min_two max_three min_three max_four min_four
/-! ### path_step: function 60 -/
def path_step.f (k : Nat) (a0 : ByteArray) : Option (ByteArray × List Int × ByteArray × Bool) := (strings_Cut.f a0 (⟨#[58]⟩ : ByteArray)).bind fun bt61002 => ((strings_Cut.f bt61002.1 (⟨#[64]⟩ : ByteArray)).bind fun bt61005 => ((prop_Named.f k bt61005.1).bind fun t61008 => (if t61008 = true then (if bt61005.2.2 = true then ((prop_ParseUnit.f bt61005.2.1).bind fun bt61009 => (if bt61009.2 = 0 then (some (bt61005.1, bt61009.1, bt61002.2.1, true)) else (some ((⟨#[]⟩ : ByteArray), ([] : List Int), (⟨#[]⟩ : ByteArray), false)))) else (some (bt61005.1, ([] : List Int), bt61002.2.1, true))) else (some ((⟨#[]⟩ : ByteArray), ([] : List Int), (⟨#[]⟩ : ByteArray), false)))))

end Go.Proofs.YtlhnaplmphdhlaaDoor.Q
end
section
set_option linter.unusedSimpArgs false
set_option linter.unusedVariables false
namespace Go.Proofs.YtlhnaplmphdhlaaDoor.Q
open Go.RowKit Go.Proofs.YtlhnaplmphdhlaaDoorW.PrintWords Go.Proofs.YtlhnaplmphdhlaaDoorW.PrintLast
/-- A step of a text without a stroke. -/
def stepF (s : ByteArray) : S81 × Bool :=
  if namedF (headC 64 (headC 58 s)) = true then
    (if 0 ≤ ixC 64 (headC 58 s) then (if (unitF (tailC 64 (headC 58 s))).2 = 0 then (⟨headC 64 (headC 58 s), (unitF (tailC 64 (headC 58 s))).1, tailC 58 s⟩, true) else (⟨⟨#[]⟩, [], ⟨#[]⟩⟩, false))
    else (⟨headC 64 (headC 58 s), [], tailC 58 s⟩, true))
  else (⟨⟨#[]⟩, [], ⟨#[]⟩⟩, false)
def stepV (p : List UInt8) : S81 := (stepF (bOf p)).1
def okS (p : List UInt8) : Bool := (stepF (bOf p)).2
/-- What Parse answers. -/
def parseF (s : ByteArray) : List S81 × Int :=
  if 256 < s.size then ([], 3) else
  match s.data.toList with
  | [] => ([], 15)
  | a :: r => if a = 47 then (if r = [] then ([], 0) else if (cuts 47 r).all okS = true then ((cuts 47 r).map stepV, 0) else ([], 15)) else ([], 15)
end Go.Proofs.YtlhnaplmphdhlaaDoor.Q
end
section
set_option linter.unusedSimpArgs false
set_option linter.unusedVariables false
namespace Go.Proofs.YtlhnaplmphdhlaaDoor.Q
open Go.RowKit Go.Proofs.YtlhnaplmphdhlaaDoorW.PrintWords Go.Proofs.YtlhnaplmphdhlaaDoorW.PrintLast Go.Proofs.YtlhnaplmphdhlaaDoorW.PrintMore
attribute [local go_sem] max2_int min2_int max_two min_two max_three min_three max_four min_four
theorem cuts_at (c : UInt8) : ∀ (m : Nat) (l : List UInt8), (∀ j, j < m → l[j]? ≠ some c) → l[m]? = some c → cuts c l = l.take m :: cuts c (l.drop (m + 1))
  | _, [], _, h => by simp at h
  | 0, a :: l, _, h => by
    simp at h
    rw [cuts, if_pos h]
    rfl
  | m + 1, a :: l, h, hm => by
    have ha : ¬ a = c := fun e => h 0 (by omega) (by simp [e])
    rw [cuts, if_neg ha, cuts_at c m l (fun j hj => by have := h (j + 1) (by omega); simpa using this) (by simpa using hm)]
    rfl
theorem cuts_end (c : UInt8) : ∀ (l : List UInt8), (∀ j : Nat, l[j]? ≠ some c) → cuts c l = [l]
  | [], _ => rfl
  | a :: l, h => by
    have ha : ¬ a = c := fun e => h 0 (by simp [e])
    rw [cuts, if_neg ha, cuts_end c l (fun j => by have := h (j + 1); rwa [List.getElem?_cons_succ] at this)]
def unitG : List (List UInt8) → List Int → Nat → List Int × Int
  | [], out, n => if 4 < n then ([], 3) else (out, 0)
  | p :: ps, out, n => if okU p = true then unitG ps (if n + 1 ≤ 4 then out ++ [valU p] else out) (n + 1) else ([], 15)
def tinderref05_ParseUnit.f (s : ByteArray) : Option (List Int × Int) := if s.size ≤ 1000000000 then some (unitF s) else none
end Go.Proofs.YtlhnaplmphdhlaaDoor.Q
end
section
namespace Go.Proofs.YtlhnaplmphdhlaaDoor.Q
open Go.RowKit Go.Proofs.YtlhnaplmphdhlaaDoorW.PrintWords Go.Proofs.YtlhnaplmphdhlaaDoorW.PrintLast Go.Proofs.YtlhnaplmphdhlaaDoorW.PrintMore
set_option linter.unusedVariables false
set_option linter.unusedSimpArgs false

attribute [local go_sem] max2_int min2_int max_two min_two max_three min_three max_four min_four
/-! ### tinderref07_Place: function 61 -/
def tinderref07_Place.l0 : Nat → ByteArray → Int → Int → Option (Int)
  | 0, _, _, _ => none
  | k + 1, x0, x1, x2 => if x1 < (x0.size : Int) then (if 0 ≤ x1 then (if (bt x0 x1) = x2 then (some x1) else (tinderref07_Place.l0 k x0 (wrap64 (x1 + 1)) x2)) else (none)) else (some x1)
def tinderref07_Place.f (k : Nat) (a0 : ByteArray) (a1 : Int) (a2 : Int) : Option (Int) := tinderref07_Place.l0 k a0 a1 a2

end Go.Proofs.YtlhnaplmphdhlaaDoor.Q
end
section
namespace Go.Proofs.YtlhnaplmphdhlaaDoor.Q
open Go.RowKit Go.Proofs.YtlhnaplmphdhlaaDoorW.PrintWords Go.Proofs.YtlhnaplmphdhlaaDoorW.PrintLast Go.Proofs.YtlhnaplmphdhlaaDoorW.PrintMore
set_option linter.unusedVariables false
set_option linter.unusedSimpArgs false

attribute [local go_sem] max2_int min2_int max_two min_two max_three min_three max_four min_four
/-! ### tinderref07_step: function 62 -/
def tinderref07_step.j0 : Nat → ByteArray → Int → ByteArray → ByteArray → Option (ByteArray × List Int × ByteArray × Bool)
  | 0, _, _, _, _ => none
  | k + 1, x0, x5, x63003000, x63003002 => if 0 ≤ x5 then (if x5 ≤ (x0.size : Int) then ((tinderref07_Place.f k (x0.extract 0 (x5 : Int).toNat) 0 64).bind fun t63004 => (if t63004 < ((x0.extract 0 (x5 : Int).toNat).size : Int) then (if 0 ≤ (wrap64 (t63004 + 1)) then (if (wrap64 (t63004 + 1)) ≤ ((x0.extract 0 (x5 : Int).toNat).size : Int) then ((tinderref05_ParseUnit.f ((x0.extract 0 (x5 : Int).toNat).extract ((wrap64 (t63004 + 1)) : Int).toNat (x0.extract 0 (x5 : Int).toNat).size)).bind fun bt63005 => (if bt63005.2 = 0 then (if 0 ≤ t63004 then (if t63004 ≤ ((x0.extract 0 (x5 : Int).toNat).size : Int) then ((tinderref05_Named.f k ((x0.extract 0 (x5 : Int).toNat).extract 0 (t63004 : Int).toNat)).bind fun t63009 => (some ((x0.extract 0 (x5 : Int).toNat).extract 0 (t63004 : Int).toNat, bt63005.1, x63003002, t63009))) else (none)) else (none)) else (some ((⟨#[]⟩ : ByteArray), ([] : List Int), (⟨#[]⟩ : ByteArray), false)))) else (none)) else (none)) else (if 0 ≤ t63004 then (if t63004 ≤ ((x0.extract 0 (x5 : Int).toNat).size : Int) then ((tinderref05_Named.f k ((x0.extract 0 (x5 : Int).toNat).extract 0 (t63004 : Int).toNat)).bind fun t63010 => (some ((x0.extract 0 (x5 : Int).toNat).extract 0 (t63004 : Int).toNat, ([] : List Int), x63003002, t63010))) else (none)) else (none)))) else (none)) else (none)
def tinderref07_step.f (k : Nat) (a0 : ByteArray) : Option (ByteArray × List Int × ByteArray × Bool) := (tinderref07_Place.f k a0 0 58).bind fun t63003 => (if t63003 < (a0.size : Int) then (if 0 ≤ (wrap64 (t63003 + 1)) then (if (wrap64 (t63003 + 1)) ≤ (a0.size : Int) then (tinderref07_step.j0 k a0 t63003 (⟨#[]⟩ : ByteArray) (a0.extract ((wrap64 (t63003 + 1)) : Int).toNat a0.size)) else (none)) else (none)) else (tinderref07_step.j0 k a0 t63003 (⟨#[]⟩ : ByteArray) (⟨#[]⟩ : ByteArray)))

end Go.Proofs.YtlhnaplmphdhlaaDoor.Q
end
section
namespace Go.Proofs.YtlhnaplmphdhlaaDoor.Q
open Go.RowKit Go.Proofs.YtlhnaplmphdhlaaDoorW.PrintWords Go.Proofs.YtlhnaplmphdhlaaDoorW.PrintLast Go.Proofs.YtlhnaplmphdhlaaDoorW.PrintMore
set_option linter.unusedVariables false
set_option linter.unusedSimpArgs false

attribute [local go_sem] max2_int min2_int max_two min_two max_three min_three max_four min_four
/-! ### tinderref07_Parse: function 41 -/
mutual
def tinderref07_Parse.j0 : Nat → ByteArray → List (S81) → Bool → Option ((List (S81)) × Int)
  | 0, _, _, _ => none
  | k + 1, x0, x4, x20 => if x20 = true then (some (([] : List (S81)), 15)) else (tinderref07_Parse.l0 k x0 x4 0)
def tinderref07_Parse.l0 : Nat → ByteArray → List (S81) → Int → Option ((List (S81)) × Int)
  | 0, _, _, _ => none
  | k + 1, x0, x4, x5 => if x5 < (x0.size : Int) then ((tinderref07_Place.f k x0 (wrap64 (x5 + 1)) 47).bind fun t42001 => (if 0 ≤ (wrap64 (x5 + 1)) then (if (wrap64 (x5 + 1)) ≤ t42001 then (if t42001 ≤ (x0.size : Int) then ((tinderref07_step.f k (x0.extract ((wrap64 (x5 + 1)) : Int).toNat (t42001 : Int).toNat)).bind fun bt42002 => (if bt42002.2.2.2 = true then (if x4.length < 2513169434916 then (tinderref07_Parse.l0 k x0 (x4 ++ [(⟨bt42002.1, bt42002.2.1, bt42002.2.2.1⟩ : S81)]) t42001) else (none)) else (some (([] : List (S81)), 15)))) else (none)) else (none)) else (none))) else (some (x4, 0))
end
def tinderref07_Parse.f (k : Nat) (a0 : ByteArray) : Option ((List (S81)) × Int) := if (a0.size : Int) > 256 then (some (([] : List (S81)), 3)) else (if a0.toList = ([47] : List UInt8) then (some (([] : List (S81)), 0)) else (if a0.toList = ([] : List UInt8) then (tinderref07_Parse.j0 k a0 ([] : List (S81)) true) else (if 0 < (a0.size : Int) then (tinderref07_Parse.j0 k a0 ([] : List (S81)) ((bt a0 0) != 47)) else (none))))

end Go.Proofs.YtlhnaplmphdhlaaDoor.Q
end
section
namespace Go.Proofs.YtlhnaplmphdhlaaDoor.Q
open Go.RowKit Go.Proofs.YtlhnaplmphdhlaaDoorW.PrintWords Go.Proofs.YtlhnaplmphdhlaaDoorW.PrintLast Go.Proofs.YtlhnaplmphdhlaaDoorW.PrintMore
set_option linter.unusedVariables false
set_option linter.unusedSimpArgs false

attribute [local go_sem] max2_int min2_int max_two min_two max_three min_three max_four min_four
/-! ### tinderref07_Same: function 42 -/
def tinderref07_Same.l0 : Nat → List (S81) → List (S81) → Int → Option (Bool)
  | 0, _, _, _ => none
  | k + 1, x0, x1, x5 => if x5 < (x0.length : Int) then (if 0 ≤ x5 then (if x5 < (x1.length : Int) then (if ((rd_T81 x0 x5).f0).toList = ((rd_T81 x1 x5).f0).toList then (if ((rd_T81 x0 x5).f2).toList = ((rd_T81 x1 x5).f2).toList then ((tinderref03_Same.f k ((rd_T81 x0 x5).f1) ((rd_T81 x1 x5).f1)).bind fun t43007 => (if t43007 = true then (tinderref07_Same.l0 k x0 x1 (wrap64 (x5 + 1))) else (some false))) else (some false)) else (some false)) else (none)) else (none)) else (some true)
def tinderref07_Same.f (k : Nat) (l0 : List (S81)) (l1 : List (S81)) : Option (Bool) := if (l0.length : Int) = (l1.length : Int) then (tinderref07_Same.l0 k l0 l1 0) else (some false)
def tinderref07_Same.T6 : Bool × List (List Nat × List Nat) := (true, [([], []), ([], []), ([0, 1], [0, 1]), ([2], [2]), ([3], [3]), ([], []), ([], []), ([5, 6], [5, 6]), ([7], [7]), ([8], [8]), ([4, 9], [4, 9]), ([10], [10]), ([11], [11]), ([11], [11]), ([12, 13, 11], [11, 12, 13]), ([14, 11], [11, 14]), ([15, 11], [11, 15]), ([11], [11]), ([11], [11]), ([17, 18, 11], [11, 17, 18]), ([19, 11], [11, 19]), ([20, 11], [11, 20]), ([16, 21, 11], [11, 16, 21]), ([11, 22], [11, 22]), ([23, 11], [23]), ([24], [24]), ([24], [24]), ([25, 26, 24], [24, 25, 26]), ([27, 24], [24, 27]), ([28, 24], [24, 28]), ([24], [24]), ([24], [24]), ([30, 31, 24], [24, 30, 31]), ([32, 24], [24, 32]), ([33, 24], [24, 33]), ([29, 34, 24, 24], [24, 29, 34]), ([35, 24], [24, 35]), ([24, 36], [24, 36])])
def tinderref07_Same.B6 : List Nat := [0, 0, 3, 7, 15, 0, 0, 96, 224, 480, 1023, 2047, 4095, 4095, 16383, 32767, 65535, 4095, 4095, 397311, 921599, 1970175, 4194303, 8388607, 16777215, 33554431, 33554431, 134217727, 268435455, 536870911, 33554431, 33554431, 3254779903, 7549747199, 16139681791, 34359738367, 68719476735, 137438953471]

end Go.Proofs.YtlhnaplmphdhlaaDoor.Q
end
section
set_option linter.unusedSimpArgs false
set_option linter.unusedVariables false
namespace Go.Proofs.YtlhnaplmphdhlaaDoor.Q
open Go.RowKit Go.Proofs.YtlhnaplmphdhlaaDoorW.PrintWords Go.Proofs.YtlhnaplmphdhlaaDoorW.PrintLast
/-- How many bytes stand ahead of the first c. -/
def nextB (c : UInt8) : List UInt8 → Nat
  | [] => 0
  | a :: l => if a = c then 0 else nextB c l + 1
theorem nextB_le (c : UInt8) : ∀ l : List UInt8, nextB c l ≤ l.length
  | [] => Nat.le_refl _
  | a :: l => by
    have := nextB_le c l
    rw [nextB]
    split
    · exact Nat.zero_le _
    · rw [List.length_cons]; omega
theorem nextB_none (c : UInt8) : ∀ (l : List UInt8) (j : Nat), j < nextB c l → l[j]? ≠ some c
  | [], j, h => absurd h (by simp [nextB])
  | a :: l, j, h => by
    rw [nextB] at h
    split at h
    · omega
    · rename_i ha
      cases j with
      | zero => simpa using ha
      | succ j => rw [List.getElem?_cons_succ]; exact nextB_none c l j (by omega)
theorem nextB_at (c : UInt8) : ∀ l : List UInt8, nextB c l < l.length → l[nextB c l]? = some c
  | [], h => absurd h (by simp)
  | a :: l, h => by
    rw [nextB] at h ⊢
    split
    · rename_i ha; simp [ha]
    · rename_i ha
      rw [if_neg ha, List.length_cons] at h
      rw [List.getElem?_cons_succ]
      exact nextB_at c l (by omega)
theorem cuts_next (c : UInt8) (l : List UInt8) : cuts c l = if nextB c l < l.length then l.take (nextB c l) :: cuts c (l.drop (nextB c l + 1)) else [l] := by
  by_cases h : nextB c l < l.length
  · rw [if_pos h]
    exact cuts_at c _ l (nextB_none c l) (nextB_at c l h)
  · rw [if_neg h]
    refine cuts_end c l (fun j hj => ?_)
    have hlt := (List.getElem?_eq_some_iff.1 hj).1
    have hle := nextB_le c l
    exact nextB_none c l j (by omega) hj
end Go.Proofs.YtlhnaplmphdhlaaDoor.Q
end
section
namespace Go.Proofs.YtlhnaplmphdhlaaDoor.Q
open Go.RowKit Go.Proofs.YtlhnaplmphdhlaaDoorW.PrintWords Go.Proofs.YtlhnaplmphdhlaaDoorW.PrintLast Go.Proofs.YtlhnaplmphdhlaaDoorW.PrintMore
set_option linter.unusedVariables false
set_option linter.unusedSimpArgs false

attribute [local go_sem] max2_int min2_int max_two min_two max_three min_three max_four min_four
/-! ### tinderref07_Show: function 44 -/
mutual
def tinderref07_Show.l0 : Nat → List (S81) → Int → Option (ByteArray × Int)
  | 0, _, _ => none
  | k + 1, x0, x5 => if x5 < (x0.length : Int) then (if 0 ≤ x5 then ((tinderref05_Named.f k ((rd_T81 x0 x5).f0)).bind fun t45003 => (if t45003 = true then (if (((rd_T81 x0 x5).f1).length : Int) > 4 then (some ((⟨#[]⟩ : ByteArray), 1)) else ((tinderref07_Place.f k ((rd_T81 x0 x5).f2) 0 47).bind fun t45004 => (if t45004 < (((rd_T81 x0 x5).f2).size : Int) then (some ((⟨#[]⟩ : ByteArray), 1)) else (tinderref07_Show.l0 k x0 (wrap64 (x5 + 1)))))) else (some ((⟨#[]⟩ : ByteArray), 1)))) else (none)) else (tinderref07_Show.l1 k x0 ([] : List Int) 0)
def tinderref07_Show.l1 : Nat → List (S81) → List Int → Int → Option (ByteArray × Int)
  | 0, _, _, _ => none
  | k + 1, x0, x4, x7 => if x7 < (x0.length : Int) then (if 0 ≤ x7 then (if x4.length < 140737488355328 then ((some (x4 ++ [47] : List Int)).bind fun y45007 => (if y45007.length + ((rd_T81 x0 x7).f0).size < 140737488355328 then ((some (y45007 ++ bytesOf ((rd_T81 x0 x7).f0) : List Int)).bind fun y45010 => (if (((rd_T81 x0 x7).f1).length : Int) > 0 then (if y45010.length < 140737488355328 then ((some (y45010 ++ [64] : List Int)).bind fun y45013 => ((tinderref05_ShowUnit.f k ((rd_T81 x0 x7).f1)).bind fun t45016 => (if y45013.length + t45016.size < 140737488355328 then ((some (y45013 ++ bytesOf t45016 : List Int)).bind fun y45017 => (if ((rd_T81 x0 x7).f2).toList = ([] : List UInt8) then (tinderref07_Show.l1 k x0 y45017 (wrap64 (x7 + 1))) else (if y45017.length < 140737488355328 then ((some (y45017 ++ [58] : List Int)).bind fun y45020 => (if y45020.length + ((rd_T81 x0 x7).f2).size < 140737488355328 then (tinderref07_Show.l1 k x0 (y45020 ++ bytesOf ((rd_T81 x0 x7).f2)) (wrap64 (x7 + 1))) else (none))) else (none)))) else (none)))) else (none)) else (if ((rd_T81 x0 x7).f2).toList = ([] : List UInt8) then (tinderref07_Show.l1 k x0 y45010 (wrap64 (x7 + 1))) else (if y45010.length < 140737488355328 then ((some (y45010 ++ [58] : List Int)).bind fun y45026 => (if y45026.length + ((rd_T81 x0 x7).f2).size < 140737488355328 then (tinderref07_Show.l1 k x0 (y45026 ++ bytesOf ((rd_T81 x0 x7).f2)) (wrap64 (x7 + 1))) else (none))) else (none))))) else (none))) else (none)) else (none)) else (if (x0.length : Int) = 0 then (some ((⟨#[47]⟩ : ByteArray), 0)) else (if (x4.length : Int) > 256 then (some ((⟨#[]⟩ : ByteArray), 3)) else (some (strOfNums x4, 0))))
end
def tinderref07_Show.f (k : Nat) (l0 : List (S81)) : Option (ByteArray × Int) := tinderref07_Show.l0 k l0 0

end Go.Proofs.YtlhnaplmphdhlaaDoor.Q
end
section
set_option linter.unusedSimpArgs false
set_option linter.unusedVariables false
namespace Go.Proofs.YtlhnaplmphdhlaaDoor.Q
open Go.RowKit Go.Proofs.YtlhnaplmphdhlaaDoorW.PrintWords Go.Proofs.YtlhnaplmphdhlaaDoorW.PrintLast
def numsB (l : List UInt8) : List Int := l.map fun b => (b.toNat : Int)
/-- How much steps weigh. -/
def wt81 (x : S81) : Nat := x.f0.size + ((x.f1.map fun _ => 0 + 1).sum + x.f2.size)
def wtL (l : List S81) : Nat := (l.map fun x => wt81 x + 1).sum
end Go.Proofs.YtlhnaplmphdhlaaDoor.Q
end
section
set_option linter.unusedSimpArgs false
set_option linter.unusedVariables false
namespace Go.Proofs.YtlhnaplmphdhlaaDoor.Q
open Go.RowKit Go.Proofs.YtlhnaplmphdhlaaDoorW.PrintWords Go.Proofs.YtlhnaplmphdhlaaDoorW.PrintLast
theorem showB_size (b u : Int) : (showB b u).size = (showL b.toNat u.toNat).length := by
  show (showL b.toNat u.toNat).toArray.size = _
  rw [List.size_toArray]
theorem showB_small (b u : Int) (hb : 2 ≤ b) (hu : 0 ≤ u ∧ u < 4294967296) : 1 ≤ (showB b u).size ∧ (showB b u).size ≤ 32 := by
  rw [showB_size]
  exact ⟨showL_pos _ _, showL_len b.toNat (by omega) 31 u.toNat (by omega)⟩
theorem bytes_show (b u : Int) : bytesOf (showB b u) = showI b u := rfl
theorem num_ch (r : Int) (h : 0 ≤ r ∧ r < 36) : numF (chI r) = r := by
  unfold numF chI
  split <;> split <;> (try split) <;> (try split) <;> omega
theorem val_ch (r b : Int) (h : 0 ≤ r ∧ r < b) (hb : 2 ≤ b ∧ b ≤ 36) : valF (chI r) b = (r, true) := by
  unfold valF
  rw [num_ch r (by omega), if_pos (by omega)]
theorem parL_snoc (b c : Int) (l : List Int) : ∀ n g, parL b (l ++ [c]) n g = (parL b l n g).bind fun p => parL b [c] p.1 p.2 := by
  induction l with
  | nil => intro n g; rfl
  | cons x l ih =>
    intro n g
    rw [List.cons_append, parL_cons, parL_cons]
    by_cases h1 : (valF x b).2 = true
    · rw [if_pos h1, if_pos h1]
      cases g
      · rw [if_neg Bool.false_ne_true, if_neg Bool.false_ne_true]; exact ih _ _
      · rw [if_pos rfl, if_pos rfl]; exact ih _ _
    · rw [if_neg h1, if_neg h1]; rfl
theorem par_show (b : Int) (hb : 2 ≤ b ∧ b ≤ 36) (m : Nat) : (m : Int) < 4294967296 → parL b (showI b m) 0 false = some ((m : Int), false) := by
  induction m using Nat.strongRecOn with
  | ind m ih =>
    intro hm
    by_cases h : (m : Int) < b
    · rw [showI_small (by omega) h hb.2, parL_cons, val_ch m b ⟨by omega, h⟩ hb, if_pos rfl, if_neg Bool.false_ne_true]
      show parL b [] (0 * b + (m : Int)) (decide (0 * b + (m : Int) ≥ 4294967296)) = _
      rw [Int.zero_mul, Int.zero_add, decide_eq_false (by omega), parL_nil]
    · have hq : (m : Int) / b = ((m / b.toNat : Nat) : Int) := by
        obtain ⟨x, rfl⟩ := Int.eq_ofNat_of_zero_le (show 0 ≤ b by omega)
        rfl
      have hlt : m / b.toNat < m := Nat.div_lt_self (by omega) (by omega)
      have hdm := Int.mul_ediv_add_emod (m : Int) b
      have hm0 := Int.emod_nonneg (m : Int) (show b ≠ 0 by omega)
      have hm1 := Int.emod_lt_of_pos (m : Int) (show 0 < b by omega)
      rw [showI_big hb.1 hb.2 (by omega), parL_snoc, hq, ih _ hlt (by omega), Option.bind_some, parL_cons, val_ch _ b ⟨hm0, hm1⟩ hb, if_pos rfl, if_neg Bool.false_ne_true]
      rw [← hq]
      have e : (m : Int) / b * b + (m : Int) % b = m := by rw [Int.mul_comm]; exact hdm
      show parL b [] ((m : Int) / b * b + (m : Int) % b) (decide ((m : Int) / b * b + (m : Int) % b ≥ 4294967296)) = _
      rw [e, decide_eq_false (by omega), parL_nil]
theorem par_show' (b u : Int) (hb : 2 ≤ b ∧ b ≤ 36) (hu : 0 ≤ u ∧ u < 4294967296) : parL b (showI b u) 0 false = some (u, false) := by
  obtain ⟨m, rfl⟩ := Int.eq_ofNat_of_zero_le hu.1
  exact par_show b hb m hu.2
theorem ch_big (r : Int) (h : 0 ≤ r) : 48 ≤ chI r := by unfold chI; split <;> omega
theorem show_first (b : Int) (hb : 2 ≤ b ∧ b ≤ 36) (m : Nat) : ∀ c ∈ showI b m, 48 ≤ c := by
  induction m using Nat.strongRecOn with
  | ind m ih =>
    intro c hc
    by_cases h : (m : Int) < b
    · rw [showI_small (by omega) h hb.2] at hc
      rw [List.mem_singleton.1 hc]
      exact ch_big _ (by omega)
    · have hq : (m : Int) / b = ((m / b.toNat : Nat) : Int) := by
        obtain ⟨x, rfl⟩ := Int.eq_ofNat_of_zero_le (show 0 ≤ b by omega)
        rfl
      have hm0 := Int.emod_nonneg (m : Int) (show b ≠ 0 by omega)
      rw [showI_big hb.1 hb.2 (by omega), hq] at hc
      rcases List.mem_append.1 hc with hc | hc
      · exact ih _ (Nat.div_lt_self (by omega) (by omega)) c hc
      · rw [List.mem_singleton.1 hc]
        exact ch_big _ hm0
theorem show_nominus (b u : Int) (hb : 2 ≤ b ∧ b ≤ 36) (hu : 0 ≤ u ∧ u < 4294967296) : ¬ bt (showB b u) 0 = 45 := by
  obtain ⟨m, rfl⟩ := Int.eq_ofNat_of_zero_le hu.1
  have hs := showB_small b m hb.1 hu
  have hl : 0 < (showI b m).length := by rw [← bytes_show, bytesOf_length]; omega
  have h := show_first b hb m ((showI b m)[0]) (List.getElem_mem hl)
  intro he
  rw [← rd_bytesOf, bytes_show] at he
  have : rd (showI b m) 0 = (showI b m)[0] := by simp [rd, List.getD_eq_getElem?_getD, List.getElem?_eq_getElem hl]
  omega
theorem parF_show (b u : Int) (hb : 2 ≤ b ∧ b ≤ 36) (hu : 0 ≤ u ∧ u < 4294967296) : parF (showB b u) b = (u, 0) := by
  have hs := showB_small b u hb.1 hu
  unfold parF
  rw [if_pos hb, if_neg (fun h => show_nominus b u hb hu h.2), if_neg (by omega), bytes_show, par_show' b u hb hu, resF_pos]
theorem hex_all (m : Nat) : ∀ c ∈ showL 16 m, (48 ≤ c.toNat ∧ c.toNat ≤ 57) ∨ (97 ≤ c.toNat ∧ c.toNat ≤ 102) := by
  induction m using Nat.strongRecOn with
  | ind m ih =>
    have hd : ∀ r, r < 16 → (48 ≤ (UInt8.ofNat (chN r)).toNat ∧ (UInt8.ofNat (chN r)).toNat ≤ 57) ∨ (97 ≤ (UInt8.ofNat (chN r)).toNat ∧ (UInt8.ofNat (chN r)).toNat ≤ 102) := by
      intro r hr
      rw [UInt8.toNat_ofNat']
      unfold chN
      split <;> omega
    by_cases h : m < 16
    · rw [showL_small h]
      intro c hc
      rw [List.mem_singleton.1 hc]
      exact hd m h
    · rw [showL_big (by decide) (by omega)]
      intro c hc
      rcases List.mem_append.1 hc with hc | hc
      · exact ih (m / 16) (by omega) c hc
      · rw [List.mem_singleton.1 hc]
        exact hd (m % 16) (by omega)
theorem hex_len (k : Nat) : ∀ u : Nat, u < 16 ^ (k + 1) → (showL 16 u).length ≤ k + 1 := by
  induction k with
  | zero =>
    intro u h
    rw [showL_small (by omega)]
    simp
  | succ k ih =>
    intro u h
    by_cases hs : u < 16
    · rw [showL_small hs]
      simp
    · rw [showL_big (by decide) (by omega), List.length_append, List.length_singleton]
      have := ih (u / 16) (by rw [Nat.pow_succ] at h; omega)
      omega
theorem shL_len8 (v : Int) (h : 0 ≤ v ∧ v < 4294967296) : (shL v).length ≤ 8 := by
  have e : (16 : Nat) ^ (7 + 1) = 4294967296 := by decide
  exact hex_len 7 v.toNat (by omega)
theorem shL_no (v : Int) (c : UInt8) (hc : c = 44 ∨ c = 47 ∨ c = 58 ∨ c = 64) : c ∉ shL v := fun h => by
  have h2 := hex_all v.toNat c h
  rcases hc with rfl | rfl | rfl | rfl <;> revert h2 <;> decide
theorem no_get {c : UInt8} {l : List UInt8} (h : c ∉ l) (j : Nat) : l[j]? ≠ some c := fun e => h (List.mem_of_getElem? e)
theorem nextB_no (c : UInt8) : ∀ (a : List UInt8), c ∉ a → nextB c a = a.length
  | [], _ => rfl
  | x :: a, h => by
    rw [nextB, if_neg (fun e => h (by simp [e])), nextB_no c a (fun e => h (by simp [e]))]
    rfl
theorem nextB_app (c : UInt8) (b : List UInt8) : ∀ (a : List UInt8), c ∉ a → nextB c (a ++ c :: b) = a.length
  | [], _ => by rw [List.nil_append, nextB, if_pos rfl]; rfl
  | x :: a, h => by
    rw [List.cons_append, nextB, if_neg (fun e => h (by simp [e])), nextB_app c b a (fun e => h (by simp [e]))]
    rfl
theorem cuts_join (c : UInt8) : ∀ (x : List UInt8) (xs : List (List UInt8)), (∀ p ∈ x :: xs, c ∉ p) → cuts c (Lib.join (x :: xs) [c]) = x :: xs
  | x, [], h => by
    rw [Lib.join_one]
    exact cuts_end c x (fun j => no_get (h x (by simp)) j)
  | x, y :: ys, h => by
    have hj : Lib.join (x :: y :: ys) [c] = x ++ c :: Lib.join (y :: ys) [c] := by
      rw [Lib.join_cons, Lib.join_cons]
      unfold Lib.joinTail
      rw [List.map_cons, List.flatten_cons]
      simp
    have hx := h x (by simp)
    rw [hj, cuts_next, nextB_app c _ x hx, if_pos (by rw [List.length_append, List.length_cons]; omega), List.take_left]
    rw [show (x ++ c :: Lib.join (y :: ys) [c]).drop (x.length + 1) = Lib.join (y :: ys) [c] by
      rw [← List.drop_drop, List.drop_left]
      rfl]
    rw [cuts_join c y ys (fun p hp => h p (by simp [hp]))]
theorem okU_show (v : Int) (h : 0 ≤ v ∧ v < 4294967296) : okU (shL v) = true ∧ valU (shL v) = v := by
  have e := parF_show 16 v (by decide) h
  have hb : bOf (shL v) = showB 16 v := rfl
  have hm := show_nominus 16 v (by decide) h
  have hl := shL_len8 v h
  unfold okU valU
  rw [hb, e]
  refine ⟨?_, rfl⟩
  rw [decide_eq_false hm, decide_eq_true hl]
  rfl
theorem units_back (l : List Int) (hl : U32L l) (h0 : 0 < l.length) (h4 : l.length ≤ 4) : unitF (unitsB l) = (l, 0) := by
  have hd : (unitsB l).data.toList = unitsL l := rfl
  obtain ⟨a, r, rfl⟩ : ∃ a r, l = a :: r := by
    cases l with
    | nil => simp at h0
    | cons a r => exact ⟨a, r, rfl⟩
  have hc : cuts 44 (unitsL (a :: r)) = (a :: r).map shL := cuts_join 44 (shL a) (r.map shL) (fun p hp => by
    rw [← List.map_cons (f := shL)] at hp
    obtain ⟨v, _, rfl⟩ := List.mem_map.1 hp
    exact shL_no v 44 (.inl rfl))
  unfold unitF
  rw [hd, hc]
  have hall : ((a :: r).map shL).all okU = true := List.all_eq_true.2 (fun p hp => by
    obtain ⟨v, hv, rfl⟩ := List.mem_map.1 hp
    exact (okU_show v (hl v hv)).1)
  rw [if_pos hall, List.length_map, if_neg (by omega), List.map_map]
  congr 1
  conv => rhs; rw [← List.map_id (a :: r)]
  apply List.map_congr_left
  intro v hv
  exact (okU_show v (hl v hv)).2
end Go.Proofs.YtlhnaplmphdhlaaDoor.Q
end
section
set_option linter.unusedSimpArgs false
set_option linter.unusedVariables false
namespace Go.Proofs.YtlhnaplmphdhlaaDoor.Q
open Go.RowKit Go.Proofs.YtlhnaplmphdhlaaDoorW.PrintWords Go.Proofs.YtlhnaplmphdhlaaDoorW.PrintLast
def fours (l : List Int) : List Int := (l.map fourF).flatten
theorem fours_cons (a : Int) (l : List Int) : fours (a :: l) = fourF a ++ fours l := rfl
theorem fours_snoc (l : List Int) (a : Int) : fours (l ++ [a]) = fours l ++ fourF a := by
  unfold fours
  rw [List.map_append, List.flatten_append]
  simp
theorem fours_len (l : List Int) : (fours l).length = 4 * l.length := by
  induction l with
  | nil => rfl
  | cons a l ih => rw [fours_cons, List.length_append, ih, List.length_cons]; show 4 + 4 * l.length = _; omega
theorem four_BL (a : Int) : BytesL (fourF a) := fun x hx => by
  unfold fourF at hx
  simp only [List.mem_cons, List.not_mem_nil, or_false] at hx
  rcases hx with rfl | rfl | rfl | rfl <;> omega
theorem fours_BL (l : List Int) : BytesL (fours l) := by
  induction l with
  | nil => exact fun x hx => by cases hx
  | cons a l ih => rw [fours_cons]; exact app_BL (four_BL a) ih
theorem numsR_fours (l : List Int) (h : U32L l) : numsR l.length (fours l) = l := by
  induction l with
  | nil => rfl
  | cons a l ih =>
    have ha := h a (by simp)
    rw [List.length_cons, fours_cons]
    show dec (fourF a ++ fours l) 4 :: numsR l.length ((fourF a ++ fours l).drop 4) = _
    rw [show (fourF a ++ fours l).drop 4 = fours l from rfl, ih (fun x hx => h x (by simp [hx]))]
    congr 1
    rw [dec_four]
    show (((a / 16777216) % 256 * 256 + (a / 65536) % 256) * 256 + (a / 256) % 256) * 256 + a % 256 = a
    omega
theorem ints_fours (l : List Int) (h : U32L l) : intsG (fours l) = (l, 0) := by
  unfold intsG
  rw [if_pos (by rw [fours_len]; omega), nums_eq _ (fours_BL l), fours_len, Nat.mul_div_cancel_left _ (by decide), numsR_fours l h]
def zs (T : List ByteArray) : List Int := (T.map fun s => bytesOf s ++ [0]).flatten
def zsU (T : List ByteArray) : List UInt8 := (T.map fun s => s.data.toList ++ [0]).flatten
theorem zs_cons (s : ByteArray) (T : List ByteArray) : zs (s :: T) = bytesOf s ++ [0] ++ zs T := rfl
theorem zsU_cons (s : ByteArray) (T : List ByteArray) : zsU (s :: T) = s.data.toList ++ [0] ++ zsU T := rfl
theorem zs_snoc (T : List ByteArray) (s : ByteArray) : zs (T ++ [s]) = zs T ++ (bytesOf s ++ [0]) := by
  unfold zs
  rw [List.map_append, List.flatten_append]
  simp
theorem zs_map (T : List ByteArray) : zs T = (zsU T).map fun b => (b.toNat : Int) := by
  induction T with
  | nil => rfl
  | cons s T ih => rw [zs_cons, zsU_cons, List.map_append, List.map_append, ← ih]; rfl
theorem zs_len (T : List ByteArray) : T.length ≤ (zs T).length := by
  induction T with
  | nil => exact Nat.le_refl _
  | cons s T ih => rw [zs_cons, List.length_append, List.length_append, List.length_cons, List.length_singleton]; omega
theorem zs_BL (T : List ByteArray) : BytesL (zs T) := fun x hx => by
  rw [zs_map] at hx
  obtain ⟨b, _, rfl⟩ := List.mem_map.1 hx
  have := b.toNat_lt
  omega
theorem zsU_join (r : List ByteArray) : ∀ a : ByteArray, zsU (a :: r) = Lib.join ((a :: r).map fun s => s.data.toList) [0] ++ [0] := by
  induction r with
  | nil => intro a; rw [zsU_cons]; rw [List.map_cons, List.map_nil, Lib.join_one]; show _ ++ _ ++ [] = _; rw [List.append_nil]
  | cons b r ih =>
    intro a
    rw [zsU_cons, ih b]
    simp only [List.map_cons]
    have hj : ∀ (x y : List UInt8) (ys : List (List UInt8)), Lib.join (x :: y :: ys) [0] = x ++ 0 :: Lib.join (y :: ys) [0] := fun x y ys => by
      rw [Lib.join_cons, Lib.join_cons]
      unfold Lib.joinTail
      rw [List.map_cons, List.flatten_cons]
      simp
    rw [hj]
    simp
theorem lib_map (J : List UInt8) : Lib.bytesOf (J.map fun b => (b.toNat : Int)) = J := by
  have h := strOf_bytes J
  rw [str_mk] at h
  have h2 := congrArg (fun s : ByteArray => s.data.toList) h
  simpa using h2
theorem texts_zs (T : List ByteArray) (h : ∀ s ∈ T, ¬ 0 ≤ Lib.indexByte s.data.toList 0) : textsG (zs T) = (T, 0) := by
  have hno : ∀ s ∈ T, (0 : UInt8) ∉ s.data.toList := fun s hs hm => by
    obtain ⟨i, hi, he⟩ := List.getElem_of_mem hm
    have hi' : i < s.size := by rw [← data_length]; exact hi
    refine h s hs (enc_zero hi' ?_)
    have e : s[i]'hi' = s.data.toList[i]'hi := rfl
    rw [e, he]
    rfl
  cases T with
  | nil => rfl
  | cons a r =>
    have e : zs (a :: r) = (Lib.join ((a :: r).map fun s => s.data.toList) [0]).map (fun b => (b.toNat : Int)) ++ [0] := by
      rw [zs_map, zsU_join, List.map_append]
      rfl
    have hc := cuts_join 0 a.data.toList (r.map fun s => s.data.toList) (fun p hp => by
      rw [← List.map_cons (f := fun s : ByteArray => s.data.toList)] at hp
      obtain ⟨s, hs, rfl⟩ := List.mem_map.1 hp
      exact hno s hs)
    rw [← List.map_cons (f := fun s : ByteArray => s.data.toList)] at hc
    generalize hJ : (Lib.join ((a :: r).map fun s => s.data.toList) [0]) = J at e hc
    rw [e]
    unfold textsG
    have hl : (J.map (fun b : UInt8 => (b.toNat : Int)) ++ [0]).length - 1 = (J.map (fun b : UInt8 => (b.toNat : Int))).length := by rw [List.length_append, List.length_singleton]; omega
    rw [if_neg (by rw [List.length_append, List.length_singleton]; omega), hl, if_pos (by simp [rd, List.getD_eq_getElem?_getD]), List.take_left' rfl]
    unfold piecesB
    rw [lib_map, hc, List.map_map]
    congr 1
    conv => rhs; rw [← List.map_id (a :: r)]
    apply List.map_congr_left
    intro s _
    rfl
theorem unit_zero : unitF (unitsB []) = ([], 15) := by kernel_rfl
theorem units_long (l : List Int) (hl : U32L l) (h4 : 4 < l.length) : unitF (unitsB l) = ([], 3) := by
  have hd : (unitsB l).data.toList = unitsL l := rfl
  obtain ⟨a, r, rfl⟩ : ∃ a r, l = a :: r := by
    cases l with
    | nil => simp at h4
    | cons a r => exact ⟨a, r, rfl⟩
  have hc : cuts 44 (unitsL (a :: r)) = (a :: r).map shL := cuts_join 44 (shL a) (r.map shL) (fun p hp => by
    rw [← List.map_cons (f := shL)] at hp
    obtain ⟨v, _, rfl⟩ := List.mem_map.1 hp
    exact shL_no v 44 (.inl rfl))
  unfold unitF
  rw [hd, hc]
  have hall : ((a :: r).map shL).all okU = true := List.all_eq_true.2 (fun p hp => by
    obtain ⟨v, hv, rfl⟩ := List.mem_map.1 hp
    exact (okU_show v (hl v hv)).1)
  rw [if_pos hall, List.length_map, if_pos (by omega)]
end Go.Proofs.YtlhnaplmphdhlaaDoor.Q
end
section
set_option linter.unusedSimpArgs false
set_option linter.unusedVariables false
namespace Go.Proofs.YtlhnaplmphdhlaaDoor.Q
open Go.RowKit Go.Proofs.YtlhnaplmphdhlaaDoorW.PrintWords Go.Proofs.YtlhnaplmphdhlaaDoorW.PrintLast Go.Proofs.YtlhnaplmphdhlaaDoorW.PrintMore
attribute [local go_sem] max2_int min2_int max_two min_two max_three min_three max_four min_four
set_option maxRecDepth 100000 in
set_option maxHeartbeats 16000000 in
theorem propBack_row {w : World} (ht : QB.Tabs w) (hm : ∃ m, w.cell? ⟨0, 0, none⟩ = some (.int .i64 m)) (A : Option Addr) (c : Nat) (L : List Int) (hC : Kd.C (Kd.int .u32) w A L.length L) (hc : L.length ≤ c) (hg : L.length * 4 ≤ 140737488351232 ∧ ∀ a ∈ L, (Lit.int .u32 a).wf = true) (B : Option Addr) (d : Nat) (T : List ByteArray) (hCT : Kd.C Kd.string w B T.length T) (hcT : T.length ≤ d) (hgT : T.length * 16 ≤ 140737488351232 ∧ ∀ a ∈ T, a.size ≤ 140737488351232) :
    Calls Tryd.prog 9 #[.slice A L.length c, .slice B T.length d] w fun e w' => e = .returned (.bool true) ∧ Below w.heap.size w w' := by
  obtain ⟨m, hm⟩ := hm
  have hL : U32L L := fun a ha => by
    have := hg.2 a ha
    simp only [Lit.wf, Bool.and_eq_true, decide_eq_true_eq, show IntKind.u32.min = 0 from rfl, show IntKind.u32.max = 4294967295 from rfl] at this
    omega
  have HT := Aside0.mk ht
  have HM := Aside0.mk hm
  have HC := Aside0.mk hC
  have HK := Aside0.mk hc
  have HCT := Aside0.mk hCT
  have HKT := Aside0.mk hcT
  have HU := Aside0.mk hL
  have HTL := Aside0.mk (show T.length ≤ 100000000000000 by omega)
  clear ht hm hC hc hg hCT hcT hgT hL
  by_cases hbig : 10000 < L.length
  · have d1 : decide ((10000 : Int) < (L.length : Int)) = true := decide_eq_true (by omega)
    have d2 : decide (10000 < L.length) = true := decide_eq_true hbig
    clear hbig
    go_enter Tryd.func9, Tryd.ntmps9
    go_wp2_with (go_at_call 14; (with_reducible refine (alive_calls _).mono ?_); rintro e w1 ⟨rfl, hb⟩; have HB1 := Aside0.mk hb; clear hb)
    go_ret
    exact ⟨rfl, HB1.out⟩
  · have d1 : decide ((10000 : Int) < (L.length : Int)) = false := decide_eq_false (by omega)
    have d2 : decide (10000 < L.length) = false := decide_eq_false hbig
    have HN := Aside0.mk (show L.length ≤ 10000 by omega)
    clear hbig
    go_enter Tryd.func9, Tryd.ntmps9
    go_wp2_with (go_at_call 14; (with_reducible refine (alive_calls _).mono ?_); rintro e w1 ⟨rfl, hb⟩; have HB1 := Aside0.mk hb; clear hb)
    clear d1 d2
    go_loopw [5, 7] (fun v i wr => ∃ k : Nat, k ≤ L.length ∧ i = .int .i64 k ∧ Aside0 (Kd.R (Kd.int .u8) 5 wr w.heap.size (fun _ => True) v (fours (L.take k))) ∧ Aside0 (Below w.heap.size w wr)) (fun _ i _ => L.length - (intOf i).toNat)
    case atStart => exact ⟨0, Nat.zero_le _, rfl, ⟨Kd.R_nil _ _ _ _ _⟩, HB1⟩
    case round =>
      obtain ⟨k, hk, rfl, HR, HB⟩ := hrel
      clear HB1
      by_cases hlt : k < L.length
      · obtain ⟨ad, eA, hx⟩ := Kd.at_int (Kd.C_below HC.out HB.out) (k : Int) (by omega) (by omega)
        cases eA
        rw [Int.toNat_natCast] at hx
        have HFS := Aside0.mk (show fours (L.take (k + 1)) = fours (L.take k) ++ fourF (rd L (k : Int)) by rw [take_succ' L k hlt, fours_snoc, rd_get L k hlt])
        have HFL := Aside0.mk (show (fours (L.take k)).length ≤ 40000 by rw [fours_len, List.length_take]; have := HN.out; omega)
        obtain ⟨fk, hfk⟩ : ∃ fk, fk = fours (L.take k) := ⟨_, rfl⟩
        obtain ⟨x, hxx⟩ : ∃ x, x = rd L (k : Int) := ⟨_, rfl⟩
        rw [← hfk] at HR HFS HFL
        rw [← hxx] at hx HFS
        clear hfk hxx
        have HE := Aside0.mk (show ∀ W : World, Calls Tryd.prog 20 #[.int .u32 x] W (fun e w' => ∃ A c, e = .returned (.slice A 4 c) ∧ Kd.C (Kd.int .u8) w' A 4 (fourF x) ∧ Below W.heap.size W w') from fun W => by
          refine (prop_EncodeInt.calls x (fourF x) W rfl).mono ?_
          rintro e w' ⟨v, rfl, hR, hb⟩
          obtain ⟨A, c, rfl, hc, hC⟩ := Kd.R_reads hR
          exact ⟨A, c, rfl, hC, hb⟩)
        generalize fourF x = fx at HE HFS
        go_wp2_with (first
          | (go_at_call 20; (with_reducible refine (HE.out _).mono ?_); rintro e w2 ⟨A2, c2, rfl, hC2, hb⟩; have HCC := Aside0.mk hC2; have HR2 := Aside0.mk (Kd.R_below HR.out hb); have HB2 := Aside0.mk (below_step HB.out hb); clear hb hC2)
          | ((with_reducible refine gate_builtin (b := .append) (xs := #[.tmp 28, .tmp 33]) rfl ?_); at_builtin; refine Kd.R_append_rows (Kd.int .u8) (w0 := w) w.heap.size rfl (.tmp 28) (.tmp 33) 25 5 (.int .u8 0) 1 rfl Tryd.underlying25 info5 rfl (by decide) (by omega) _ fk fx _ _ _ (fun _ => True) (fun _ => False) rfl rfl HR2.out HCC.out (fun _ _ h => h) (fun _ h => h.elim) (fun _ _ => trivial) HB2.out HB2.out.size (by have := HFL.out; omega) ?_; intro v1 w1 ho hb hg hat; have HO := Aside0.mk ho; have HB3 := Aside0.mk hb; clear ho hb hg hat))
        have hn := HN.out
        have hw2 : wrap64 ((k : Int) + 1) = ((k + 1 : Nat) : Int) := by unfold wrap64; omega
        go_roundw
        case rel => exact ⟨k + 1, by omega, by rw [hw2], ⟨by rw [HFS.out]; exact HO.out⟩, HB3⟩
        case measure => rw [hw2]; simp only [intOf, Int.toNat_natCast]; omega
      · obtain rfl : k = L.length := by omega
        rename World => wa
        have hR := HR.out
        rw [List.take_of_length_le (Nat.le_refl _)] at hR
        obtain ⟨A1, c1, rfl, hc1, hC1⟩ := Kd.R_reads hR
        have HC1 := Aside0.mk hC1
        have HK1 := Aside0.mk hc1
        clear hR hC1 hc1 HR hk hlt
        have HB1 := HB
        clear HB
        go_wp2
        go_loopw [6, 8] (fun v i W => ∃ k : Nat, k ≤ T.length ∧ i = .int .i64 k ∧ Aside0 (Kd.R (Kd.int .u8) 5 W wa.heap.size (fun _ => True) v (zs (T.take k))) ∧ Aside0 ((zs (T.take k)).length ≤ 100000 ∧ ∀ s ∈ T.take k, ¬ 0 ≤ Lib.indexByte s.data.toList 0) ∧ Aside0 (Below wa.heap.size wa W)) (fun _ i _ => T.length - (intOf i).toNat)
        case atStart => exact ⟨0, Nat.zero_le _, rfl, ⟨Kd.R_nil _ _ _ _ _⟩, ⟨Nat.zero_le _, fun s hs => by cases hs⟩, ⟨Below.refl _ _⟩⟩
        case round =>
          obtain ⟨k, hk, rfl, HR, HZ, HB⟩ := hrel
          by_cases hlt : k < T.length
          · have hB1 := HB1.out
            have htl := HTL.out
            have hw2 : wrap64 ((k : Int) + 1) = ((k + 1 : Nat) : Int) := by unfold wrap64; omega
            have hBall := below_step hB1 HB.out
            obtain ⟨ad, eA, hx⟩ := Kd.at_string (Kd.C_below HCT.out hBall) (k : Int) (by omega) (by omega)
            cases eA
            rw [Int.toNat_natCast] at hx
            have HTK := Aside0.mk (take_succ' T k hlt)
            have e1 : rdOf ByteArray.empty T (k : Int) = T[k] := by simp [rdOf, List.getD_eq_getElem?_getD, List.getElem?_eq_getElem hlt]
            rw [e1] at hx
            obtain ⟨s, hs⟩ : ∃ s, s = T[k] := ⟨_, rfl⟩
            rw [← hs] at hx HTK
            clear hs e1
            have HE := Aside0.mk (show ∀ W : World, Calls Tryd.prog 17 #[.string s] W (fun e w' => ∃ A c, e = .returned (.tuple #[.slice A (encF s).1.length c, .int .i64 (encF s).2]) ∧ (encF s).1.length ≤ c ∧ Kd.C (Kd.int .u8) w' A (encF s).1.length (encF s).1 ∧ Below W.heap.size W w') from fun W => enc_calls s W)
            by_cases hz : 0 ≤ Lib.indexByte s.data.toList 0
            · have he : encF s = ([], 15) := by unfold encF; rw [if_pos hz]
              rw [he] at HE
              clear he hz
              go_wp2_with (go_at_call 17; (with_reducible refine (HE.out _).mono ?_); rintro e w2 ⟨A2, c2, rfl, hc2, hC2, hb⟩; have HB2 := Aside0.mk (below_step HB.out hb); clear hb hC2 hc2)
              go_ret
              exact ⟨rfl, below_step HB1.out HB2.out⟩
            · by_cases hbg : 256 ≤ s.size
              · have he : encF s = ([], 3) := by unfold encF; rw [if_neg hz, if_pos hbg]
                have d1 : decide ((256 : Int) ≤ (s.size : Int)) = true := decide_eq_true (by omega)
                have d2 : decide (256 ≤ s.size) = true := decide_eq_true hbg
                rw [he] at HE
                clear he hz hbg
                go_wp2_with (go_at_call 17; (with_reducible refine (HE.out _).mono ?_); rintro e w2 ⟨A2, c2, rfl, hc2, hC2, hb⟩; have HB2 := Aside0.mk (below_step HB.out hb); replace hx := (hb.cell (World.block_lt_of_cell? _ _ hx)).trans hx; clear hb hC2 hc2)
                go_ret
                exact ⟨rfl, below_step HB1.out HB2.out⟩
              · have he : encF s = (bytesOf s ++ [0], 0) := by unfold encF; rw [if_neg hz, if_neg hbg]
                rw [he] at HE
                have HZ2 := Aside0.mk (show ∀ x ∈ T.take (k + 1), ¬ 0 ≤ Lib.indexByte x.data.toList 0 from fun x hx => by
                  rw [HTK.out] at hx
                  rcases List.mem_append.1 hx with h | h
                  · exact HZ.out.2 x h
                  · rw [List.mem_singleton.1 h]; exact hz)
                have HFS := Aside0.mk (show zs (T.take (k + 1)) = zs (T.take k) ++ (bytesOf s ++ [0]) by rw [HTK.out, zs_snoc])
                have hzl := HZ.out.1
                have hml : (bytesOf s ++ [0]).length ≤ 256 := by rw [List.length_append, bytesOf_length, List.length_singleton]; omega
                clear he hz hbg HZ
                generalize bytesOf s ++ [0] = cs at HE HFS hml
                obtain ⟨fk, hfk⟩ : ∃ fk, fk = zs (T.take k) := ⟨_, rfl⟩
                rw [← hfk] at HR HFS hzl
                clear hfk
                have hR := HR.out
                obtain ⟨A3, c3, rfl, hc3, hC3⟩ := Kd.R_reads hR
                clear hR hc3 hC3
                have hw3 : IntKind.i64.wrap (100000 - (fk.length : Int)) = 100000 - (fk.length : Int) := (i64_w _).trans (by unfold wrap64; omega)
                have hw4 : wrap64 (100000 - (fk.length : Int)) = 100000 - (fk.length : Int) := by unfold wrap64; omega
                by_cases hlong : 100000 - (fk.length : Int) < (cs.length : Int)
                · have d1 : decide (100000 - (fk.length : Int) < (cs.length : Int)) = true := decide_eq_true hlong
                  clear hlong
                  go_wp2_with (go_at_call 17; (with_reducible refine (HE.out _).mono ?_); rintro e w2 ⟨A2, c2, rfl, hc2, hC2, hb⟩; have HCC := Aside0.mk hC2; have HR2 := Aside0.mk (Kd.R_below HR.out hb); have HB2 := Aside0.mk (below_step HB.out hb); clear hb hC2 hc2)
                  go_ret
                  exact ⟨rfl, below_step HB1.out HB2.out⟩
                · have d1 : decide (100000 - (fk.length : Int) < (cs.length : Int)) = false := decide_eq_false hlong
                  have HLEN := Aside0.mk (show fk.length + cs.length ≤ 100000 by omega)
                  clear hlong
                  go_wp2_with (first
                    | (go_at_call 17; (with_reducible refine (HE.out _).mono ?_); rintro e w2 ⟨A2, c2, rfl, hc2, hC2, hb⟩; have HCC := Aside0.mk hC2; have HR2 := Aside0.mk (Kd.R_below HR.out hb); have HB2 := Aside0.mk (below_step HB.out hb); clear hb hC2 hc2)
                    | ((with_reducible refine gate_builtin (b := .append) (xs := #[.tmp 71, .tmp 72]) rfl ?_); at_builtin; refine Kd.R_append_rows (Kd.int .u8) (w0 := wa) wa.heap.size rfl (.tmp 71) (.tmp 72) 25 5 (.int .u8 0) 1 rfl Tryd.underlying25 info5 rfl (by decide) (by omega) _ fk cs _ _ _ (fun _ => True) (fun _ => False) rfl rfl HR2.out HCC.out (fun _ _ h => h) (fun _ h => h.elim) (fun _ _ => trivial) HB2.out HB2.out.size (by have := HLEN.out; omega) ?_; intro v1 w1 ho hb hg hat; have HO := Aside0.mk ho; have HB3 := Aside0.mk hb; clear ho hb hg hat)
                    | (at_builtin; refine Kd.R_append_rows (Kd.int .u8) (w0 := wa) wa.heap.size rfl (.tmp 71) (.tmp 72) 25 5 (.int .u8 0) 1 rfl Tryd.underlying25 info5 rfl (by decide) (by omega) _ fk cs _ _ _ (fun _ => True) (fun _ => False) rfl rfl HR2.out HCC.out (fun _ _ h => h) (fun _ h => h.elim) (fun _ _ => trivial) HB2.out HB2.out.size (by have := HLEN.out; omega) ?_; intro v1 w1 ho hb hg hat; have HO := Aside0.mk ho; have HB3 := Aside0.mk hb; clear ho hb hg hat))
                  go_roundw
                  case rel => exact ⟨k + 1, by omega, by (first | rw [hw2] | rfl | simp), ⟨by rw [HFS.out]; exact HO.out⟩, ⟨by rw [HFS.out, List.length_append]; exact HLEN.out, fun x hx => Int.not_le.2 (HZ2.out x hx)⟩, HB3⟩
                  case measure => (first | rw [hw2] | skip); simp only [intOf]; omega
          · obtain rfl : k = T.length := by omega
            have hR := HR.out
            have hz := HZ.out
            rw [List.take_of_length_le (Nat.le_refl _)] at hR hz
            obtain ⟨A2, c2, rfl, hc2, hC2⟩ := Kd.R_reads hR
            have hIF := ints_fours L HU.out
            have hTF := texts_zs T hz.2
            have hzl := hz.1
            have hfl := fours_len L
            have hn := HN.out
            have hB0 := below_step HB1.out HB.out
            have HBL := Aside0.mk hB0
            have hta := Nat.le_trans (zs_len T) hz.1
            have HXL := Aside0.mk (show L.length ≤ 1000000000 by omega)
            have HYL := Aside0.mk (show T.length ≤ 1000000000 by omega)
            have HI := Aside0.mk (show ∀ W : World, Below wr.heap.size wr W → Calls Tryd.prog 24 #[.slice A1 (fours L).length c1] W (fun e w' => ∃ A c, e = .returned (.tuple #[.slice A L.length c, .int .i64 0]) ∧ L.length ≤ c ∧ Kd.C (Kd.int .u32) w' A L.length L ∧ Below W.heap.size W w') from fun W hW => by
              refine (intsG_calls A1 c1 (fours L) W (Kd.C_below (Kd.C_below HC1.out HB.out) hW) HK1.out (by omega)).mono ?_
              rintro e w' ⟨v, rfl, hR, hb⟩
              rw [hIF] at hR ⊢
              obtain ⟨A, c, rfl, hc, hC⟩ := Kd.R_reads hR
              exact ⟨A, c, rfl, hc, hC, hb⟩)
            have HTX := Aside0.mk (show ∀ W : World, Below wr.heap.size wr W → Calls Tryd.prog 26 #[.slice A2 (zs T).length c2] W (fun e w' => ∃ A c, e = .returned (.tuple #[.slice A T.length c, .int .i64 0]) ∧ T.length ≤ c ∧ Kd.C Kd.string w' A T.length T ∧ Below W.heap.size W w') from fun W hW => by
              refine (texts_calls A2 c2 (zs T) m W (Kd.C_below hC2 hW) hc2 (by omega) (zs_BL T) ?_).mono ?_
              · have hw2 := below_step hB0 hW
                rw [hw2.cell (p := ⟨0, 0, none⟩) (World.block_lt_of_cell? w _ HM.out)]
                exact HM.out
              · rintro e w' ⟨v, rfl, hR, hb⟩
                rw [hTF] at hR ⊢
                obtain ⟨A, c, rfl, hc, hC⟩ := Kd.R_reads hR
                exact ⟨A, c, rfl, hc, hC, hb⟩)
            have HSU := Aside0.mk (show ∀ W : World, Below w.heap.size w W → Calls Tryd.prog 37 #[.slice A L.length c] W (fun e w' => e = .returned (.string (unitsB L)) ∧ Below W.heap.size W w') from fun W hW =>
              prop_ShowUnit.calls 20001 A c L (unitsB L) W (HT.out.below hW) (Kd.C_below HC.out hW) HK.out (units_eq 20001 L HU.out (by omega) (by omega)))
            have HUF := Aside0.mk (show ∀ (z : List Int) (g : Int), unitF (unitsB L) = (z, g) → ∀ W : World, Calls Tryd.prog 35 #[.string (unitsB L)] W (fun e w' => ∃ A c, e = .returned (.tuple #[.slice A z.length c, .int .i64 g]) ∧ z.length ≤ c ∧ Kd.C (Kd.int .u32) w' A z.length z ∧ Below W.heap.size W w') from fun z g hzg W => by
              refine (prop_ParseUnit.calls (unitsB L) z g W ?_).mono ?_
              · unfold prop_ParseUnit.f
                rw [hzg, if_pos]
                have h1 := units_len L HU.out L.length (Nat.le_refl _)
                rw [List.take_of_length_le (Nat.le_refl _)] at h1
                have h2 : (unitsB L).size = (unitsL L).length := by show (unitsL L).toArray.size = _; rw [List.size_toArray]
                omega
              · rintro e w' ⟨v, rfl, hR, hb⟩
                obtain ⟨A, c, rfl, hc, hC⟩ := Kd.R_reads hR
                exact ⟨A, c, rfl, hc, hC, hb⟩)
            clear hR hz hC2 hc2 hIF hTF hzl hfl hB0 hta HZ HR hk hlt
            have HSM := Aside0.mk (show ∀ (W : World) (A B : Option Addr) (c d : Nat), Kd.C (Kd.int .u32) W A L.length L → L.length ≤ c → Kd.C (Kd.int .u32) W B L.length L → L.length ≤ d → Calls Tryd.prog 28 #[.slice A L.length c, .slice B L.length d] W (fun e w' => e = .returned (.bool true) ∧ Below W.heap.size W w') from fun W A B c d h1 h2 h3 h4 => sameu_at A c B d L HXL.out W h1 h2 h3 h4)
            have HSS := Aside0.mk (show ∀ (W : World) (A B : Option Addr) (c d : Nat), Kd.C Kd.string W A T.length T → T.length ≤ c → Kd.C Kd.string W B T.length T → T.length ≤ d → Calls Tryd.prog 29 #[.slice A T.length c, .slice B T.length d] W (fun e w' => e = .returned (.bool true) ∧ Below W.heap.size W w') from fun W A B c d h1 h2 h3 h4 => sames_at A c B d T HYL.out W h1 h2 h3 h4)
            generalize (fours L).length = n1 at HI
            generalize (zs T).length = n2 at HTX
            by_cases h0 : L.length = 0
            · have HUP := Aside0.mk (HUF.out [] 15 (by rw [List.eq_nil_of_length_eq_zero h0]; exact unit_zero))
              generalize unitsB L = U at HSU HUP
              generalize T.length = q at HTX HCT HKT HSS
              obtain ⟨n, hnn⟩ : ∃ n, n = L.length := ⟨_, rfl⟩
              rw [← hnn] at HI HC HK HSU HSM h0 ⊢
              subst h0
              clear HUF hn hnn HN HXL HYL HU HTL
              go_wp2_with (first
                | (go_at_call 24; (with_reducible refine (HI.out _ (Below.refl _ _)).mono ?_); rintro e w2 ⟨A4, c4, rfl, hc4, hC4, hb⟩; have HB2 := Aside0.mk hb; have HX := Aside0.mk hC4; have HXK := Aside0.mk hc4; clear hb hC4 hc4)
                | (go_at_call 26; (with_reducible refine (HTX.out _ HB2.out).mono ?_); rintro e w3 ⟨A5, c5, rfl, hc5, hC5, hb⟩; have HB3 := Aside0.mk (below_step HB2.out hb); have HX2 := Aside0.mk (Kd.C_below HX.out hb); have HY := Aside0.mk hC5; have HYK := Aside0.mk hc5; clear hb hC5 hc5)
                | (go_at_call 28; (with_reducible refine (HSM.out _ _ _ _ _ HX2.out HXK.out (Kd.C_below HC.out (below_step HBL.out HB3.out)) HK.out).mono ?_); rintro e w4 ⟨rfl, hb⟩; have HB4 := Aside0.mk (below_step HB3.out hb); have HY2 := Aside0.mk (Kd.C_below HY.out hb); clear hb; clear HX2)
                | (go_at_call 29; (with_reducible refine (HSS.out _ _ _ _ _ HY2.out HYK.out (Kd.C_below HCT.out (below_step HBL.out HB4.out)) HKT.out).mono ?_); rintro e w5 ⟨rfl, hb⟩; have HB5 := Aside0.mk (below_step HB4.out hb); clear hb)
                | (go_at_call 37; (with_reducible refine (HSU.out _ (below_step HBL.out HB5.out)).mono ?_); rintro e w6 ⟨rfl, hb⟩; have HB6 := Aside0.mk (below_step HB5.out hb); clear hb)
                | (go_at_call 35; (with_reducible refine (HUP.out _).mono ?_); rintro e w7 ⟨A7, c7, rfl, hc7, hC7, hb⟩; have HB7 := Aside0.mk (below_step HB6.out hb); have HZ7 := Aside0.mk hC7; have HZK := Aside0.mk hc7; clear hb hC7 hc7))
              go_ret
              exact ⟨rfl, below_step HBL.out HB7.out⟩
            · by_cases h4 : 4 < L.length
              · have HUP := Aside0.mk (HUF.out [] 3 (units_long L HU.out h4))
                have d1 : ((L.length : Int) == 0) = false := beq_false_of_ne (by omega)
                have d2 : decide ((4 : Int) < (L.length : Int)) = true := decide_eq_true (by omega)
                have d3 : decide (4 < L.length) = true := decide_eq_true h4
                generalize unitsB L = U at HSU HUP
                generalize T.length = q at HTX HCT HKT HSS
                obtain ⟨n, hnn⟩ : ∃ n, n = L.length := ⟨_, rfl⟩
                rw [← hnn] at HI HC HK HSU HSM d1 d2 d3 ⊢
                clear HUF hn hnn HN HXL HYL HU HTL h0 h4
                go_wp2_with (first
                | (go_at_call 24; (with_reducible refine (HI.out _ (Below.refl _ _)).mono ?_); rintro e w2 ⟨A4, c4, rfl, hc4, hC4, hb⟩; have HB2 := Aside0.mk hb; have HX := Aside0.mk hC4; have HXK := Aside0.mk hc4; clear hb hC4 hc4)
                | (go_at_call 26; (with_reducible refine (HTX.out _ HB2.out).mono ?_); rintro e w3 ⟨A5, c5, rfl, hc5, hC5, hb⟩; have HB3 := Aside0.mk (below_step HB2.out hb); have HX2 := Aside0.mk (Kd.C_below HX.out hb); have HY := Aside0.mk hC5; have HYK := Aside0.mk hc5; clear hb hC5 hc5)
                | (go_at_call 28; (with_reducible refine (HSM.out _ _ _ _ _ HX2.out HXK.out (Kd.C_below HC.out (below_step HBL.out HB3.out)) HK.out).mono ?_); rintro e w4 ⟨rfl, hb⟩; have HB4 := Aside0.mk (below_step HB3.out hb); have HY2 := Aside0.mk (Kd.C_below HY.out hb); clear hb; clear HX2)
                | (go_at_call 29; (with_reducible refine (HSS.out _ _ _ _ _ HY2.out HYK.out (Kd.C_below HCT.out (below_step HBL.out HB4.out)) HKT.out).mono ?_); rintro e w5 ⟨rfl, hb⟩; have HB5 := Aside0.mk (below_step HB4.out hb); clear hb)
                | (go_at_call 37; (with_reducible refine (HSU.out _ (below_step HBL.out HB5.out)).mono ?_); rintro e w6 ⟨rfl, hb⟩; have HB6 := Aside0.mk (below_step HB5.out hb); clear hb)
                | (go_at_call 35; (with_reducible refine (HUP.out _).mono ?_); rintro e w7 ⟨A7, c7, rfl, hc7, hC7, hb⟩; have HB7 := Aside0.mk (below_step HB6.out hb); have HZ7 := Aside0.mk hC7; have HZK := Aside0.mk hc7; clear hb hC7 hc7))
                go_ret
                exact ⟨rfl, below_step HBL.out HB7.out⟩
              · have HUP := Aside0.mk (HUF.out L 0 (units_back L HU.out (by omega) (by omega)))
                have d1 : ((L.length : Int) == 0) = false := beq_false_of_ne (by omega)
                have d2 : decide ((4 : Int) < (L.length : Int)) = false := decide_eq_false (by omega)
                have d3 : decide (4 < L.length) = false := decide_eq_false h4
                generalize unitsB L = U at HSU HUP
                generalize T.length = q at HTX HCT HKT HSS
                obtain ⟨n, hnn⟩ : ∃ n, n = L.length := ⟨_, rfl⟩
                rw [← hnn] at HI HC HK HSU HSM HUP d1 d2 d3 ⊢
                clear HUF hn hnn HN HXL HYL HU HTL h0 h4
                go_wp2_with (first
                | (go_at_call 24; (with_reducible refine (HI.out _ (Below.refl _ _)).mono ?_); rintro e w2 ⟨A4, c4, rfl, hc4, hC4, hb⟩; have HB2 := Aside0.mk hb; have HX := Aside0.mk hC4; have HXK := Aside0.mk hc4; clear hb hC4 hc4)
                | (go_at_call 26; (with_reducible refine (HTX.out _ HB2.out).mono ?_); rintro e w3 ⟨A5, c5, rfl, hc5, hC5, hb⟩; have HB3 := Aside0.mk (below_step HB2.out hb); have HX2 := Aside0.mk (Kd.C_below HX.out hb); have HY := Aside0.mk hC5; have HYK := Aside0.mk hc5; clear hb hC5 hc5)
                | (go_at_call 28; (with_reducible refine (HSM.out _ _ _ _ _ HX2.out HXK.out (Kd.C_below HC.out (below_step HBL.out HB3.out)) HK.out).mono ?_); rintro e w4 ⟨rfl, hb⟩; have HB4 := Aside0.mk (below_step HB3.out hb); have HY2 := Aside0.mk (Kd.C_below HY.out hb); clear hb; clear HX2)
                | (go_at_call 29; (with_reducible refine (HSS.out _ _ _ _ _ HY2.out HYK.out (Kd.C_below HCT.out (below_step HBL.out HB4.out)) HKT.out).mono ?_); rintro e w5 ⟨rfl, hb⟩; have HB5 := Aside0.mk (below_step HB4.out hb); clear hb)
                | (go_at_call 37; (with_reducible refine (HSU.out _ (below_step HBL.out HB5.out)).mono ?_); rintro e w6 ⟨rfl, hb⟩; have HB6 := Aside0.mk (below_step HB5.out hb); clear hb)
                | (go_at_call 35; (with_reducible refine (HUP.out _).mono ?_); rintro e w7 ⟨A7, c7, rfl, hc7, hC7, hb⟩; have HB7 := Aside0.mk (below_step HB6.out hb); have HZ7 := Aside0.mk hC7; have HZK := Aside0.mk hc7; clear hb hC7 hc7)
                | (go_at_call 28; (with_reducible refine (HSM.out _ _ _ _ _ HZ7.out HZK.out (Kd.C_below HC.out (below_step HBL.out HB7.out)) HK.out).mono ?_); rintro e w8 ⟨rfl, hb⟩; have HB8 := Aside0.mk (below_step HB7.out hb); clear hb))
                go_ret
                exact ⟨rfl, below_step HBL.out HB8.out⟩
theorem propBack_rowU {w : World} (ht : QB.Tabs w) (hm : ∃ m, w.cell? ⟨0, 0, none⟩ = some (.int .i64 m)) (A : Option Addr) (c : Nat) (L : List Int) (hC : Kd.C (Kd.int .u32) w A L.length L) (hc : L.length ≤ c) (hg : L.length * 4 ≤ 140737488351232 ∧ ∀ a ∈ L, (Lit.int .u32 a).wf = true) (B : Option Addr) (d : Nat) (T : List ByteArray) (hCT : Kd.C Kd.string w B T.length T) (hcT : T.length ≤ d) (hgT : T.length * 16 ≤ 140737488351232 ∧ ∀ a ∈ T, a.size ≤ 140737488351232) (u0 : L.length ≤ 1048576) :
    Calls Tryd.prog 9 #[.slice A L.length c, .slice B T.length d] w fun e w' => e = .returned (.bool true) ∧ Below w.heap.size w w' := propBack_row ht hm A c L hC hc hg B d T hCT hcT hgT
end Go.Proofs.YtlhnaplmphdhlaaDoor.Q
end
section
namespace Go.Proofs.YtlhnaplmphdhlaaDoor.Q
open Go.RowKit Go.Proofs.YtlhnaplmphdhlaaDoorW.PrintWords Go.Proofs.YtlhnaplmphdhlaaDoorW.PrintLast Go.Proofs.YtlhnaplmphdhlaaDoorW.PrintMore
def Opens {α : Type} (P : Program) (t : TypeId) (d : Kd α) (G : α → Prop) : Prop :=
  ∀ (H : Type) (enc : TypeId × Value → H) (W : World) (fuel : Nat) (cs : List Value) (x : DataW H × List MemPlace), DataW.trod enc P W 0 (fun _ => true) true fuel t cs = some x → (∀ n ∈ x.1.weights P t, n ≤ reachBytes) → ∃ a, d.K W a cs ∧ G a
section
variable {P : Program} {t e : TypeId}
theorem opens_int {k : IntKind} (ht : P.underlying t = some (.int k)) : Opens P t (Kd.int k) (fun n => (Lit.int k n).wf = true) := by
  intro H enc W fuel cs x h _
  obtain ⟨n, rfl, _, hw⟩ := DataW.trod_int ht h
  exact ⟨n, rfl, hw⟩
theorem opens_string (ht : P.underlying t = some .string) : Opens P t Kd.string (fun s => s.size ≤ 140737488351232) := by
  intro H enc W fuel cs x h hw
  obtain ⟨s, rfl, rfl, _⟩ := DataW.trod_string ht h
  have := hw s.data.toList.length (by simp [DataW.weights])
  exact ⟨s, rfl, by simpa [reachBytes] using this⟩
theorem weights_all {H : Type} {P : Program} {e : TypeId} : ∀ {l : List (DataW H)} {d : DataW H}, d ∈ l → ∀ n ∈ d.weights P e, n ∈ DataW.weightsAll P e l
  | d0 :: l, d, hd, n, hn => by
    simp only [DataW.weightsAll, List.mem_append]
    rcases List.mem_cons.1 hd with rfl | hd
    · exact .inl hn
    · exact .inr (weights_all hd n hn)
theorem cells_get {W : World} {base : Nat} {a : Addr} {n : Nat} {c : List Value} (h : W.cells? base a n = some c) : c.length = n ∧ ∀ i u, c[i]? = some u → W.cell? (a.add i) = some u := by
  unfold World.cells? at h
  split at h
  · have hl := mapM_some_length h
    refine ⟨by simpa using hl, fun i u hu => ?_⟩
    have hi : i < n := by
      have := (List.getElem?_eq_some_iff.1 hu).1
      simp at hl
      omega
    have := mapM_some_get h i i (by simp [hi])
    rw [this, hu]
  · cases h
theorem opens_slice {α : Type} {d : Kd α} {G : α → Prop} (ht : P.underlying t = some (.slice e)) (hc : P.cellsOf e = d.sz) (b : Nat) (hb : P.bytesOf e = b) (he : Opens P e d G) :
    Opens P t (Kd.slice e d) (fun xs => xs.length * b ≤ 140737488351232 ∧ ∀ a ∈ xs, G a) := by
  intro H enc W fuel cs x h hw
  rcases DataW.trod_slice ht h with ⟨rfl, _⟩ | ⟨a, len, cap, elems, rest, n, _, rfl, rfl, _, hl, hm, hlen, hel, _⟩
  · exact ⟨[], ⟨none, 0, rfl, Nat.le_refl _, Kd.C_nil d W⟩, by simp, fun a h => by cases h⟩
  · have hwt : (elems.length + rest.length) * b ≤ 140737488351232 := by
      have := hw ((elems.length + rest.length) * P.bytesOf e) (by simp [DataW.weights, ht])
      rw [hb] at this
      simpa [reachBytes] using this
    have hall : ∀ i : Fin len, ∃ p : α, ∃ c, c.length = d.sz ∧ d.K W p c ∧ G p ∧ ∀ j u, c[j]? = some u → W.cell? (a.add (i.1 * d.sz + j)) = some u := by
      intro i
      have hi : i.1 < elems.length := by have := i.2; omega
      have h1 := hel i.1 i.2
      rw [List.getElem?_eq_getElem hi] at h1
      obtain ⟨c, hcs, htr⟩ := Option.bind_eq_some_iff.1 h1
      obtain ⟨hcl, hcg⟩ := cells_get hcs
      obtain ⟨p, hK, hG⟩ := he H enc W n c _ htr (fun m hm => hw m (by
        simp only [DataW.weights, ht, List.mem_cons, List.mem_append]
        exact .inr (.inl (weights_all (List.mem_map.2 ⟨_, List.getElem_mem hi, rfl⟩) m hm))))
      refine ⟨p, c, by rw [hcl, hc], hK, hG, fun j u hu => ?_⟩
      have := hcg j u hu
      rw [add_add, hc] at this
      exact this
    refine ⟨List.ofFn fun i => Classical.choose (hall i), ⟨some a, cap, by simp, by simpa using hl, by simp, by simp only [maxLen] at hm; simp; omega, fun _ => ⟨a, rfl, fun j p hj => ?_⟩⟩, ?_, ?_⟩
    · obtain ⟨hjl, hjp⟩ := List.getElem?_eq_some_iff.1 hj
      simp only [List.length_ofFn] at hjl
      have h2 := Classical.choose_spec (hall ⟨j, hjl⟩)
      rw [List.getElem_ofFn] at hjp
      rw [hjp] at h2
      obtain ⟨c, h3, h4, _, h6⟩ := h2
      exact ⟨c, h3, h4, h6⟩
    · rw [List.length_ofFn]
      refine Nat.le_trans (Nat.mul_le_mul_right b ?_) hwt
      omega
    · intro p hp
      obtain ⟨i, rfl⟩ := (List.mem_ofFn).1 hp
      obtain ⟨_, _, _, h5, _⟩ := Classical.choose_spec (hall i)
      exact h5
/-- The fields of a struct from one on, one behind the other. -/
def OpensFields {α : Type} (P : Program) (fs : List Field) (off : Nat) (d : Kd α) (G : α → Prop) : Prop :=
  ∀ (H : Type) (enc : TypeId × Value → H) (W : World) (fuel : Nat) (cs : List Value) (xs : List (DataW H × List MemPlace)), off + d.sz = cs.length → xs.length = fs.length →
    (∀ (i : Nat) (f : Field), fs[i]? = some f → DataW.trod enc P W 0 (fun _ => true) true fuel f.type ((cs.drop f.offset).take (P.cellsOf f.type)) = xs[i]?) →
    (∀ n ∈ DataW.weightsEach P (fs.map (·.type)) (xs.map (·.1)), n ≤ reachBytes) → ∃ a, d.K W a (cs.drop off) ∧ G a
theorem weights_each {H : Type} {P : Program} {ts : List TypeId} {ds : List (DataW H)} (h : (DataW.weightsEach P ts ds).all (· ≤ reachBytes) = true) {j : Nat} {t : TypeId} {d : DataW H} (ht : ts[j]? = some t) (hd : ds[j]? = some d) : ∀ n ∈ d.weights P t, n ≤ reachBytes := fun n hn => by
  simpa using List.all_eq_true.1 h _ (DataW.weights_mem_each ht hd n hn)
end
end Go.Proofs.YtlhnaplmphdhlaaDoor.Q
end
