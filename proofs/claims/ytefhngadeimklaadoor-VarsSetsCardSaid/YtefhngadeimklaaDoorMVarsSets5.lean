/- Contracts of Go functions and plain facts, of several texts, one behind the other; no condition. -/
import Derived.Test.YtefhngadeimklaaDoorMVarsSets2
import Derived.Test.YtefhngadeimklaaDoorMVarsSets4
import Derived.Test.YtefhngadeimklaaDoorMVarsSets3
import Derived.ChangeArms
import Derived.OpenShut
import Derived.SizedLaws
section
namespace Go.Proofs.YtefhngadeimklaaDoor.Q
open Go.RowKit Go.Proofs.YtefhngadeimklaaDoorW.PrintWords Go.Proofs.YtefhngadeimklaaDoorW.PrintLast Go.Proofs.YtefhngadeimklaaDoorW.PrintMore
set_option linter.unusedVariables false
set_option linter.unusedSimpArgs false

attribute [local go_sem] max2_int min2_int max_two min_two max_three min_three max_four min_four
attribute [local go_sem high] eqA40
/-! ### tinderref19_Same: function 15 -/
def tinderref19_Same.l0 : Nat → List (S40) → List (S40) → Int → Option (Bool)
  | 0, _, _, _ => none
  | k + 1, x0, x1, x5 => if x5 < (x0.length : Int) then (if 0 ≤ x5 then (if x5 < (x1.length : Int) then (if (!((((rd_T40 x0 x5).f0).toList) == (((rd_T40 x1 x5).f0).toList)) || (!((((rd_T40 x0 x5).f1).toList) == (((rd_T40 x1 x5).f1).toList)))) = true then (some false) else (tinderref19_Same.l0 k x0 x1 (wrap64 (x5 + 1)))) else (none)) else (none)) else (some true)
def tinderref19_Same.f (k : Nat) (l0 : List (S40)) (l1 : List (S40)) : Option (Bool) := if (l0.length : Int) = (l1.length : Int) then (tinderref19_Same.l0 k l0 l1 0) else (some false)
set_option maxHeartbeats 8000000 in
set_option maxRecDepth 100000 in
theorem tinderref19_Same.calls (k : Nat) (A0 : Option Addr) (c0 : Nat) (l0 : List (S40)) (A1 : Option Addr) (c1 : Nat) (l1 : List (S40)) (r : Bool) (w : World) (hr0 : Kd.C k40 w A0 l0.length l0) (hc0 : l0.length ≤ c0) (hr1 : Kd.C k40 w A1 l1.length l1) (hc1 : l1.length ≤ c1) (h : tinderref19_Same.f k l0 l1 = some r) :
    Calls Tryd.prog 15 #[.slice A0 l0.length c0, .slice A1 l1.length c1] w fun e w' => e = .returned (.bool r) ∧ Drawn0 w w' := by
  have hu40 := Tryd.underlying40
  have HR0 := Aside0.mk hr0
  have HC0 := Aside0.mk hc0
  clear hr0 hc0
  have HR1 := Aside0.mk hr1
  have HC1 := Aside0.mk hc1
  clear hr1 hc1
  have H : (if (l0.length : Int) = (l1.length : Int) then (tinderref19_Same.l0 k l0 l1 0) else (some false)) = some r := h
  clear h
  by_cases c3 : (l0.length : Int) = (l1.length : Int)
  · rw [if_pos c3] at H
    have c3b0 : ((l0.length : Int) == (l1.length : Int)) = true := beq_iff_eq.mpr c3
    have c3b1 : ((l0.length : Int) != (l1.length : Int)) = false := bne_eq_false_iff_eq.mpr c3
    have c3b2 : (l0.length == l1.length) = true := by first | simpa using c3 | (simp at c3 ⊢; omega)
    clear c3
    have H' := Aside0.mk H
    clear H
    go_enter Tryd.func15, Tryd.ntmps15
    go_wp2
    repeat (go_quiet (fail); try go_wp2)
    go_loopg [5] k (fun kq v5 w' => ∃ (x5_1 : Int), v5 = .int .i64 x5_1 ∧ Aside0 (tinderref19_Same.l0 kq l0 l1 x5_1 = some r) ∧ Aside0 (kq ≤ k) ∧ Drawn0 w w')
    case atStart => exact ⟨(0), (by first | rfl | (simp; done) | (simp [*]; done)), H', ⟨Nat.le_refl _⟩, by repeat (first | exact Drawn0.refl _ | apply Drawn0.step)⟩
    case round =>
      clear H'
      try clear c1
      try clear p2
      try clear c3
      try clear c3b0
      try clear c3b1
      try clear c3b2
      obtain ⟨x5_1, rfl, HA, HK1, ⟨m1, rfl⟩⟩ := hrel
      cases gk with
      | zero => exact absurd HA.out (by simp [tinderref19_Same.l0])
      | succ k1 =>
        have H := HA.out
        clear HA
        simp only [tinderref19_Same.l0] at H
        by_cases c4 : x5_1 < (l0.length : Int)
        · rw [if_pos c4] at H
          have c4b0 : decide (x5_1 < (l0.length : Int)) = true := decide_eq_true c4
          clear c4
          by_cases c5 : 0 ≤ x5_1
          · rw [if_pos c5] at H
            have c5b0 : decide (0 ≤ x5_1) = true := decide_eq_true c5
            clear c5
            by_cases c6 : x5_1 < (l1.length : Int)
            · rw [if_pos c6] at H
              have c6b0 : decide (x5_1 < (l1.length : Int)) = true := decide_eq_true c6
              clear c6
              by_cases c7 : (!((((rd_T40 l0 x5_1).f0).toList) == (((rd_T40 l1 x5_1).f0).toList)) || (!((((rd_T40 l0 x5_1).f1).toList) == (((rd_T40 l1 x5_1).f1).toList)))) = true
              · rw [if_pos c7] at H
                have c7b0 : (!((((rd_T40 l0 x5_1).f0).toList) == (((rd_T40 l1 x5_1).f0).toList)) || (!((((rd_T40 l0 x5_1).f1).toList) == (((rd_T40 l1 x5_1).f1).toList)))) = true := c7
                clear c7
                obtain rfl := Option.some.inj H
                have p16001 : 0 ≤ (x5_1 : Int) := of_decide_eq_true (by first | (with_reducible assumption) | assumption)
                have q16001 : x5_1 < (l0.length : Int) := of_decide_eq_true (by first | (with_reducible assumption) | assumption)
                obtain ⟨ad16001, e16001, hx16001_0, hx16001_1⟩ := at_T40 HR0.out x5_1 p16001 q16001
                cases e16001
                replace p16001 := eq_true p16001
                replace q16001 := eq_true q16001
                have p16002 : 0 ≤ (x5_1 : Int) := of_decide_eq_true (by first | (with_reducible assumption) | assumption)
                have q16002 : x5_1 < (l1.length : Int) := of_decide_eq_true (by first | (with_reducible assumption) | assumption)
                obtain ⟨ad16002, e16002, hx16002_0, hx16002_1⟩ := at_T40 HR1.out x5_1 p16002 q16002
                cases e16002
                replace p16002 := eq_true p16002
                replace q16002 := eq_true q16002
                go_wp2
                repeat (go_quiet (fail); try go_wp2)
                go_ret
                exact ⟨by first | rfl | (simp; done) | (simp [*]; done), by repeat (first | exact Drawn0.refl _ | apply Drawn0.step)⟩
              · rw [if_neg c7] at H
                have c7b0 : (!((((rd_T40 l0 x5_1).f0).toList) == (((rd_T40 l1 x5_1).f0).toList)) || (!((((rd_T40 l0 x5_1).f1).toList) == (((rd_T40 l1 x5_1).f1).toList)))) = false := by simpa using c7
                clear c7
                have H' := Aside0.mk H
                clear H
                have p16001 : 0 ≤ (x5_1 : Int) := of_decide_eq_true (by first | (with_reducible assumption) | assumption)
                have q16001 : x5_1 < (l0.length : Int) := of_decide_eq_true (by first | (with_reducible assumption) | assumption)
                obtain ⟨ad16001, e16001, hx16001_0, hx16001_1⟩ := at_T40 HR0.out x5_1 p16001 q16001
                cases e16001
                replace p16001 := eq_true p16001
                replace q16001 := eq_true q16001
                have p16002 : 0 ≤ (x5_1 : Int) := of_decide_eq_true (by first | (with_reducible assumption) | assumption)
                have q16002 : x5_1 < (l1.length : Int) := of_decide_eq_true (by first | (with_reducible assumption) | assumption)
                obtain ⟨ad16002, e16002, hx16002_0, hx16002_1⟩ := at_T40 HR1.out x5_1 p16002 q16002
                cases e16002
                replace p16002 := eq_true p16002
                replace q16002 := eq_true q16002
                go_wp2
                repeat (go_quiet (fail); try go_wp2)
                go_roundg k1
                case measure => have := HK1.out; omega
                case rel => exact ⟨(wrap64 (x5_1 + 1)), (by first | rfl | (simp; done) | (simp [*]; done)), H', ⟨by have := HK1.out; omega⟩, by repeat (first | exact Drawn0.refl _ | apply Drawn0.step)⟩
            · rw [if_neg c6] at H
              exact absurd H (by simp)
          · rw [if_neg c5] at H
            exact absurd H (by simp)
        · rw [if_neg c4] at H
          have c4b0 : decide (x5_1 < (l0.length : Int)) = false := decide_eq_false c4
          clear c4
          obtain rfl := Option.some.inj H
          go_wp2
          repeat (go_quiet (fail); try go_wp2)
          go_ret
          exact ⟨by first | rfl | (simp; done) | (simp [*]; done), by repeat (first | exact Drawn0.refl _ | apply Drawn0.step)⟩
  · rw [if_neg c3] at H
    have c3b0 : ((l0.length : Int) == (l1.length : Int)) = false := beq_eq_false_iff_ne.mpr c3
    have c3b1 : ((l0.length : Int) != (l1.length : Int)) = true := bne_iff_ne.mpr c3
    have c3b2 : (l0.length == l1.length) = false := by first | simpa using c3 | (simp at c3 ⊢; omega)
    obtain rfl := Option.some.inj H
    go_enter Tryd.func15, Tryd.ntmps15
    go_wp2
    repeat (go_quiet (fail); try go_wp2)
    go_ret
    exact ⟨by first | rfl | (simp; done) | (simp [*]; done), by repeat (first | exact Drawn0.refl _ | apply Drawn0.step)⟩

end Go.Proofs.YtefhngadeimklaaDoor.Q
end
section
namespace Go.Proofs.YtefhngadeimklaaDoor.Q
open Go.RowKit Go.Proofs.YtefhngadeimklaaDoorW.PrintWords Go.Proofs.YtefhngadeimklaaDoorW.PrintLast Go.Proofs.YtefhngadeimklaaDoorW.PrintMore
set_option linter.unusedVariables false
set_option linter.unusedSimpArgs false

attribute [local go_sem] max2_int min2_int max_two min_two max_three min_three max_four min_four
/-! ### tinderref19_Set: function 14 -/
def tinderref19_Set.l0 : Nat → List (S40) → ByteArray → ByteArray → List (S40) → List ByteArray → Int → Option ((List (S40)) × Int)
  | 0, _, _, _, _, _, _ => none
  | k + 1, x0, x1, x8, x10, x11, x12 => if x12 < (x11.length : Int) then (if 0 ≤ x12 then ((tinderref19_value.f k x0 (rdOf ByteArray.empty x11 x12)).bind fun t15008 => (if (rdOf ByteArray.empty x11 x12).toList = x1.toList then ((tinderref19_Default.f k (rdOf ByteArray.empty x11 x12)).bind fun bt15011 => (if x8.toList = bt15011.1.toList then (tinderref19_Set.l0 k x0 x1 x8 x10 x11 (wrap64 (x12 + 1))) else (if x10.length < 4398046511104 then (tinderref19_Set.l0 k x0 x1 x8 (x10 ++ [(⟨rdOf ByteArray.empty x11 x12, x8⟩ : S40)]) x11 (wrap64 (x12 + 1))) else (none)))) else ((tinderref19_Default.f k (rdOf ByteArray.empty x11 x12)).bind fun bt15018 => (if t15008.toList = bt15018.1.toList then (tinderref19_Set.l0 k x0 x1 x8 x10 x11 (wrap64 (x12 + 1))) else (if x10.length < 4398046511104 then (tinderref19_Set.l0 k x0 x1 x8 (x10 ++ [(⟨rdOf ByteArray.empty x11 x12, t15008⟩ : S40)]) x11 (wrap64 (x12 + 1))) else (none)))))) else (none)) else (some (x10, 0))
def tinderref19_Set.f (k : Nat) (l0 : List (S40)) (a1 : ByteArray) (a2 : ByteArray) : Option ((List (S40)) × Int) := (tinderref19_Right.f k l0).bind fun t15001 => (if t15001 = true then ((tinderref19_Form.f k a1 a2).bind fun bt15002 => (if bt15002.2 = 0 then ((tinderref19_Names.f k).bind fun t15004 => (tinderref19_Set.l0 k l0 a1 bt15002.1 ([] : List (S40)) t15004 0)) else (some (([] : List (S40)), bt15002.2)))) else (some (([] : List (S40)), 1)))
set_option maxHeartbeats 8000000 in
set_option maxRecDepth 100000 in
theorem tinderref19_Set.calls (k : Nat) (A0 : Option Addr) (c0 : Nat) (l0 : List (S40)) (a1 : ByteArray) (a2 : ByteArray) (r1 : List (S40)) (r2 : Int) (w : World) (hr0 : Kd.C k40 w A0 l0.length l0) (hc0 : l0.length ≤ c0) (h : tinderref19_Set.f k l0 a1 a2 = some (r1, r2)) :
    Calls Tryd.prog 14 #[.slice A0 l0.length c0, .string a1, .string a2] w fun e w' => ∃ v0_ : Value, e = .returned (.tuple #[v0_, .int .i64 r2]) ∧ Kd.R k40 40 w' w.heap.size (fun _ => True) v0_ r1 ∧ Below w.heap.size w w' := by
  have hu40 := Tryd.underlying40
  have HR0 := Aside0.mk hr0
  have HC0 := Aside0.mk hc0
  clear hr0 hc0
  have HB := Aside0.mk (Below.refl w.heap.size w)
  have H : ((tinderref19_Right.f k l0).bind fun t15001 => (if t15001 = true then ((tinderref19_Form.f k a1 a2).bind fun bt15002 => (if bt15002.2 = 0 then ((tinderref19_Names.f k).bind fun t15004 => (tinderref19_Set.l0 k l0 a1 bt15002.1 ([] : List (S40)) t15004 0)) else (some (([] : List (S40)), bt15002.2)))) else (some (([] : List (S40)), 1)))) = some (r1, r2) := h
  clear h
  replace H := Option.bind_eq_some_iff.mp H
  obtain ⟨t15001, A40, H⟩ := H
  replace H : (if t15001 = true then ((tinderref19_Form.f k a1 a2).bind fun bt15002 => (if bt15002.2 = 0 then ((tinderref19_Names.f k).bind fun t15004 => (tinderref19_Set.l0 k l0 a1 bt15002.1 ([] : List (S40)) t15004 0)) else (some (([] : List (S40)), bt15002.2)))) else (some (([] : List (S40)), 1))) = some (r1, r2) := H
  have A4 := Aside0.mk A40
  clear A40
  by_cases c5 : t15001 = true
  · subst c5
    have H1 : ((tinderref19_Form.f k a1 a2).bind fun bt15002 => (if bt15002.2 = 0 then ((tinderref19_Names.f k).bind fun t15004 => (tinderref19_Set.l0 k l0 a1 bt15002.1 ([] : List (S40)) t15004 0)) else (some (([] : List (S40)), bt15002.2)))) = some (r1, r2) := by rw [if_pos rfl] at H; exact H
    clear H
    have H := H1
    clear H1
    replace H := Option.bind_eq_some_iff.mp H
    obtain ⟨⟨t15002, t15003⟩, A60, H⟩ := H
    replace H : (if t15003 = 0 then ((tinderref19_Names.f k).bind fun t15004 => (tinderref19_Set.l0 k l0 a1 t15002 ([] : List (S40)) t15004 0)) else (some (([] : List (S40)), t15003))) = some (r1, r2) := H
    have A6 := Aside0.mk A60
    clear A60
    by_cases c7 : t15003 = 0
    · rw [if_pos c7] at H
      have c7b0 : (t15003 == 0) = true := beq_iff_eq.mpr c7
      have c7b1 : (t15003 != 0) = false := bne_eq_false_iff_eq.mpr c7
      clear c7
      replace H := Option.bind_eq_some_iff.mp H
      obtain ⟨t15004, A80, H⟩ := H
      replace H : (tinderref19_Set.l0 k l0 a1 t15002 ([] : List (S40)) t15004 0) = some (r1, r2) := H
      have A8 := Aside0.mk A80
      clear A80
      have H' := Aside0.mk H
      clear H
      go_enter Tryd.func14, Tryd.ntmps14
      go_wp2_with (first | ((with_reducible refine gate_callee (f := 25) rfl ?_); refine goesL_ (some 17) rfl rfl Tryd.func25 (by kernel_rfl) rfl #[.slice A0 l0.length c0] rfl (by (try simp only [List.map_toArray, List.map_cons, List.map_nil]); first | done | rfl | (simp only [List.length_drop, List.length_take]; rfl)) ?_; (with_reducible refine (tinderref19_Right.calls k _ _ l0 true _ ?side1 ?side2 A4.out).mono ?_); (case side1 => repeat (first | exact HR0.out | (with_reducible refine Kd.C_alloc ?_ _) | (with_reducible refine Kd.C_drewN ?_ _) | (with_reducible refine Kd.C_drew ?_))); (case side2 => exact HC0.out); rintro e w9 ⟨rfl, hb⟩; refine ⟨_, rfl, ?_⟩; have n0_ := Aside0.mk (below_step (by repeat (first | (with_reducible first | exact HB.out | apply below_alloc | apply pw_below_drewN | apply below_drew1) | exact HB.out)) hb); clear HB; have HB := n0_; clear n0_; (try clear hb); (try clear hb2); (try clear hk); (try clear hi)) | ((with_reducible refine gate_callee (f := 18) rfl ?_); refine goesL_ (some 22) rfl rfl Tryd.func18 (by kernel_rfl) rfl #[.string a1, .string a2] rfl (by (try simp only [List.map_toArray, List.map_cons, List.map_nil]); first | done | rfl | (simp only [List.length_drop, List.length_take]; rfl)) ?_; (with_reducible refine (tinderref19_Form.calls k a1 a2 t15002 t15003 _ A6.out).mono ?_); rintro e w10 ⟨rfl, hb⟩; refine ⟨_, rfl, ?_⟩; have n0_ := Aside0.mk (below_step (by repeat (first | (with_reducible first | exact HB.out | apply below_alloc | apply pw_below_drewN | apply below_drew1) | exact HB.out)) hb); clear HB; have HB := n0_; clear n0_; (try clear hb); (try clear hb2); (try clear hk); (try clear hi)) | ((with_reducible refine gate_callee (f := 22) rfl ?_); refine goesL_ (some 28) rfl rfl Tryd.func22 (by kernel_rfl) rfl #[] rfl (by (try simp only [List.map_toArray, List.map_cons, List.map_nil]); first | done | rfl | (simp only [List.length_drop, List.length_take]; rfl)) ?_; (with_reducible refine (tinderref19_Names.calls k  t15004 _ A8.out).mono ?_); rintro e w11 ⟨v15005, rfl, ho0, hb⟩; refine ⟨_, rfl, ?_⟩; have n0_ := Aside0.mk (Kd.R_lower ho0 (below_size (by repeat (first | (with_reducible first | exact HB.out | apply below_alloc | apply pw_below_drewN | apply below_drew1) | exact HB.out)))); have n1_ := Aside0.mk (below_step (by repeat (first | (with_reducible first | exact HB.out | apply below_alloc | apply pw_below_drewN | apply below_drew1) | exact HB.out)) hb); clear HB; have HO15006 := n0_; have HB := n1_; clear n0_ n1_; (try clear hb); (try clear hb2); (try clear hk); (try clear hi); (try clear ho0)))
      go_loopg [10, 12] k (fun kq v10 v12 w' => ∃ (x10_1 : List (S40)) (x12_1 : Int), v12 = .int .i64 x12_1 ∧ Aside0 (tinderref19_Set.l0 kq l0 a1 t15002 x10_1 t15004 x12_1 = some (r1, r2)) ∧ Aside0 (kq ≤ k) ∧ Aside0 (Kd.R k40 40 w' w.heap.size (fun _ => True) v10 x10_1) ∧ Aside0 (Kd.R Kd.string 9 w' w.heap.size (fun _ => True) v15005 t15004) ∧ Aside0 (Below w.heap.size w w'))
      case atStart => exact ⟨(([] : List (S40))), (0), (by first | rfl | (simp; done) | (simp [*]; done)), H', ⟨Nat.le_refl _⟩, ⟨by first | exact Kd.R_nil _ _ _ _ _ | exact Kd.N_nil _ _ _ _ _ | exact Kd.V_nil _ _ _ _ _ | exact Kd.Q_nil _ _ _ _ _ | exact Kd.S_nil _ _ _ _ _⟩, ⟨by (with_reducible repeat (first | apply Kd.R_alloc | apply Kd.R_drewN | apply Kd.R_drew)); exact HO15006.out⟩, ⟨by repeat (first | (with_reducible first | exact HB.out | apply below_alloc | apply pw_below_drewN | apply below_drew1) | exact HB.out)⟩⟩
      case round =>
        clear H'
        try clear c1
        try clear c2
        try clear p2
        try clear c5
        try clear c7
        try clear c7b0
        try clear c7b1
        obtain ⟨x10_1, x12_1, rfl, HA, HK1, HO_10, HO_11, HB⟩ := hrel
        cases gk with
        | zero => exact absurd HA.out (by simp [tinderref19_Set.l0])
        | succ k1 =>
          have H := HA.out
          clear HA
          simp only [tinderref19_Set.l0] at H
          by_cases c12 : x12_1 < (t15004.length : Int)
          · rw [if_pos c12] at H
            have c12b0 : decide (x12_1 < (t15004.length : Int)) = true := decide_eq_true c12
            clear c12
            by_cases c13 : 0 ≤ x12_1
            · rw [if_pos c13] at H
              have c13b0 : decide (0 ≤ x12_1) = true := decide_eq_true c13
              clear c13
              replace H := Option.bind_eq_some_iff.mp H
              obtain ⟨t15008, A140, H⟩ := H
              replace H : (if (rdOf ByteArray.empty t15004 x12_1).toList = a1.toList then ((tinderref19_Default.f k1 (rdOf ByteArray.empty t15004 x12_1)).bind fun bt15011 => (if t15002.toList = bt15011.1.toList then (tinderref19_Set.l0 k1 l0 a1 t15002 x10_1 t15004 (wrap64 (x12_1 + 1))) else (if x10_1.length < 4398046511104 then (tinderref19_Set.l0 k1 l0 a1 t15002 (x10_1 ++ [(⟨rdOf ByteArray.empty t15004 x12_1, t15002⟩ : S40)]) t15004 (wrap64 (x12_1 + 1))) else (none)))) else ((tinderref19_Default.f k1 (rdOf ByteArray.empty t15004 x12_1)).bind fun bt15018 => (if t15008.toList = bt15018.1.toList then (tinderref19_Set.l0 k1 l0 a1 t15002 x10_1 t15004 (wrap64 (x12_1 + 1))) else (if x10_1.length < 4398046511104 then (tinderref19_Set.l0 k1 l0 a1 t15002 (x10_1 ++ [(⟨rdOf ByteArray.empty t15004 x12_1, t15008⟩ : S40)]) t15004 (wrap64 (x12_1 + 1))) else (none))))) = some (r1, r2) := H
              have A14 := Aside0.mk A140
              clear A140
              by_cases c15 : (rdOf ByteArray.empty t15004 x12_1).toList = a1.toList
              · rw [if_pos c15] at H
                have c15b0 : ((rdOf ByteArray.empty t15004 x12_1).toList == a1.toList) = true := beq_iff_eq.mpr c15
                have c15b1 : ((rdOf ByteArray.empty t15004 x12_1).toList != a1.toList) = false := bne_eq_false_iff_eq.mpr c15
                clear c15
                replace H := Option.bind_eq_some_iff.mp H
                obtain ⟨⟨t15011, t15012⟩, A160, H⟩ := H
                replace H : (if t15002.toList = t15011.toList then (tinderref19_Set.l0 k1 l0 a1 t15002 x10_1 t15004 (wrap64 (x12_1 + 1))) else (if x10_1.length < 4398046511104 then (tinderref19_Set.l0 k1 l0 a1 t15002 (x10_1 ++ [(⟨rdOf ByteArray.empty t15004 x12_1, t15002⟩ : S40)]) t15004 (wrap64 (x12_1 + 1))) else (none))) = some (r1, r2) := H
                have A16 := Aside0.mk A160
                clear A160
                by_cases c17 : t15002.toList = t15011.toList
                · rw [if_pos c17] at H
                  have c17b0 : (t15002.toList == t15011.toList) = true := beq_iff_eq.mpr c17
                  have c17b1 : (t15002.toList != t15011.toList) = false := bne_eq_false_iff_eq.mpr c17
                  clear c17
                  have H' := Aside0.mk H
                  clear H
                  obtain ⟨Ao18, co18, eo18⟩ := Kd.R_slice HO_11.out
                  subst eo18
                  have p15007 : 0 ≤ (x12_1 : Int) := of_decide_eq_true (by first | (with_reducible assumption) | assumption)
                  have q15007 : x12_1 < (t15004.length : Int) := of_decide_eq_true (by first | (with_reducible assumption) | assumption)
                  obtain ⟨ad15007, e15007, hx15007_0⟩ := Kd.at_string (Kd.R_reads' HO_11.out).2.2 x12_1 p15007 q15007
                  cases e15007
                  replace p15007 := eq_true p15007
                  replace q15007 := eq_true q15007
                  go_wp2_with (first | ((with_reducible refine gate_callee (f := 44) rfl ?_); refine goesL_ (some 40) rfl rfl Tryd.func44 (by kernel_rfl) rfl #[.slice A0 l0.length c0, .string (rdOf ByteArray.empty t15004 x12_1)] rfl (by (try simp only [List.map_toArray, List.map_cons, List.map_nil]); first | done | rfl | (simp only [List.length_drop, List.length_take]; rfl)) ?_; (with_reducible refine (tinderref19_value.calls k1 _ _ l0 (rdOf ByteArray.empty t15004 x12_1) t15008 _ ?side1 ?side2 A14.out).mono ?_); (case side1 => repeat (first | exact (Kd.C_below HR0.out HB.out) | (with_reducible refine Kd.C_alloc ?_ _) | (with_reducible refine Kd.C_drewN ?_ _) | (with_reducible refine Kd.C_drew ?_))); (case side2 => exact HC0.out); rintro e w' ⟨rfl, ⟨nd, rfl⟩⟩; refine ⟨_, rfl, ?_⟩; have p15009 : 0 ≤ (x12_1 : Int) := of_decide_eq_true (by first | (with_reducible assumption) | assumption); have q15009 : x12_1 < (t15004.length : Int) := of_decide_eq_true (by first | (with_reducible assumption) | assumption); obtain ⟨ad15009, e15009, hx15009_0⟩ := Kd.at_string (Kd.R_reads' HO_11.out).2.2 x12_1 p15009 q15009; obtain rfl : ad15007 = ad15009 := (by injection e15009); replace p15009 := eq_true p15009; replace q15009 := eq_true q15009; have p15010 : 0 ≤ (x12_1 : Int) := of_decide_eq_true (by first | (with_reducible assumption) | assumption); have q15010 : x12_1 < (t15004.length : Int) := of_decide_eq_true (by first | (with_reducible assumption) | assumption); obtain ⟨ad15010, e15010, hx15010_0⟩ := Kd.at_string (Kd.R_reads' HO_11.out).2.2 x12_1 p15010 q15010; obtain rfl : ad15007 = ad15010 := (by injection e15010); replace p15010 := eq_true p15010; replace q15010 := eq_true q15010) | ((with_reducible refine gate_callee (f := 20) rfl ?_); refine goesL_ (some 53) rfl rfl Tryd.func20 (by kernel_rfl) rfl #[.string (rdOf ByteArray.empty t15004 x12_1)] rfl (by (try simp only [List.map_toArray, List.map_cons, List.map_nil]); first | done | rfl | (simp only [List.length_drop, List.length_take]; rfl)) ?_; (with_reducible refine (tinderref19_Default.calls k1 (rdOf ByteArray.empty t15004 x12_1) t15011 t15012 _ A16.out).mono ?_); rintro e w' ⟨rfl, ⟨nd, rfl⟩⟩; refine ⟨_, rfl, ?_⟩))
                  go_roundg k1
                  case measure => have := HK1.out; omega
                  case rel => exact ⟨(x10_1), (wrap64 (x12_1 + 1)), (by first | rfl | (simp; done) | (simp [*]; done)), H', ⟨by have := HK1.out; omega⟩, ⟨by (with_reducible repeat (first | apply Kd.R_alloc | apply Kd.R_drewN | apply Kd.R_drew)); exact HO_10.out⟩, ⟨by (with_reducible repeat (first | apply Kd.R_alloc | apply Kd.R_drewN | apply Kd.R_drew)); exact HO_11.out⟩, ⟨by repeat (first | (with_reducible first | exact HB.out | apply below_alloc | apply pw_below_drewN | apply below_drew1) | exact HB.out)⟩⟩
                · rw [if_neg c17] at H
                  have c17b0 : (t15002.toList == t15011.toList) = false := beq_eq_false_iff_ne.mpr c17
                  have c17b1 : (t15002.toList != t15011.toList) = true := bne_iff_ne.mpr c17
                  by_cases c19 : x10_1.length < 4398046511104
                  · rw [if_pos c19] at H
                    have LMc19 := Aside0.mk c19
                    clear c19
                    obtain ⟨y15014, hy15014⟩ : ∃ y_ : List (S40), y_ = (x10_1 ++ [(⟨rdOf ByteArray.empty t15004 x12_1, t15002⟩ : S40)]) := ⟨_, rfl⟩
                    replace H : (tinderref19_Set.l0 k1 l0 a1 t15002 y15014 t15004 (wrap64 (x12_1 + 1))) = some (r1, r2) := by first | (rw [hy15014]; with_reducible exact H) | (have H2_ := (Option.bind_some _ _).symm.trans H; rw [hy15014]; with_reducible exact H2_) | (have H2_ := (Option.bind_some _ _).symm.trans H; with_reducible exact H2_) | with_reducible exact H | (rw [hy15014]; exact H) | exact H
                    have Ny15014 := Aside0.mk hy15014
                    clear hy15014
                    have H' := Aside0.mk H
                    clear H
                    obtain ⟨Ao20, co20, eo20⟩ := Kd.R_slice HO_11.out
                    subst eo20
                    have p15007 : 0 ≤ (x12_1 : Int) := of_decide_eq_true (by first | (with_reducible assumption) | assumption)
                    have q15007 : x12_1 < (t15004.length : Int) := of_decide_eq_true (by first | (with_reducible assumption) | assumption)
                    obtain ⟨ad15007, e15007, hx15007_0⟩ := Kd.at_string (Kd.R_reads' HO_11.out).2.2 x12_1 p15007 q15007
                    cases e15007
                    replace p15007 := eq_true p15007
                    replace q15007 := eq_true q15007
                    go_wp2_with (first | ((with_reducible refine gate_callee (f := 44) rfl ?_); refine goesL_ (some 40) rfl rfl Tryd.func44 (by kernel_rfl) rfl #[.slice A0 l0.length c0, .string (rdOf ByteArray.empty t15004 x12_1)] rfl (by (try simp only [List.map_toArray, List.map_cons, List.map_nil]); first | done | rfl | (simp only [List.length_drop, List.length_take]; rfl)) ?_; (with_reducible refine (tinderref19_value.calls k1 _ _ l0 (rdOf ByteArray.empty t15004 x12_1) t15008 _ ?side1 ?side2 A14.out).mono ?_); (case side1 => repeat (first | exact (Kd.C_below HR0.out HB.out) | (with_reducible refine Kd.C_alloc ?_ _) | (with_reducible refine Kd.C_drewN ?_ _) | (with_reducible refine Kd.C_drew ?_))); (case side2 => exact HC0.out); rintro e w' ⟨rfl, ⟨nd, rfl⟩⟩; refine ⟨_, rfl, ?_⟩; have p15009 : 0 ≤ (x12_1 : Int) := of_decide_eq_true (by first | (with_reducible assumption) | assumption); have q15009 : x12_1 < (t15004.length : Int) := of_decide_eq_true (by first | (with_reducible assumption) | assumption); obtain ⟨ad15009, e15009, hx15009_0⟩ := Kd.at_string (Kd.R_reads' HO_11.out).2.2 x12_1 p15009 q15009; obtain rfl : ad15007 = ad15009 := (by injection e15009); replace p15009 := eq_true p15009; replace q15009 := eq_true q15009; have p15010 : 0 ≤ (x12_1 : Int) := of_decide_eq_true (by first | (with_reducible assumption) | assumption); have q15010 : x12_1 < (t15004.length : Int) := of_decide_eq_true (by first | (with_reducible assumption) | assumption); obtain ⟨ad15010, e15010, hx15010_0⟩ := Kd.at_string (Kd.R_reads' HO_11.out).2.2 x12_1 p15010 q15010; obtain rfl : ad15007 = ad15010 := (by injection e15010); replace p15010 := eq_true p15010; replace q15010 := eq_true q15010) | ((with_reducible refine gate_callee (f := 20) rfl ?_); refine goesL_ (some 53) rfl rfl Tryd.func20 (by kernel_rfl) rfl #[.string (rdOf ByteArray.empty t15004 x12_1)] rfl (by (try simp only [List.map_toArray, List.map_cons, List.map_nil]); first | done | rfl | (simp only [List.length_drop, List.length_take]; rfl)) ?_; (with_reducible refine (tinderref19_Default.calls k1 (rdOf ByteArray.empty t15004 x12_1) t15011 t15012 _ A16.out).mono ?_); rintro e w' ⟨rfl, ⟨nd, rfl⟩⟩; refine ⟨_, rfl, ?_⟩; have p15013 : 0 ≤ (x12_1 : Int) := of_decide_eq_true (by first | (with_reducible assumption) | assumption); have q15013 : x12_1 < (t15004.length : Int) := of_decide_eq_true (by first | (with_reducible assumption) | assumption); obtain ⟨ad15013, e15013, hx15013_0⟩ := Kd.at_string (Kd.R_reads' HO_11.out).2.2 x12_1 p15013 q15013; obtain rfl : ad15007 = ad15013 := (by injection e15013); replace p15013 := eq_true p15013; replace q15013 := eq_true q15013) | ((with_reducible refine gate_builtin (b := .append) (xs := #[.tmp 59, .tmp 66]) rfl ?_); at_builtin; refine Kd.R_append k40 (w0 := w) w.heap.size rfl (.tmp 59) (.tmp 66) 22 40 (.agg #[(.string ⟨#[]⟩), (.string ⟨#[]⟩)]) 32 rfl Tryd.underlying22 info40 rfl (by decide) (by omega) u10 x10_1 (⟨rdOf ByteArray.empty t15004 x12_1, t15002⟩ : S40) [.string (rdOf ByteArray.empty t15004 x12_1), .string t15002] (fun _ => True) (fun _ => False) rfl rfl ?aP (fun _ hk => hk.elim) ?aF ?aO ?aB ?aS ?aL ?_; (case aP => exact k40_mkM _ _ _ (⟨rdOf ByteArray.empty t15004 x12_1, t15002⟩ : S40)); (case aB => exact (by repeat (first | (with_reducible first | exact HB.out | apply below_alloc | apply pw_below_drewN | apply below_drew1) | exact HB.out))); (case aF => exact (fun _ _ => trivial)); (case aO => exact (by (with_reducible repeat (first | apply Kd.R_alloc | apply Kd.R_drewN | apply Kd.R_drew)); exact HO_10.out)); (case aS => exact (below_size (by repeat (first | (with_reducible first | exact HB.out | apply below_alloc | apply pw_below_drewN | apply below_drew1) | exact HB.out)))); (case aL => have := LMc19.out; omega); intro v15015 w21 ho hb hg hat; rw [← Ny15014.out] at ho; have n0_ := Aside0.mk (Kd.R_over' (by (with_reducible repeat (first | apply Kd.R_alloc | apply Kd.R_drewN | apply Kd.R_drew)); exact HO_11.out) (Kd.R_typed (by (with_reducible repeat (first | apply Kd.R_alloc | apply Kd.R_drewN | apply Kd.R_drew)); exact HO_10.out)) (by decide) hg); have n1_ := Aside0.mk (hb); have n2_ := Aside0.mk (ho); clear HO_11; clear HB; clear HO_10; have HO_11 := n0_; have HB := n1_; have HO15016 := n2_; clear n0_ n1_ n2_; clear ho hb hg hat))
                    go_roundg k1
                    case measure => have := HK1.out; omega
                    case rel => exact ⟨(y15014), (wrap64 (x12_1 + 1)), (by first | rfl | (simp; done) | (simp [*]; done)), H', ⟨by have := HK1.out; omega⟩, ⟨by (with_reducible repeat (first | apply Kd.R_alloc | apply Kd.R_drewN | apply Kd.R_drew)); exact HO15016.out⟩, ⟨by (with_reducible repeat (first | apply Kd.R_alloc | apply Kd.R_drewN | apply Kd.R_drew)); exact HO_11.out⟩, ⟨by repeat (first | (with_reducible first | exact HB.out | apply below_alloc | apply pw_below_drewN | apply below_drew1) | exact HB.out)⟩⟩
                  · rw [if_neg c19] at H
                    exact absurd H (by simp)
              · rw [if_neg c15] at H
                have c15b0 : ((rdOf ByteArray.empty t15004 x12_1).toList == a1.toList) = false := beq_eq_false_iff_ne.mpr c15
                have c15b1 : ((rdOf ByteArray.empty t15004 x12_1).toList != a1.toList) = true := bne_iff_ne.mpr c15
                replace H := Option.bind_eq_some_iff.mp H
                obtain ⟨⟨t15018, t15019⟩, A220, H⟩ := H
                replace H : (if t15008.toList = t15018.toList then (tinderref19_Set.l0 k1 l0 a1 t15002 x10_1 t15004 (wrap64 (x12_1 + 1))) else (if x10_1.length < 4398046511104 then (tinderref19_Set.l0 k1 l0 a1 t15002 (x10_1 ++ [(⟨rdOf ByteArray.empty t15004 x12_1, t15008⟩ : S40)]) t15004 (wrap64 (x12_1 + 1))) else (none))) = some (r1, r2) := H
                have A22 := Aside0.mk A220
                clear A220
                by_cases c23 : t15008.toList = t15018.toList
                · rw [if_pos c23] at H
                  have c23b0 : (t15008.toList == t15018.toList) = true := beq_iff_eq.mpr c23
                  have c23b1 : (t15008.toList != t15018.toList) = false := bne_eq_false_iff_eq.mpr c23
                  clear c23
                  have H' := Aside0.mk H
                  clear H
                  obtain ⟨Ao24, co24, eo24⟩ := Kd.R_slice HO_11.out
                  subst eo24
                  have p15007 : 0 ≤ (x12_1 : Int) := of_decide_eq_true (by first | (with_reducible assumption) | assumption)
                  have q15007 : x12_1 < (t15004.length : Int) := of_decide_eq_true (by first | (with_reducible assumption) | assumption)
                  obtain ⟨ad15007, e15007, hx15007_0⟩ := Kd.at_string (Kd.R_reads' HO_11.out).2.2 x12_1 p15007 q15007
                  cases e15007
                  replace p15007 := eq_true p15007
                  replace q15007 := eq_true q15007
                  go_wp2_with (first | ((with_reducible refine gate_callee (f := 44) rfl ?_); refine goesL_ (some 40) rfl rfl Tryd.func44 (by kernel_rfl) rfl #[.slice A0 l0.length c0, .string (rdOf ByteArray.empty t15004 x12_1)] rfl (by (try simp only [List.map_toArray, List.map_cons, List.map_nil]); first | done | rfl | (simp only [List.length_drop, List.length_take]; rfl)) ?_; (with_reducible refine (tinderref19_value.calls k1 _ _ l0 (rdOf ByteArray.empty t15004 x12_1) t15008 _ ?side1 ?side2 A14.out).mono ?_); (case side1 => repeat (first | exact (Kd.C_below HR0.out HB.out) | (with_reducible refine Kd.C_alloc ?_ _) | (with_reducible refine Kd.C_drewN ?_ _) | (with_reducible refine Kd.C_drew ?_))); (case side2 => exact HC0.out); rintro e w' ⟨rfl, ⟨nd, rfl⟩⟩; refine ⟨_, rfl, ?_⟩; have p15009 : 0 ≤ (x12_1 : Int) := of_decide_eq_true (by first | (with_reducible assumption) | assumption); have q15009 : x12_1 < (t15004.length : Int) := of_decide_eq_true (by first | (with_reducible assumption) | assumption); obtain ⟨ad15009, e15009, hx15009_0⟩ := Kd.at_string (Kd.R_reads' HO_11.out).2.2 x12_1 p15009 q15009; obtain rfl : ad15007 = ad15009 := (by injection e15009); replace p15009 := eq_true p15009; replace q15009 := eq_true q15009; have p15017 : 0 ≤ (x12_1 : Int) := of_decide_eq_true (by first | (with_reducible assumption) | assumption); have q15017 : x12_1 < (t15004.length : Int) := of_decide_eq_true (by first | (with_reducible assumption) | assumption); obtain ⟨ad15017, e15017, hx15017_0⟩ := Kd.at_string (Kd.R_reads' HO_11.out).2.2 x12_1 p15017 q15017; obtain rfl : ad15007 = ad15017 := (by injection e15017); replace p15017 := eq_true p15017; replace q15017 := eq_true q15017) | ((with_reducible refine gate_callee (f := 20) rfl ?_); refine goesL_ (some 53) rfl rfl Tryd.func20 (by kernel_rfl) rfl #[.string (rdOf ByteArray.empty t15004 x12_1)] rfl (by (try simp only [List.map_toArray, List.map_cons, List.map_nil]); first | done | rfl | (simp only [List.length_drop, List.length_take]; rfl)) ?_; (with_reducible refine (tinderref19_Default.calls k1 (rdOf ByteArray.empty t15004 x12_1) t15018 t15019 _ A22.out).mono ?_); rintro e w' ⟨rfl, ⟨nd, rfl⟩⟩; refine ⟨_, rfl, ?_⟩))
                  go_roundg k1
                  case measure => have := HK1.out; omega
                  case rel => exact ⟨(x10_1), (wrap64 (x12_1 + 1)), (by first | rfl | (simp; done) | (simp [*]; done)), H', ⟨by have := HK1.out; omega⟩, ⟨by (with_reducible repeat (first | apply Kd.R_alloc | apply Kd.R_drewN | apply Kd.R_drew)); exact HO_10.out⟩, ⟨by (with_reducible repeat (first | apply Kd.R_alloc | apply Kd.R_drewN | apply Kd.R_drew)); exact HO_11.out⟩, ⟨by repeat (first | (with_reducible first | exact HB.out | apply below_alloc | apply pw_below_drewN | apply below_drew1) | exact HB.out)⟩⟩
                · rw [if_neg c23] at H
                  have c23b0 : (t15008.toList == t15018.toList) = false := beq_eq_false_iff_ne.mpr c23
                  have c23b1 : (t15008.toList != t15018.toList) = true := bne_iff_ne.mpr c23
                  by_cases c25 : x10_1.length < 4398046511104
                  · rw [if_pos c25] at H
                    have LMc25 := Aside0.mk c25
                    clear c25
                    obtain ⟨y15021, hy15021⟩ : ∃ y_ : List (S40), y_ = (x10_1 ++ [(⟨rdOf ByteArray.empty t15004 x12_1, t15008⟩ : S40)]) := ⟨_, rfl⟩
                    replace H : (tinderref19_Set.l0 k1 l0 a1 t15002 y15021 t15004 (wrap64 (x12_1 + 1))) = some (r1, r2) := by first | (rw [hy15021]; with_reducible exact H) | (have H2_ := (Option.bind_some _ _).symm.trans H; rw [hy15021]; with_reducible exact H2_) | (have H2_ := (Option.bind_some _ _).symm.trans H; with_reducible exact H2_) | with_reducible exact H | (rw [hy15021]; exact H) | exact H
                    have Ny15021 := Aside0.mk hy15021
                    clear hy15021
                    have H' := Aside0.mk H
                    clear H
                    obtain ⟨Ao26, co26, eo26⟩ := Kd.R_slice HO_11.out
                    subst eo26
                    have p15007 : 0 ≤ (x12_1 : Int) := of_decide_eq_true (by first | (with_reducible assumption) | assumption)
                    have q15007 : x12_1 < (t15004.length : Int) := of_decide_eq_true (by first | (with_reducible assumption) | assumption)
                    obtain ⟨ad15007, e15007, hx15007_0⟩ := Kd.at_string (Kd.R_reads' HO_11.out).2.2 x12_1 p15007 q15007
                    cases e15007
                    replace p15007 := eq_true p15007
                    replace q15007 := eq_true q15007
                    go_wp2_with (first | ((with_reducible refine gate_callee (f := 44) rfl ?_); refine goesL_ (some 40) rfl rfl Tryd.func44 (by kernel_rfl) rfl #[.slice A0 l0.length c0, .string (rdOf ByteArray.empty t15004 x12_1)] rfl (by (try simp only [List.map_toArray, List.map_cons, List.map_nil]); first | done | rfl | (simp only [List.length_drop, List.length_take]; rfl)) ?_; (with_reducible refine (tinderref19_value.calls k1 _ _ l0 (rdOf ByteArray.empty t15004 x12_1) t15008 _ ?side1 ?side2 A14.out).mono ?_); (case side1 => repeat (first | exact (Kd.C_below HR0.out HB.out) | (with_reducible refine Kd.C_alloc ?_ _) | (with_reducible refine Kd.C_drewN ?_ _) | (with_reducible refine Kd.C_drew ?_))); (case side2 => exact HC0.out); rintro e w' ⟨rfl, ⟨nd, rfl⟩⟩; refine ⟨_, rfl, ?_⟩; have p15009 : 0 ≤ (x12_1 : Int) := of_decide_eq_true (by first | (with_reducible assumption) | assumption); have q15009 : x12_1 < (t15004.length : Int) := of_decide_eq_true (by first | (with_reducible assumption) | assumption); obtain ⟨ad15009, e15009, hx15009_0⟩ := Kd.at_string (Kd.R_reads' HO_11.out).2.2 x12_1 p15009 q15009; obtain rfl : ad15007 = ad15009 := (by injection e15009); replace p15009 := eq_true p15009; replace q15009 := eq_true q15009; have p15017 : 0 ≤ (x12_1 : Int) := of_decide_eq_true (by first | (with_reducible assumption) | assumption); have q15017 : x12_1 < (t15004.length : Int) := of_decide_eq_true (by first | (with_reducible assumption) | assumption); obtain ⟨ad15017, e15017, hx15017_0⟩ := Kd.at_string (Kd.R_reads' HO_11.out).2.2 x12_1 p15017 q15017; obtain rfl : ad15007 = ad15017 := (by injection e15017); replace p15017 := eq_true p15017; replace q15017 := eq_true q15017) | ((with_reducible refine gate_callee (f := 20) rfl ?_); refine goesL_ (some 53) rfl rfl Tryd.func20 (by kernel_rfl) rfl #[.string (rdOf ByteArray.empty t15004 x12_1)] rfl (by (try simp only [List.map_toArray, List.map_cons, List.map_nil]); first | done | rfl | (simp only [List.length_drop, List.length_take]; rfl)) ?_; (with_reducible refine (tinderref19_Default.calls k1 (rdOf ByteArray.empty t15004 x12_1) t15018 t15019 _ A22.out).mono ?_); rintro e w' ⟨rfl, ⟨nd, rfl⟩⟩; refine ⟨_, rfl, ?_⟩; have p15020 : 0 ≤ (x12_1 : Int) := of_decide_eq_true (by first | (with_reducible assumption) | assumption); have q15020 : x12_1 < (t15004.length : Int) := of_decide_eq_true (by first | (with_reducible assumption) | assumption); obtain ⟨ad15020, e15020, hx15020_0⟩ := Kd.at_string (Kd.R_reads' HO_11.out).2.2 x12_1 p15020 q15020; obtain rfl : ad15007 = ad15020 := (by injection e15020); replace p15020 := eq_true p15020; replace q15020 := eq_true q15020) | ((with_reducible refine gate_builtin (b := .append) (xs := #[.tmp 59, .tmp 66]) rfl ?_); at_builtin; refine Kd.R_append k40 (w0 := w) w.heap.size rfl (.tmp 59) (.tmp 66) 22 40 (.agg #[(.string ⟨#[]⟩), (.string ⟨#[]⟩)]) 32 rfl Tryd.underlying22 info40 rfl (by decide) (by omega) u10 x10_1 (⟨rdOf ByteArray.empty t15004 x12_1, t15008⟩ : S40) [.string (rdOf ByteArray.empty t15004 x12_1), .string t15008] (fun _ => True) (fun _ => False) rfl rfl ?aP (fun _ hk => hk.elim) ?aF ?aO ?aB ?aS ?aL ?_; (case aP => exact k40_mkM _ _ _ (⟨rdOf ByteArray.empty t15004 x12_1, t15008⟩ : S40)); (case aB => exact (by repeat (first | (with_reducible first | exact HB.out | apply below_alloc | apply pw_below_drewN | apply below_drew1) | exact HB.out))); (case aF => exact (fun _ _ => trivial)); (case aO => exact (by (with_reducible repeat (first | apply Kd.R_alloc | apply Kd.R_drewN | apply Kd.R_drew)); exact HO_10.out)); (case aS => exact (below_size (by repeat (first | (with_reducible first | exact HB.out | apply below_alloc | apply pw_below_drewN | apply below_drew1) | exact HB.out)))); (case aL => have := LMc25.out; omega); intro v15022 w27 ho hb hg hat; rw [← Ny15021.out] at ho; have n0_ := Aside0.mk (Kd.R_over' (by (with_reducible repeat (first | apply Kd.R_alloc | apply Kd.R_drewN | apply Kd.R_drew)); exact HO_11.out) (Kd.R_typed (by (with_reducible repeat (first | apply Kd.R_alloc | apply Kd.R_drewN | apply Kd.R_drew)); exact HO_10.out)) (by decide) hg); have n1_ := Aside0.mk (hb); have n2_ := Aside0.mk (ho); clear HO_11; clear HB; clear HO_10; have HO_11 := n0_; have HB := n1_; have HO15023 := n2_; clear n0_ n1_ n2_; clear ho hb hg hat))
                    go_roundg k1
                    case measure => have := HK1.out; omega
                    case rel => exact ⟨(y15021), (wrap64 (x12_1 + 1)), (by first | rfl | (simp; done) | (simp [*]; done)), H', ⟨by have := HK1.out; omega⟩, ⟨by (with_reducible repeat (first | apply Kd.R_alloc | apply Kd.R_drewN | apply Kd.R_drew)); exact HO15023.out⟩, ⟨by (with_reducible repeat (first | apply Kd.R_alloc | apply Kd.R_drewN | apply Kd.R_drew)); exact HO_11.out⟩, ⟨by repeat (first | (with_reducible first | exact HB.out | apply below_alloc | apply pw_below_drewN | apply below_drew1) | exact HB.out)⟩⟩
                  · rw [if_neg c25] at H
                    exact absurd H (by simp)
            · rw [if_neg c13] at H
              exact absurd H (by simp)
          · rw [if_neg c12] at H
            have c12b0 : decide (x12_1 < (t15004.length : Int)) = false := decide_eq_false c12
            clear c12
            simp only [Option.some.injEq, Prod.mk.injEq] at H
            obtain ⟨rfl, rfl⟩ := H
            obtain ⟨Ao28, co28, eo28⟩ := Kd.R_slice HO_11.out
            subst eo28
            go_wp2
            go_ret2
            exact ⟨_, by first | rfl | (simp [errW_none, errW_some] <;> rfl) | (simp [*, errW_none, errW_some] <;> rfl), by (with_reducible repeat (first | apply Kd.R_alloc | apply Kd.R_drewN | apply Kd.R_drew)); exact HO_10.out, by repeat (first | (with_reducible first | exact HB.out | apply below_alloc | apply pw_below_drewN | apply below_drew1) | exact HB.out)⟩
    · rw [if_neg c7] at H
      have c7b0 : (t15003 == 0) = false := beq_eq_false_iff_ne.mpr c7
      have c7b1 : (t15003 != 0) = true := bne_iff_ne.mpr c7
      simp only [Option.some.injEq, Prod.mk.injEq] at H
      obtain ⟨rfl, rfl⟩ := H
      go_enter Tryd.func14, Tryd.ntmps14
      go_wp2_with (first | ((with_reducible refine gate_callee (f := 25) rfl ?_); refine goesL_ (some 17) rfl rfl Tryd.func25 (by kernel_rfl) rfl #[.slice A0 l0.length c0] rfl (by (try simp only [List.map_toArray, List.map_cons, List.map_nil]); first | done | rfl | (simp only [List.length_drop, List.length_take]; rfl)) ?_; (with_reducible refine (tinderref19_Right.calls k _ _ l0 true _ ?side1 ?side2 A4.out).mono ?_); (case side1 => repeat (first | exact HR0.out | (with_reducible refine Kd.C_alloc ?_ _) | (with_reducible refine Kd.C_drewN ?_ _) | (with_reducible refine Kd.C_drew ?_))); (case side2 => exact HC0.out); rintro e w29 ⟨rfl, hb⟩; refine ⟨_, rfl, ?_⟩; have n0_ := Aside0.mk (below_step (by repeat (first | (with_reducible first | exact HB.out | apply below_alloc | apply pw_below_drewN | apply below_drew1) | exact HB.out)) hb); clear HB; have HB := n0_; clear n0_; (try clear hb); (try clear hb2); (try clear hk); (try clear hi)) | ((with_reducible refine gate_callee (f := 18) rfl ?_); refine goesL_ (some 22) rfl rfl Tryd.func18 (by kernel_rfl) rfl #[.string a1, .string a2] rfl (by (try simp only [List.map_toArray, List.map_cons, List.map_nil]); first | done | rfl | (simp only [List.length_drop, List.length_take]; rfl)) ?_; (with_reducible refine (tinderref19_Form.calls k a1 a2 t15002 t15003 _ A6.out).mono ?_); rintro e w30 ⟨rfl, hb⟩; refine ⟨_, rfl, ?_⟩; have n0_ := Aside0.mk (below_step (by repeat (first | (with_reducible first | exact HB.out | apply below_alloc | apply pw_below_drewN | apply below_drew1) | exact HB.out)) hb); clear HB; have HB := n0_; clear n0_; (try clear hb); (try clear hb2); (try clear hk); (try clear hi)))
      go_ret2
      exact ⟨_, by first | rfl | (simp [errW_none, errW_some] <;> rfl) | (simp [*, errW_none, errW_some] <;> rfl), by first | exact Kd.R_nil _ _ _ _ _ | exact Kd.N_nil _ _ _ _ _ | exact Kd.V_nil _ _ _ _ _ | exact Kd.Q_nil _ _ _ _ _ | exact Kd.S_nil _ _ _ _ _, by repeat (first | (with_reducible first | exact HB.out | apply below_alloc | apply pw_below_drewN | apply below_drew1) | exact HB.out)⟩
  · replace c5 := Bool.eq_false_iff.mpr c5
    subst c5
    have H1 : (some (([] : List (S40)), 1)) = some (r1, r2) := by rw [if_neg (show ¬ (false = true) by decide)] at H; exact H
    clear H
    have H := H1
    clear H1
    simp only [Option.some.injEq, Prod.mk.injEq] at H
    obtain ⟨rfl, rfl⟩ := H
    go_enter Tryd.func14, Tryd.ntmps14
    go_wp2_with (first | ((with_reducible refine gate_callee (f := 25) rfl ?_); refine goesL_ (some 17) rfl rfl Tryd.func25 (by kernel_rfl) rfl #[.slice A0 l0.length c0] rfl (by (try simp only [List.map_toArray, List.map_cons, List.map_nil]); first | done | rfl | (simp only [List.length_drop, List.length_take]; rfl)) ?_; (with_reducible refine (tinderref19_Right.calls k _ _ l0 false _ ?side1 ?side2 A4.out).mono ?_); (case side1 => repeat (first | exact HR0.out | (with_reducible refine Kd.C_alloc ?_ _) | (with_reducible refine Kd.C_drewN ?_ _) | (with_reducible refine Kd.C_drew ?_))); (case side2 => exact HC0.out); rintro e w31 ⟨rfl, hb⟩; refine ⟨_, rfl, ?_⟩; have n0_ := Aside0.mk (below_step (by repeat (first | (with_reducible first | exact HB.out | apply below_alloc | apply pw_below_drewN | apply below_drew1) | exact HB.out)) hb); clear HB; have HB := n0_; clear n0_; (try clear hb); (try clear hb2); (try clear hk); (try clear hi)))
    go_ret2
    exact ⟨_, by first | rfl | (simp [errW_none, errW_some] <;> rfl) | (simp [*, errW_none, errW_some] <;> rfl), by first | exact Kd.R_nil _ _ _ _ _ | exact Kd.N_nil _ _ _ _ _ | exact Kd.V_nil _ _ _ _ _ | exact Kd.Q_nil _ _ _ _ _ | exact Kd.S_nil _ _ _ _ _, by repeat (first | (with_reducible first | exact HB.out | apply below_alloc | apply pw_below_drewN | apply below_drew1) | exact HB.out)⟩

end Go.Proofs.YtefhngadeimklaaDoor.Q
end
section
namespace Go.Proofs.YtefhngadeimklaaDoor.Q
open Go.RowKit Go.Proofs.YtefhngadeimklaaDoorW.PrintWords Go.Proofs.YtefhngadeimklaaDoorW.PrintLast Go.Proofs.YtefhngadeimklaaDoorW.PrintMore
set_option linter.unusedVariables false
set_option linter.unusedSimpArgs false

attribute [local go_sem] max2_int min2_int max_two min_two max_three min_three max_four min_four
/-! ### tinderlaw19_VarsSets: function 3 -/
def tinderlaw19_VarsSets.f (k : Nat) (l0 : List (S40)) (a1 : ByteArray) (a2 : ByteArray) : Option (Bool) := (tinderlaw19_alive.f).bind fun t4001 => (if t4001 = true then ((tinderlaw19_copied.f l0).bind fun t4002 => ((vars_Set.f k t4002 a1 a2).bind fun bt4005 => ((tinderref19_Set.f k l0 a1 a2).bind fun bt4009 => ((tinderref19_Same.f k bt4005.1 bt4009.1).bind fun t4013 => (if t4013 = true then (if bt4005.2 = bt4009.2 then ((tinderref19_Same.f k t4002 l0).bind fun t4014 => (if t4014 = true then (if bt4005.2 = 0 then ((vars_Right.f k bt4005.1).bind fun t4015 => (some t4015)) else (some true)) else (some false))) else (some false)) else (some false)))))) else (some false))
set_option maxHeartbeats 8000000 in
set_option maxRecDepth 100000 in
theorem tinderlaw19_VarsSets.calls (k : Nat) (A0 : Option Addr) (c0 : Nat) (l0 : List (S40)) (a1 : ByteArray) (a2 : ByteArray) (r : Bool) (w : World) (ht : Tabs w) (hr0 : Kd.C k40 w A0 l0.length l0) (hc0 : l0.length ≤ c0) (h : tinderlaw19_VarsSets.f k l0 a1 a2 = some r) :
    Calls Tryd.prog 3 #[.slice A0 l0.length c0, .string a1, .string a2] w fun e w' => e = .returned (.bool r) ∧ Below w.heap.size w w' := by
  have HR0 := Aside0.mk hr0
  have HC0 := Aside0.mk hc0
  clear hr0 hc0
  have HB := Aside0.mk (Below.refl w.heap.size w)
  have H : ((tinderlaw19_alive.f).bind fun t4001 => (if t4001 = true then ((tinderlaw19_copied.f l0).bind fun t4002 => ((vars_Set.f k t4002 a1 a2).bind fun bt4005 => ((tinderref19_Set.f k l0 a1 a2).bind fun bt4009 => ((tinderref19_Same.f k bt4005.1 bt4009.1).bind fun t4013 => (if t4013 = true then (if bt4005.2 = bt4009.2 then ((tinderref19_Same.f k t4002 l0).bind fun t4014 => (if t4014 = true then (if bt4005.2 = 0 then ((vars_Right.f k bt4005.1).bind fun t4015 => (some t4015)) else (some true)) else (some false))) else (some false)) else (some false)))))) else (some false))) = some r := h
  clear h
  replace H := Option.bind_eq_some_iff.mp H
  obtain ⟨t4001, A40, H⟩ := H
  replace H : (if t4001 = true then ((tinderlaw19_copied.f l0).bind fun t4002 => ((vars_Set.f k t4002 a1 a2).bind fun bt4005 => ((tinderref19_Set.f k l0 a1 a2).bind fun bt4009 => ((tinderref19_Same.f k bt4005.1 bt4009.1).bind fun t4013 => (if t4013 = true then (if bt4005.2 = bt4009.2 then ((tinderref19_Same.f k t4002 l0).bind fun t4014 => (if t4014 = true then (if bt4005.2 = 0 then ((vars_Right.f k bt4005.1).bind fun t4015 => (some t4015)) else (some true)) else (some false))) else (some false)) else (some false)))))) else (some false)) = some r := H
  have A4 := Aside0.mk A40
  clear A40
  by_cases c5 : t4001 = true
  · subst c5
    have H1 : ((tinderlaw19_copied.f l0).bind fun t4002 => ((vars_Set.f k t4002 a1 a2).bind fun bt4005 => ((tinderref19_Set.f k l0 a1 a2).bind fun bt4009 => ((tinderref19_Same.f k bt4005.1 bt4009.1).bind fun t4013 => (if t4013 = true then (if bt4005.2 = bt4009.2 then ((tinderref19_Same.f k t4002 l0).bind fun t4014 => (if t4014 = true then (if bt4005.2 = 0 then ((vars_Right.f k bt4005.1).bind fun t4015 => (some t4015)) else (some true)) else (some false))) else (some false)) else (some false)))))) = some r := by rw [if_pos rfl] at H; exact H
    clear H
    have H := H1
    clear H1
    replace H := Option.bind_eq_some_iff.mp H
    obtain ⟨t4002, A60, H⟩ := H
    replace H : ((vars_Set.f k t4002 a1 a2).bind fun bt4005 => ((tinderref19_Set.f k l0 a1 a2).bind fun bt4009 => ((tinderref19_Same.f k bt4005.1 bt4009.1).bind fun t4013 => (if t4013 = true then (if bt4005.2 = bt4009.2 then ((tinderref19_Same.f k t4002 l0).bind fun t4014 => (if t4014 = true then (if bt4005.2 = 0 then ((vars_Right.f k bt4005.1).bind fun t4015 => (some t4015)) else (some true)) else (some false))) else (some false)) else (some false))))) = some r := H
    have A6 := Aside0.mk A60
    clear A60
    replace H := Option.bind_eq_some_iff.mp H
    obtain ⟨⟨t4005, t4006⟩, A70, H⟩ := H
    replace H : ((tinderref19_Set.f k l0 a1 a2).bind fun bt4009 => ((tinderref19_Same.f k t4005 bt4009.1).bind fun t4013 => (if t4013 = true then (if t4006 = bt4009.2 then ((tinderref19_Same.f k t4002 l0).bind fun t4014 => (if t4014 = true then (if t4006 = 0 then ((vars_Right.f k t4005).bind fun t4015 => (some t4015)) else (some true)) else (some false))) else (some false)) else (some false)))) = some r := H
    have A7 := Aside0.mk A70
    clear A70
    replace H := Option.bind_eq_some_iff.mp H
    obtain ⟨⟨t4009, t4010⟩, A80, H⟩ := H
    replace H : ((tinderref19_Same.f k t4005 t4009).bind fun t4013 => (if t4013 = true then (if t4006 = t4010 then ((tinderref19_Same.f k t4002 l0).bind fun t4014 => (if t4014 = true then (if t4006 = 0 then ((vars_Right.f k t4005).bind fun t4015 => (some t4015)) else (some true)) else (some false))) else (some false)) else (some false))) = some r := H
    have A8 := Aside0.mk A80
    clear A80
    replace H := Option.bind_eq_some_iff.mp H
    obtain ⟨t4013, A90, H⟩ := H
    replace H : (if t4013 = true then (if t4006 = t4010 then ((tinderref19_Same.f k t4002 l0).bind fun t4014 => (if t4014 = true then (if t4006 = 0 then ((vars_Right.f k t4005).bind fun t4015 => (some t4015)) else (some true)) else (some false))) else (some false)) else (some false)) = some r := H
    have A9 := Aside0.mk A90
    clear A90
    by_cases c10 : t4013 = true
    · subst c10
      have H1 : (if t4006 = t4010 then ((tinderref19_Same.f k t4002 l0).bind fun t4014 => (if t4014 = true then (if t4006 = 0 then ((vars_Right.f k t4005).bind fun t4015 => (some t4015)) else (some true)) else (some false))) else (some false)) = some r := by rw [if_pos rfl] at H; exact H
      clear H
      have H := H1
      clear H1
      by_cases c11 : t4006 = t4010
      · rw [if_pos c11] at H
        have c11b0 : (t4006 == t4010) = true := beq_iff_eq.mpr c11
        have c11b1 : (t4006 != t4010) = false := bne_eq_false_iff_eq.mpr c11
        clear c11
        replace H := Option.bind_eq_some_iff.mp H
        obtain ⟨t4014, A120, H⟩ := H
        replace H : (if t4014 = true then (if t4006 = 0 then ((vars_Right.f k t4005).bind fun t4015 => (some t4015)) else (some true)) else (some false)) = some r := H
        have A12 := Aside0.mk A120
        clear A120
        by_cases c13 : t4014 = true
        · subst c13
          have H1 : (if t4006 = 0 then ((vars_Right.f k t4005).bind fun t4015 => (some t4015)) else (some true)) = some r := by rw [if_pos rfl] at H; exact H
          clear H
          have H := H1
          clear H1
          by_cases c14 : t4006 = 0
          · rw [if_pos c14] at H
            have c14b0 : (t4006 == 0) = true := beq_iff_eq.mpr c14
            have c14b1 : (t4006 != 0) = false := bne_eq_false_iff_eq.mpr c14
            clear c14
            replace H := Option.bind_eq_some_iff.mp H
            obtain ⟨t4015, A150, H⟩ := H
            replace H : (some t4015) = some r := H
            have A15 := Aside0.mk A150
            clear A150
            obtain rfl := Option.some.inj H
            go_enter Tryd.func3, Tryd.ntmps3
            go_wp2_with (first | ((with_reducible refine gate_callee (f := 11) rfl ?_); refine goesL_ (some 12) rfl rfl Tryd.func11 (by kernel_rfl) rfl #[] rfl (by (try simp only [List.map_toArray, List.map_cons, List.map_nil]); first | done | rfl | (simp only [List.length_drop, List.length_take]; rfl)) ?_; (with_reducible refine (tinderlaw19_alive.calls  true _ ht A4.out).mono ?_); rintro e w16 ⟨rfl, hb⟩; refine ⟨_, rfl, ?_⟩; have n0_ := Aside0.mk (below_step (by repeat (first | (with_reducible first | exact HB.out | apply below_alloc | apply pw_below_drewN | apply below_drew1) | exact HB.out)) hb); clear HB; have HB := n0_; clear n0_; (try clear hb); (try clear hb2); (try clear hk); (try clear hi)) | ((with_reducible refine gate_callee (f := 12) rfl ?_); refine goesL_ (some 15) rfl rfl Tryd.func12 (by kernel_rfl) rfl #[.slice A0 l0.length c0] rfl (by (try simp only [List.map_toArray, List.map_cons, List.map_nil]); first | done | rfl | (simp only [List.length_drop, List.length_take]; rfl)) ?_; (with_reducible refine (tinderlaw19_copied.calls _ _ l0 t4002 _ ?side1 ?side2 A6.out).mono ?_); (case side1 => repeat (first | exact (Kd.C_below HR0.out HB.out) | (with_reducible refine Kd.C_alloc ?_ _) | (with_reducible refine Kd.C_drewN ?_ _) | (with_reducible refine Kd.C_drew ?_))); (case side2 => exact HC0.out); rintro e w17 ⟨v4003, rfl, ho0, hb⟩; refine ⟨_, rfl, ?_⟩; have n0_ := Aside0.mk (Kd.R_lower ho0 (below_size (by repeat (first | (with_reducible first | exact HB.out | apply below_alloc | apply pw_below_drewN | apply below_drew1) | exact HB.out)))); have n1_ := Aside0.mk (below_step (by repeat (first | (with_reducible first | exact HB.out | apply below_alloc | apply pw_below_drewN | apply below_drew1) | exact HB.out)) hb); clear HB; have HO4004 := n0_; have HB := n1_; clear n0_ n1_; (try clear hb); (try clear hb2); (try clear hk); (try clear hi); (try clear ho0); obtain ⟨Ao18, co18, eo18⟩ := Kd.R_slice HO4004.out; subst eo18) | ((with_reducible refine gate_callee (f := 13) rfl ?_); refine goesL_ (some 20) rfl rfl Tryd.func13 (by kernel_rfl) rfl #[.slice Ao18 t4002.length co18, .string a1, .string a2] rfl (by (try simp only [List.map_toArray, List.map_cons, List.map_nil]); first | done | rfl | (simp only [List.length_drop, List.length_take]; rfl)) ?_; (with_reducible refine (vars_Set.calls k _ _ t4002 a1 a2 t4005 t4006 _ (Tabs.below ht (by repeat (first | (with_reducible first | exact HB.out | apply below_alloc | apply pw_below_drewN | apply below_drew1 | refine below_set ?_ (Aside0.out (by assumption))) | exact HB.out))) ?side1 ?side2 A7.out).mono ?_); (case side1 => repeat (first | exact (Kd.R_reads' HO4004.out).2.2 | (with_reducible refine Kd.C_alloc ?_ _) | (with_reducible refine Kd.C_drewN ?_ _) | (with_reducible refine Kd.C_drew ?_))); (case side2 => exact (Kd.R_reads' HO4004.out).2.1); rintro e w19 ⟨v4007, rfl, ho0, hb⟩; refine ⟨_, rfl, ?_⟩; have n0_ := Aside0.mk (Kd.R_elder' (by (with_reducible repeat (first | apply Kd.R_alloc | apply Kd.R_drewN | apply Kd.R_drew)); exact HO4004.out) (Kd.R_base ho0) hb); have n1_ := Aside0.mk (Kd.R_lower (Kd.R_new' ho0 (Kd.R_lt (by (with_reducible repeat (first | apply Kd.R_alloc | apply Kd.R_drewN | apply Kd.R_drew)); exact HO4004.out))) (below_size (by repeat (first | (with_reducible first | exact HB.out | apply below_alloc | apply pw_below_drewN | apply below_drew1) | exact HB.out)))); have n2_ := Aside0.mk (below_step (by repeat (first | (with_reducible first | exact HB.out | apply below_alloc | apply pw_below_drewN | apply below_drew1) | exact HB.out)) hb); clear HO4004; clear HB; have HO4004 := n0_; have HO4008 := n1_; have HB := n2_; clear n0_ n1_ n2_; (try clear hb); (try clear hb2); (try clear hk); (try clear hi); (try clear ho0)) | ((with_reducible refine gate_callee (f := 14) rfl ?_); refine goesL_ (some 27) rfl rfl Tryd.func14 (by kernel_rfl) rfl #[.slice A0 l0.length c0, .string a1, .string a2] rfl (by (try simp only [List.map_toArray, List.map_cons, List.map_nil]); first | done | rfl | (simp only [List.length_drop, List.length_take]; rfl)) ?_; (with_reducible refine (tinderref19_Set.calls k _ _ l0 a1 a2 t4009 t4010 _ ?side1 ?side2 A8.out).mono ?_); (case side1 => repeat (first | exact (Kd.C_below HR0.out HB.out) | (with_reducible refine Kd.C_alloc ?_ _) | (with_reducible refine Kd.C_drewN ?_ _) | (with_reducible refine Kd.C_drew ?_))); (case side2 => exact HC0.out); rintro e w20 ⟨v4011, rfl, ho0, hb⟩; refine ⟨_, rfl, ?_⟩; have n0_ := Aside0.mk (Kd.R_elder' (by (with_reducible repeat (first | apply Kd.R_alloc | apply Kd.R_drewN | apply Kd.R_drew)); exact HO4004.out) (Kd.R_base ho0) hb); have n1_ := Aside0.mk (Kd.R_elder' (by (with_reducible repeat (first | apply Kd.R_alloc | apply Kd.R_drewN | apply Kd.R_drew)); exact HO4008.out) (Kd.R_base ho0) hb); have n2_ := Aside0.mk (Kd.R_lower (Kd.R_new' (Kd.R_new' ho0 (Kd.R_lt (by (with_reducible repeat (first | apply Kd.R_alloc | apply Kd.R_drewN | apply Kd.R_drew)); exact HO4004.out))) (Kd.R_lt (by (with_reducible repeat (first | apply Kd.R_alloc | apply Kd.R_drewN | apply Kd.R_drew)); exact HO4008.out))) (below_size (by repeat (first | (with_reducible first | exact HB.out | apply below_alloc | apply pw_below_drewN | apply below_drew1) | exact HB.out)))); have n3_ := Aside0.mk (below_step (by repeat (first | (with_reducible first | exact HB.out | apply below_alloc | apply pw_below_drewN | apply below_drew1) | exact HB.out)) hb); clear HO4004; clear HO4008; clear HB; have HO4004 := n0_; have HO4008 := n1_; have HO4012 := n2_; have HB := n3_; clear n0_ n1_ n2_ n3_; (try clear hb); (try clear hb2); (try clear hk); (try clear hi); (try clear ho0); obtain ⟨Ao21, co21, eo21⟩ := Kd.R_slice HO4008.out; subst eo21; obtain ⟨Ao22, co22, eo22⟩ := Kd.R_slice HO4012.out; subst eo22) | ((with_reducible refine gate_callee (f := 15) rfl ?_); refine goesL_ (some 32) rfl rfl Tryd.func15 (by kernel_rfl) rfl #[.slice Ao21 t4005.length co21, .slice Ao22 t4009.length co22] rfl (by (try simp only [List.map_toArray, List.map_cons, List.map_nil]); first | done | rfl | (simp only [List.length_drop, List.length_take]; rfl)) ?_; (with_reducible refine (tinderref19_Same.calls k _ _ t4005 _ _ t4009 true _ ?side1 ?side2 ?side3 ?side4 A9.out).mono ?_); (case side1 => repeat (first | exact (Kd.R_reads' HO4008.out).2.2 | (with_reducible refine Kd.C_alloc ?_ _) | (with_reducible refine Kd.C_drewN ?_ _) | (with_reducible refine Kd.C_drew ?_))); (case side2 => exact (Kd.R_reads' HO4008.out).2.1); (case side3 => repeat (first | exact (Kd.R_reads' HO4012.out).2.2 | (with_reducible refine Kd.C_alloc ?_ _) | (with_reducible refine Kd.C_drewN ?_ _) | (with_reducible refine Kd.C_drew ?_))); (case side4 => exact (Kd.R_reads' HO4012.out).2.1); rintro e w' ⟨rfl, ⟨nd, rfl⟩⟩; refine ⟨_, rfl, ?_⟩) | (go_at_call 15; (with_reducible refine (tinderref19_Same.calls k _ _ t4002 _ _ l0 true _ ?side1 ?side2 ?side3 ?side4 A12.out).mono ?_); (case side1 => repeat (first | exact (Kd.R_reads' HO4004.out).2.2 | (with_reducible refine Kd.C_alloc ?_ _) | (with_reducible refine Kd.C_drewN ?_ _) | (with_reducible refine Kd.C_drew ?_))); (case side2 => exact (Kd.R_reads' HO4004.out).2.1); (case side3 => repeat (first | exact (Kd.C_below HR0.out (by repeat (first | (with_reducible first | exact HB.out | apply below_alloc | apply pw_below_drewN | apply below_drew1) | exact HB.out))) | (with_reducible refine Kd.C_alloc ?_ _) | (with_reducible refine Kd.C_drewN ?_ _) | (with_reducible refine Kd.C_drew ?_))); (case side4 => exact HC0.out); rintro e w' ⟨rfl, ⟨nd, rfl⟩⟩) | (go_at_call 16; (with_reducible refine (vars_Right.calls k _ _ t4005 t4015 _ (Tabs.below ht (by repeat (first | (with_reducible first | exact HB.out | apply below_alloc | apply pw_below_drewN | apply below_drew1 | refine below_set ?_ (Aside0.out (by assumption))) | exact HB.out))) ?side1 ?side2 A15.out).mono ?_); (case side1 => repeat (first | exact (Kd.R_reads' HO4008.out).2.2 | (with_reducible refine Kd.C_alloc ?_ _) | (with_reducible refine Kd.C_drewN ?_ _) | (with_reducible refine Kd.C_drew ?_))); (case side2 => exact (Kd.R_reads' HO4008.out).2.1); rintro e w23 ⟨rfl, hb⟩; have n0_ := Aside0.mk (Kd.R_below (by (with_reducible repeat (first | apply Kd.R_alloc | apply Kd.R_drewN | apply Kd.R_drew)); exact HO4004.out) hb); have n1_ := Aside0.mk (Kd.R_below (by (with_reducible repeat (first | apply Kd.R_alloc | apply Kd.R_drewN | apply Kd.R_drew)); exact HO4008.out) hb); have n2_ := Aside0.mk (Kd.R_below (by (with_reducible repeat (first | apply Kd.R_alloc | apply Kd.R_drewN | apply Kd.R_drew)); exact HO4012.out) hb); have n3_ := Aside0.mk (below_step (by repeat (first | (with_reducible first | exact HB.out | apply below_alloc | apply pw_below_drewN | apply below_drew1) | exact HB.out)) hb); clear HO4004; clear HO4008; clear HO4012; clear HB; have HO4004 := n0_; have HO4008 := n1_; have HO4012 := n2_; have HB := n3_; clear n0_ n1_ n2_ n3_; (try clear hb); (try clear hb2); (try clear hk); (try clear hi)))
            go_ret
            exact ⟨by first | rfl | (simp [errW_none, errW_some] <;> rfl) | (simp [*, errW_none, errW_some] <;> rfl), by repeat (first | (with_reducible first | exact HB.out | apply below_alloc | apply pw_below_drewN | apply below_drew1) | exact HB.out)⟩
          · rw [if_neg c14] at H
            have c14b0 : (t4006 == 0) = false := beq_eq_false_iff_ne.mpr c14
            have c14b1 : (t4006 != 0) = true := bne_iff_ne.mpr c14
            obtain rfl := Option.some.inj H
            go_enter Tryd.func3, Tryd.ntmps3
            go_wp2_with (first | ((with_reducible refine gate_callee (f := 11) rfl ?_); refine goesL_ (some 12) rfl rfl Tryd.func11 (by kernel_rfl) rfl #[] rfl (by (try simp only [List.map_toArray, List.map_cons, List.map_nil]); first | done | rfl | (simp only [List.length_drop, List.length_take]; rfl)) ?_; (with_reducible refine (tinderlaw19_alive.calls  true _ ht A4.out).mono ?_); rintro e w24 ⟨rfl, hb⟩; refine ⟨_, rfl, ?_⟩; have n0_ := Aside0.mk (below_step (by repeat (first | (with_reducible first | exact HB.out | apply below_alloc | apply pw_below_drewN | apply below_drew1) | exact HB.out)) hb); clear HB; have HB := n0_; clear n0_; (try clear hb); (try clear hb2); (try clear hk); (try clear hi)) | ((with_reducible refine gate_callee (f := 12) rfl ?_); refine goesL_ (some 15) rfl rfl Tryd.func12 (by kernel_rfl) rfl #[.slice A0 l0.length c0] rfl (by (try simp only [List.map_toArray, List.map_cons, List.map_nil]); first | done | rfl | (simp only [List.length_drop, List.length_take]; rfl)) ?_; (with_reducible refine (tinderlaw19_copied.calls _ _ l0 t4002 _ ?side1 ?side2 A6.out).mono ?_); (case side1 => repeat (first | exact (Kd.C_below HR0.out HB.out) | (with_reducible refine Kd.C_alloc ?_ _) | (with_reducible refine Kd.C_drewN ?_ _) | (with_reducible refine Kd.C_drew ?_))); (case side2 => exact HC0.out); rintro e w25 ⟨v4003, rfl, ho0, hb⟩; refine ⟨_, rfl, ?_⟩; have n0_ := Aside0.mk (Kd.R_lower ho0 (below_size (by repeat (first | (with_reducible first | exact HB.out | apply below_alloc | apply pw_below_drewN | apply below_drew1) | exact HB.out)))); have n1_ := Aside0.mk (below_step (by repeat (first | (with_reducible first | exact HB.out | apply below_alloc | apply pw_below_drewN | apply below_drew1) | exact HB.out)) hb); clear HB; have HO4004 := n0_; have HB := n1_; clear n0_ n1_; (try clear hb); (try clear hb2); (try clear hk); (try clear hi); (try clear ho0); obtain ⟨Ao26, co26, eo26⟩ := Kd.R_slice HO4004.out; subst eo26) | ((with_reducible refine gate_callee (f := 13) rfl ?_); refine goesL_ (some 20) rfl rfl Tryd.func13 (by kernel_rfl) rfl #[.slice Ao26 t4002.length co26, .string a1, .string a2] rfl (by (try simp only [List.map_toArray, List.map_cons, List.map_nil]); first | done | rfl | (simp only [List.length_drop, List.length_take]; rfl)) ?_; (with_reducible refine (vars_Set.calls k _ _ t4002 a1 a2 t4005 t4006 _ (Tabs.below ht (by repeat (first | (with_reducible first | exact HB.out | apply below_alloc | apply pw_below_drewN | apply below_drew1 | refine below_set ?_ (Aside0.out (by assumption))) | exact HB.out))) ?side1 ?side2 A7.out).mono ?_); (case side1 => repeat (first | exact (Kd.R_reads' HO4004.out).2.2 | (with_reducible refine Kd.C_alloc ?_ _) | (with_reducible refine Kd.C_drewN ?_ _) | (with_reducible refine Kd.C_drew ?_))); (case side2 => exact (Kd.R_reads' HO4004.out).2.1); rintro e w27 ⟨v4007, rfl, ho0, hb⟩; refine ⟨_, rfl, ?_⟩; have n0_ := Aside0.mk (Kd.R_elder' (by (with_reducible repeat (first | apply Kd.R_alloc | apply Kd.R_drewN | apply Kd.R_drew)); exact HO4004.out) (Kd.R_base ho0) hb); have n1_ := Aside0.mk (Kd.R_lower (Kd.R_new' ho0 (Kd.R_lt (by (with_reducible repeat (first | apply Kd.R_alloc | apply Kd.R_drewN | apply Kd.R_drew)); exact HO4004.out))) (below_size (by repeat (first | (with_reducible first | exact HB.out | apply below_alloc | apply pw_below_drewN | apply below_drew1) | exact HB.out)))); have n2_ := Aside0.mk (below_step (by repeat (first | (with_reducible first | exact HB.out | apply below_alloc | apply pw_below_drewN | apply below_drew1) | exact HB.out)) hb); clear HO4004; clear HB; have HO4004 := n0_; have HO4008 := n1_; have HB := n2_; clear n0_ n1_ n2_; (try clear hb); (try clear hb2); (try clear hk); (try clear hi); (try clear ho0)) | ((with_reducible refine gate_callee (f := 14) rfl ?_); refine goesL_ (some 27) rfl rfl Tryd.func14 (by kernel_rfl) rfl #[.slice A0 l0.length c0, .string a1, .string a2] rfl (by (try simp only [List.map_toArray, List.map_cons, List.map_nil]); first | done | rfl | (simp only [List.length_drop, List.length_take]; rfl)) ?_; (with_reducible refine (tinderref19_Set.calls k _ _ l0 a1 a2 t4009 t4010 _ ?side1 ?side2 A8.out).mono ?_); (case side1 => repeat (first | exact (Kd.C_below HR0.out HB.out) | (with_reducible refine Kd.C_alloc ?_ _) | (with_reducible refine Kd.C_drewN ?_ _) | (with_reducible refine Kd.C_drew ?_))); (case side2 => exact HC0.out); rintro e w28 ⟨v4011, rfl, ho0, hb⟩; refine ⟨_, rfl, ?_⟩; have n0_ := Aside0.mk (Kd.R_elder' (by (with_reducible repeat (first | apply Kd.R_alloc | apply Kd.R_drewN | apply Kd.R_drew)); exact HO4004.out) (Kd.R_base ho0) hb); have n1_ := Aside0.mk (Kd.R_elder' (by (with_reducible repeat (first | apply Kd.R_alloc | apply Kd.R_drewN | apply Kd.R_drew)); exact HO4008.out) (Kd.R_base ho0) hb); have n2_ := Aside0.mk (Kd.R_lower (Kd.R_new' (Kd.R_new' ho0 (Kd.R_lt (by (with_reducible repeat (first | apply Kd.R_alloc | apply Kd.R_drewN | apply Kd.R_drew)); exact HO4004.out))) (Kd.R_lt (by (with_reducible repeat (first | apply Kd.R_alloc | apply Kd.R_drewN | apply Kd.R_drew)); exact HO4008.out))) (below_size (by repeat (first | (with_reducible first | exact HB.out | apply below_alloc | apply pw_below_drewN | apply below_drew1) | exact HB.out)))); have n3_ := Aside0.mk (below_step (by repeat (first | (with_reducible first | exact HB.out | apply below_alloc | apply pw_below_drewN | apply below_drew1) | exact HB.out)) hb); clear HO4004; clear HO4008; clear HB; have HO4004 := n0_; have HO4008 := n1_; have HO4012 := n2_; have HB := n3_; clear n0_ n1_ n2_ n3_; (try clear hb); (try clear hb2); (try clear hk); (try clear hi); (try clear ho0); obtain ⟨Ao29, co29, eo29⟩ := Kd.R_slice HO4008.out; subst eo29; obtain ⟨Ao30, co30, eo30⟩ := Kd.R_slice HO4012.out; subst eo30) | ((with_reducible refine gate_callee (f := 15) rfl ?_); refine goesL_ (some 32) rfl rfl Tryd.func15 (by kernel_rfl) rfl #[.slice Ao29 t4005.length co29, .slice Ao30 t4009.length co30] rfl (by (try simp only [List.map_toArray, List.map_cons, List.map_nil]); first | done | rfl | (simp only [List.length_drop, List.length_take]; rfl)) ?_; (with_reducible refine (tinderref19_Same.calls k _ _ t4005 _ _ t4009 true _ ?side1 ?side2 ?side3 ?side4 A9.out).mono ?_); (case side1 => repeat (first | exact (Kd.R_reads' HO4008.out).2.2 | (with_reducible refine Kd.C_alloc ?_ _) | (with_reducible refine Kd.C_drewN ?_ _) | (with_reducible refine Kd.C_drew ?_))); (case side2 => exact (Kd.R_reads' HO4008.out).2.1); (case side3 => repeat (first | exact (Kd.R_reads' HO4012.out).2.2 | (with_reducible refine Kd.C_alloc ?_ _) | (with_reducible refine Kd.C_drewN ?_ _) | (with_reducible refine Kd.C_drew ?_))); (case side4 => exact (Kd.R_reads' HO4012.out).2.1); rintro e w' ⟨rfl, ⟨nd, rfl⟩⟩; refine ⟨_, rfl, ?_⟩) | (go_at_call 15; (with_reducible refine (tinderref19_Same.calls k _ _ t4002 _ _ l0 true _ ?side1 ?side2 ?side3 ?side4 A12.out).mono ?_); (case side1 => repeat (first | exact (Kd.R_reads' HO4004.out).2.2 | (with_reducible refine Kd.C_alloc ?_ _) | (with_reducible refine Kd.C_drewN ?_ _) | (with_reducible refine Kd.C_drew ?_))); (case side2 => exact (Kd.R_reads' HO4004.out).2.1); (case side3 => repeat (first | exact (Kd.C_below HR0.out (by repeat (first | (with_reducible first | exact HB.out | apply below_alloc | apply pw_below_drewN | apply below_drew1) | exact HB.out))) | (with_reducible refine Kd.C_alloc ?_ _) | (with_reducible refine Kd.C_drewN ?_ _) | (with_reducible refine Kd.C_drew ?_))); (case side4 => exact HC0.out); rintro e w' ⟨rfl, ⟨nd, rfl⟩⟩))
            go_ret
            exact ⟨by first | rfl | (simp [errW_none, errW_some] <;> rfl) | (simp [*, errW_none, errW_some] <;> rfl), by repeat (first | (with_reducible first | exact HB.out | apply below_alloc | apply pw_below_drewN | apply below_drew1) | exact HB.out)⟩
        · replace c13 := Bool.eq_false_iff.mpr c13
          subst c13
          have H1 : (some false) = some r := by rw [if_neg (show ¬ (false = true) by decide)] at H; exact H
          clear H
          have H := H1
          clear H1
          obtain rfl := Option.some.inj H
          go_enter Tryd.func3, Tryd.ntmps3
          go_wp2_with (first | ((with_reducible refine gate_callee (f := 11) rfl ?_); refine goesL_ (some 12) rfl rfl Tryd.func11 (by kernel_rfl) rfl #[] rfl (by (try simp only [List.map_toArray, List.map_cons, List.map_nil]); first | done | rfl | (simp only [List.length_drop, List.length_take]; rfl)) ?_; (with_reducible refine (tinderlaw19_alive.calls  true _ ht A4.out).mono ?_); rintro e w31 ⟨rfl, hb⟩; refine ⟨_, rfl, ?_⟩; have n0_ := Aside0.mk (below_step (by repeat (first | (with_reducible first | exact HB.out | apply below_alloc | apply pw_below_drewN | apply below_drew1) | exact HB.out)) hb); clear HB; have HB := n0_; clear n0_; (try clear hb); (try clear hb2); (try clear hk); (try clear hi)) | ((with_reducible refine gate_callee (f := 12) rfl ?_); refine goesL_ (some 15) rfl rfl Tryd.func12 (by kernel_rfl) rfl #[.slice A0 l0.length c0] rfl (by (try simp only [List.map_toArray, List.map_cons, List.map_nil]); first | done | rfl | (simp only [List.length_drop, List.length_take]; rfl)) ?_; (with_reducible refine (tinderlaw19_copied.calls _ _ l0 t4002 _ ?side1 ?side2 A6.out).mono ?_); (case side1 => repeat (first | exact (Kd.C_below HR0.out HB.out) | (with_reducible refine Kd.C_alloc ?_ _) | (with_reducible refine Kd.C_drewN ?_ _) | (with_reducible refine Kd.C_drew ?_))); (case side2 => exact HC0.out); rintro e w32 ⟨v4003, rfl, ho0, hb⟩; refine ⟨_, rfl, ?_⟩; have n0_ := Aside0.mk (Kd.R_lower ho0 (below_size (by repeat (first | (with_reducible first | exact HB.out | apply below_alloc | apply pw_below_drewN | apply below_drew1) | exact HB.out)))); have n1_ := Aside0.mk (below_step (by repeat (first | (with_reducible first | exact HB.out | apply below_alloc | apply pw_below_drewN | apply below_drew1) | exact HB.out)) hb); clear HB; have HO4004 := n0_; have HB := n1_; clear n0_ n1_; (try clear hb); (try clear hb2); (try clear hk); (try clear hi); (try clear ho0); obtain ⟨Ao33, co33, eo33⟩ := Kd.R_slice HO4004.out; subst eo33) | ((with_reducible refine gate_callee (f := 13) rfl ?_); refine goesL_ (some 20) rfl rfl Tryd.func13 (by kernel_rfl) rfl #[.slice Ao33 t4002.length co33, .string a1, .string a2] rfl (by (try simp only [List.map_toArray, List.map_cons, List.map_nil]); first | done | rfl | (simp only [List.length_drop, List.length_take]; rfl)) ?_; (with_reducible refine (vars_Set.calls k _ _ t4002 a1 a2 t4005 t4006 _ (Tabs.below ht (by repeat (first | (with_reducible first | exact HB.out | apply below_alloc | apply pw_below_drewN | apply below_drew1 | refine below_set ?_ (Aside0.out (by assumption))) | exact HB.out))) ?side1 ?side2 A7.out).mono ?_); (case side1 => repeat (first | exact (Kd.R_reads' HO4004.out).2.2 | (with_reducible refine Kd.C_alloc ?_ _) | (with_reducible refine Kd.C_drewN ?_ _) | (with_reducible refine Kd.C_drew ?_))); (case side2 => exact (Kd.R_reads' HO4004.out).2.1); rintro e w34 ⟨v4007, rfl, ho0, hb⟩; refine ⟨_, rfl, ?_⟩; have n0_ := Aside0.mk (Kd.R_elder' (by (with_reducible repeat (first | apply Kd.R_alloc | apply Kd.R_drewN | apply Kd.R_drew)); exact HO4004.out) (Kd.R_base ho0) hb); have n1_ := Aside0.mk (Kd.R_lower (Kd.R_new' ho0 (Kd.R_lt (by (with_reducible repeat (first | apply Kd.R_alloc | apply Kd.R_drewN | apply Kd.R_drew)); exact HO4004.out))) (below_size (by repeat (first | (with_reducible first | exact HB.out | apply below_alloc | apply pw_below_drewN | apply below_drew1) | exact HB.out)))); have n2_ := Aside0.mk (below_step (by repeat (first | (with_reducible first | exact HB.out | apply below_alloc | apply pw_below_drewN | apply below_drew1) | exact HB.out)) hb); clear HO4004; clear HB; have HO4004 := n0_; have HO4008 := n1_; have HB := n2_; clear n0_ n1_ n2_; (try clear hb); (try clear hb2); (try clear hk); (try clear hi); (try clear ho0)) | ((with_reducible refine gate_callee (f := 14) rfl ?_); refine goesL_ (some 27) rfl rfl Tryd.func14 (by kernel_rfl) rfl #[.slice A0 l0.length c0, .string a1, .string a2] rfl (by (try simp only [List.map_toArray, List.map_cons, List.map_nil]); first | done | rfl | (simp only [List.length_drop, List.length_take]; rfl)) ?_; (with_reducible refine (tinderref19_Set.calls k _ _ l0 a1 a2 t4009 t4010 _ ?side1 ?side2 A8.out).mono ?_); (case side1 => repeat (first | exact (Kd.C_below HR0.out HB.out) | (with_reducible refine Kd.C_alloc ?_ _) | (with_reducible refine Kd.C_drewN ?_ _) | (with_reducible refine Kd.C_drew ?_))); (case side2 => exact HC0.out); rintro e w35 ⟨v4011, rfl, ho0, hb⟩; refine ⟨_, rfl, ?_⟩; have n0_ := Aside0.mk (Kd.R_elder' (by (with_reducible repeat (first | apply Kd.R_alloc | apply Kd.R_drewN | apply Kd.R_drew)); exact HO4004.out) (Kd.R_base ho0) hb); have n1_ := Aside0.mk (Kd.R_elder' (by (with_reducible repeat (first | apply Kd.R_alloc | apply Kd.R_drewN | apply Kd.R_drew)); exact HO4008.out) (Kd.R_base ho0) hb); have n2_ := Aside0.mk (Kd.R_lower (Kd.R_new' (Kd.R_new' ho0 (Kd.R_lt (by (with_reducible repeat (first | apply Kd.R_alloc | apply Kd.R_drewN | apply Kd.R_drew)); exact HO4004.out))) (Kd.R_lt (by (with_reducible repeat (first | apply Kd.R_alloc | apply Kd.R_drewN | apply Kd.R_drew)); exact HO4008.out))) (below_size (by repeat (first | (with_reducible first | exact HB.out | apply below_alloc | apply pw_below_drewN | apply below_drew1) | exact HB.out)))); have n3_ := Aside0.mk (below_step (by repeat (first | (with_reducible first | exact HB.out | apply below_alloc | apply pw_below_drewN | apply below_drew1) | exact HB.out)) hb); clear HO4004; clear HO4008; clear HB; have HO4004 := n0_; have HO4008 := n1_; have HO4012 := n2_; have HB := n3_; clear n0_ n1_ n2_ n3_; (try clear hb); (try clear hb2); (try clear hk); (try clear hi); (try clear ho0); obtain ⟨Ao36, co36, eo36⟩ := Kd.R_slice HO4008.out; subst eo36; obtain ⟨Ao37, co37, eo37⟩ := Kd.R_slice HO4012.out; subst eo37) | ((with_reducible refine gate_callee (f := 15) rfl ?_); refine goesL_ (some 32) rfl rfl Tryd.func15 (by kernel_rfl) rfl #[.slice Ao36 t4005.length co36, .slice Ao37 t4009.length co37] rfl (by (try simp only [List.map_toArray, List.map_cons, List.map_nil]); first | done | rfl | (simp only [List.length_drop, List.length_take]; rfl)) ?_; (with_reducible refine (tinderref19_Same.calls k _ _ t4005 _ _ t4009 true _ ?side1 ?side2 ?side3 ?side4 A9.out).mono ?_); (case side1 => repeat (first | exact (Kd.R_reads' HO4008.out).2.2 | (with_reducible refine Kd.C_alloc ?_ _) | (with_reducible refine Kd.C_drewN ?_ _) | (with_reducible refine Kd.C_drew ?_))); (case side2 => exact (Kd.R_reads' HO4008.out).2.1); (case side3 => repeat (first | exact (Kd.R_reads' HO4012.out).2.2 | (with_reducible refine Kd.C_alloc ?_ _) | (with_reducible refine Kd.C_drewN ?_ _) | (with_reducible refine Kd.C_drew ?_))); (case side4 => exact (Kd.R_reads' HO4012.out).2.1); rintro e w' ⟨rfl, ⟨nd, rfl⟩⟩; refine ⟨_, rfl, ?_⟩) | (go_at_call 15; (with_reducible refine (tinderref19_Same.calls k _ _ t4002 _ _ l0 false _ ?side1 ?side2 ?side3 ?side4 A12.out).mono ?_); (case side1 => repeat (first | exact (Kd.R_reads' HO4004.out).2.2 | (with_reducible refine Kd.C_alloc ?_ _) | (with_reducible refine Kd.C_drewN ?_ _) | (with_reducible refine Kd.C_drew ?_))); (case side2 => exact (Kd.R_reads' HO4004.out).2.1); (case side3 => repeat (first | exact (Kd.C_below HR0.out (by repeat (first | (with_reducible first | exact HB.out | apply below_alloc | apply pw_below_drewN | apply below_drew1) | exact HB.out))) | (with_reducible refine Kd.C_alloc ?_ _) | (with_reducible refine Kd.C_drewN ?_ _) | (with_reducible refine Kd.C_drew ?_))); (case side4 => exact HC0.out); rintro e w' ⟨rfl, ⟨nd, rfl⟩⟩))
          go_ret
          exact ⟨by first | rfl | (simp [errW_none, errW_some] <;> rfl) | (simp [*, errW_none, errW_some] <;> rfl), by repeat (first | (with_reducible first | exact HB.out | apply below_alloc | apply pw_below_drewN | apply below_drew1) | exact HB.out)⟩
      · rw [if_neg c11] at H
        have c11b0 : (t4006 == t4010) = false := beq_eq_false_iff_ne.mpr c11
        have c11b1 : (t4006 != t4010) = true := bne_iff_ne.mpr c11
        obtain rfl := Option.some.inj H
        go_enter Tryd.func3, Tryd.ntmps3
        go_wp2_with (first | ((with_reducible refine gate_callee (f := 11) rfl ?_); refine goesL_ (some 12) rfl rfl Tryd.func11 (by kernel_rfl) rfl #[] rfl (by (try simp only [List.map_toArray, List.map_cons, List.map_nil]); first | done | rfl | (simp only [List.length_drop, List.length_take]; rfl)) ?_; (with_reducible refine (tinderlaw19_alive.calls  true _ ht A4.out).mono ?_); rintro e w38 ⟨rfl, hb⟩; refine ⟨_, rfl, ?_⟩; have n0_ := Aside0.mk (below_step (by repeat (first | (with_reducible first | exact HB.out | apply below_alloc | apply pw_below_drewN | apply below_drew1) | exact HB.out)) hb); clear HB; have HB := n0_; clear n0_; (try clear hb); (try clear hb2); (try clear hk); (try clear hi)) | ((with_reducible refine gate_callee (f := 12) rfl ?_); refine goesL_ (some 15) rfl rfl Tryd.func12 (by kernel_rfl) rfl #[.slice A0 l0.length c0] rfl (by (try simp only [List.map_toArray, List.map_cons, List.map_nil]); first | done | rfl | (simp only [List.length_drop, List.length_take]; rfl)) ?_; (with_reducible refine (tinderlaw19_copied.calls _ _ l0 t4002 _ ?side1 ?side2 A6.out).mono ?_); (case side1 => repeat (first | exact (Kd.C_below HR0.out HB.out) | (with_reducible refine Kd.C_alloc ?_ _) | (with_reducible refine Kd.C_drewN ?_ _) | (with_reducible refine Kd.C_drew ?_))); (case side2 => exact HC0.out); rintro e w39 ⟨v4003, rfl, ho0, hb⟩; refine ⟨_, rfl, ?_⟩; have n0_ := Aside0.mk (Kd.R_lower ho0 (below_size (by repeat (first | (with_reducible first | exact HB.out | apply below_alloc | apply pw_below_drewN | apply below_drew1) | exact HB.out)))); have n1_ := Aside0.mk (below_step (by repeat (first | (with_reducible first | exact HB.out | apply below_alloc | apply pw_below_drewN | apply below_drew1) | exact HB.out)) hb); clear HB; have HO4004 := n0_; have HB := n1_; clear n0_ n1_; (try clear hb); (try clear hb2); (try clear hk); (try clear hi); (try clear ho0); obtain ⟨Ao40, co40, eo40⟩ := Kd.R_slice HO4004.out; subst eo40) | ((with_reducible refine gate_callee (f := 13) rfl ?_); refine goesL_ (some 20) rfl rfl Tryd.func13 (by kernel_rfl) rfl #[.slice Ao40 t4002.length co40, .string a1, .string a2] rfl (by (try simp only [List.map_toArray, List.map_cons, List.map_nil]); first | done | rfl | (simp only [List.length_drop, List.length_take]; rfl)) ?_; (with_reducible refine (vars_Set.calls k _ _ t4002 a1 a2 t4005 t4006 _ (Tabs.below ht (by repeat (first | (with_reducible first | exact HB.out | apply below_alloc | apply pw_below_drewN | apply below_drew1 | refine below_set ?_ (Aside0.out (by assumption))) | exact HB.out))) ?side1 ?side2 A7.out).mono ?_); (case side1 => repeat (first | exact (Kd.R_reads' HO4004.out).2.2 | (with_reducible refine Kd.C_alloc ?_ _) | (with_reducible refine Kd.C_drewN ?_ _) | (with_reducible refine Kd.C_drew ?_))); (case side2 => exact (Kd.R_reads' HO4004.out).2.1); rintro e w41 ⟨v4007, rfl, ho0, hb⟩; refine ⟨_, rfl, ?_⟩; have n0_ := Aside0.mk (Kd.R_elder' (by (with_reducible repeat (first | apply Kd.R_alloc | apply Kd.R_drewN | apply Kd.R_drew)); exact HO4004.out) (Kd.R_base ho0) hb); have n1_ := Aside0.mk (Kd.R_lower (Kd.R_new' ho0 (Kd.R_lt (by (with_reducible repeat (first | apply Kd.R_alloc | apply Kd.R_drewN | apply Kd.R_drew)); exact HO4004.out))) (below_size (by repeat (first | (with_reducible first | exact HB.out | apply below_alloc | apply pw_below_drewN | apply below_drew1) | exact HB.out)))); have n2_ := Aside0.mk (below_step (by repeat (first | (with_reducible first | exact HB.out | apply below_alloc | apply pw_below_drewN | apply below_drew1) | exact HB.out)) hb); clear HO4004; clear HB; have HO4004 := n0_; have HO4008 := n1_; have HB := n2_; clear n0_ n1_ n2_; (try clear hb); (try clear hb2); (try clear hk); (try clear hi); (try clear ho0)) | ((with_reducible refine gate_callee (f := 14) rfl ?_); refine goesL_ (some 27) rfl rfl Tryd.func14 (by kernel_rfl) rfl #[.slice A0 l0.length c0, .string a1, .string a2] rfl (by (try simp only [List.map_toArray, List.map_cons, List.map_nil]); first | done | rfl | (simp only [List.length_drop, List.length_take]; rfl)) ?_; (with_reducible refine (tinderref19_Set.calls k _ _ l0 a1 a2 t4009 t4010 _ ?side1 ?side2 A8.out).mono ?_); (case side1 => repeat (first | exact (Kd.C_below HR0.out HB.out) | (with_reducible refine Kd.C_alloc ?_ _) | (with_reducible refine Kd.C_drewN ?_ _) | (with_reducible refine Kd.C_drew ?_))); (case side2 => exact HC0.out); rintro e w42 ⟨v4011, rfl, ho0, hb⟩; refine ⟨_, rfl, ?_⟩; have n0_ := Aside0.mk (Kd.R_elder' (by (with_reducible repeat (first | apply Kd.R_alloc | apply Kd.R_drewN | apply Kd.R_drew)); exact HO4004.out) (Kd.R_base ho0) hb); have n1_ := Aside0.mk (Kd.R_elder' (by (with_reducible repeat (first | apply Kd.R_alloc | apply Kd.R_drewN | apply Kd.R_drew)); exact HO4008.out) (Kd.R_base ho0) hb); have n2_ := Aside0.mk (Kd.R_lower (Kd.R_new' (Kd.R_new' ho0 (Kd.R_lt (by (with_reducible repeat (first | apply Kd.R_alloc | apply Kd.R_drewN | apply Kd.R_drew)); exact HO4004.out))) (Kd.R_lt (by (with_reducible repeat (first | apply Kd.R_alloc | apply Kd.R_drewN | apply Kd.R_drew)); exact HO4008.out))) (below_size (by repeat (first | (with_reducible first | exact HB.out | apply below_alloc | apply pw_below_drewN | apply below_drew1) | exact HB.out)))); have n3_ := Aside0.mk (below_step (by repeat (first | (with_reducible first | exact HB.out | apply below_alloc | apply pw_below_drewN | apply below_drew1) | exact HB.out)) hb); clear HO4004; clear HO4008; clear HB; have HO4004 := n0_; have HO4008 := n1_; have HO4012 := n2_; have HB := n3_; clear n0_ n1_ n2_ n3_; (try clear hb); (try clear hb2); (try clear hk); (try clear hi); (try clear ho0); obtain ⟨Ao43, co43, eo43⟩ := Kd.R_slice HO4008.out; subst eo43; obtain ⟨Ao44, co44, eo44⟩ := Kd.R_slice HO4012.out; subst eo44) | ((with_reducible refine gate_callee (f := 15) rfl ?_); refine goesL_ (some 32) rfl rfl Tryd.func15 (by kernel_rfl) rfl #[.slice Ao43 t4005.length co43, .slice Ao44 t4009.length co44] rfl (by (try simp only [List.map_toArray, List.map_cons, List.map_nil]); first | done | rfl | (simp only [List.length_drop, List.length_take]; rfl)) ?_; (with_reducible refine (tinderref19_Same.calls k _ _ t4005 _ _ t4009 true _ ?side1 ?side2 ?side3 ?side4 A9.out).mono ?_); (case side1 => repeat (first | exact (Kd.R_reads' HO4008.out).2.2 | (with_reducible refine Kd.C_alloc ?_ _) | (with_reducible refine Kd.C_drewN ?_ _) | (with_reducible refine Kd.C_drew ?_))); (case side2 => exact (Kd.R_reads' HO4008.out).2.1); (case side3 => repeat (first | exact (Kd.R_reads' HO4012.out).2.2 | (with_reducible refine Kd.C_alloc ?_ _) | (with_reducible refine Kd.C_drewN ?_ _) | (with_reducible refine Kd.C_drew ?_))); (case side4 => exact (Kd.R_reads' HO4012.out).2.1); rintro e w' ⟨rfl, ⟨nd, rfl⟩⟩; refine ⟨_, rfl, ?_⟩))
        go_ret
        exact ⟨by first | rfl | (simp [errW_none, errW_some] <;> rfl) | (simp [*, errW_none, errW_some] <;> rfl), by repeat (first | (with_reducible first | exact HB.out | apply below_alloc | apply pw_below_drewN | apply below_drew1) | exact HB.out)⟩
    · replace c10 := Bool.eq_false_iff.mpr c10
      subst c10
      have H1 : (some false) = some r := by rw [if_neg (show ¬ (false = true) by decide)] at H; exact H
      clear H
      have H := H1
      clear H1
      obtain rfl := Option.some.inj H
      go_enter Tryd.func3, Tryd.ntmps3
      go_wp2_with (first | ((with_reducible refine gate_callee (f := 11) rfl ?_); refine goesL_ (some 12) rfl rfl Tryd.func11 (by kernel_rfl) rfl #[] rfl (by (try simp only [List.map_toArray, List.map_cons, List.map_nil]); first | done | rfl | (simp only [List.length_drop, List.length_take]; rfl)) ?_; (with_reducible refine (tinderlaw19_alive.calls  true _ ht A4.out).mono ?_); rintro e w45 ⟨rfl, hb⟩; refine ⟨_, rfl, ?_⟩; have n0_ := Aside0.mk (below_step (by repeat (first | (with_reducible first | exact HB.out | apply below_alloc | apply pw_below_drewN | apply below_drew1) | exact HB.out)) hb); clear HB; have HB := n0_; clear n0_; (try clear hb); (try clear hb2); (try clear hk); (try clear hi)) | ((with_reducible refine gate_callee (f := 12) rfl ?_); refine goesL_ (some 15) rfl rfl Tryd.func12 (by kernel_rfl) rfl #[.slice A0 l0.length c0] rfl (by (try simp only [List.map_toArray, List.map_cons, List.map_nil]); first | done | rfl | (simp only [List.length_drop, List.length_take]; rfl)) ?_; (with_reducible refine (tinderlaw19_copied.calls _ _ l0 t4002 _ ?side1 ?side2 A6.out).mono ?_); (case side1 => repeat (first | exact (Kd.C_below HR0.out HB.out) | (with_reducible refine Kd.C_alloc ?_ _) | (with_reducible refine Kd.C_drewN ?_ _) | (with_reducible refine Kd.C_drew ?_))); (case side2 => exact HC0.out); rintro e w46 ⟨v4003, rfl, ho0, hb⟩; refine ⟨_, rfl, ?_⟩; have n0_ := Aside0.mk (Kd.R_lower ho0 (below_size (by repeat (first | (with_reducible first | exact HB.out | apply below_alloc | apply pw_below_drewN | apply below_drew1) | exact HB.out)))); have n1_ := Aside0.mk (below_step (by repeat (first | (with_reducible first | exact HB.out | apply below_alloc | apply pw_below_drewN | apply below_drew1) | exact HB.out)) hb); clear HB; have HO4004 := n0_; have HB := n1_; clear n0_ n1_; (try clear hb); (try clear hb2); (try clear hk); (try clear hi); (try clear ho0); obtain ⟨Ao47, co47, eo47⟩ := Kd.R_slice HO4004.out; subst eo47) | ((with_reducible refine gate_callee (f := 13) rfl ?_); refine goesL_ (some 20) rfl rfl Tryd.func13 (by kernel_rfl) rfl #[.slice Ao47 t4002.length co47, .string a1, .string a2] rfl (by (try simp only [List.map_toArray, List.map_cons, List.map_nil]); first | done | rfl | (simp only [List.length_drop, List.length_take]; rfl)) ?_; (with_reducible refine (vars_Set.calls k _ _ t4002 a1 a2 t4005 t4006 _ (Tabs.below ht (by repeat (first | (with_reducible first | exact HB.out | apply below_alloc | apply pw_below_drewN | apply below_drew1 | refine below_set ?_ (Aside0.out (by assumption))) | exact HB.out))) ?side1 ?side2 A7.out).mono ?_); (case side1 => repeat (first | exact (Kd.R_reads' HO4004.out).2.2 | (with_reducible refine Kd.C_alloc ?_ _) | (with_reducible refine Kd.C_drewN ?_ _) | (with_reducible refine Kd.C_drew ?_))); (case side2 => exact (Kd.R_reads' HO4004.out).2.1); rintro e w48 ⟨v4007, rfl, ho0, hb⟩; refine ⟨_, rfl, ?_⟩; have n0_ := Aside0.mk (Kd.R_elder' (by (with_reducible repeat (first | apply Kd.R_alloc | apply Kd.R_drewN | apply Kd.R_drew)); exact HO4004.out) (Kd.R_base ho0) hb); have n1_ := Aside0.mk (Kd.R_lower (Kd.R_new' ho0 (Kd.R_lt (by (with_reducible repeat (first | apply Kd.R_alloc | apply Kd.R_drewN | apply Kd.R_drew)); exact HO4004.out))) (below_size (by repeat (first | (with_reducible first | exact HB.out | apply below_alloc | apply pw_below_drewN | apply below_drew1) | exact HB.out)))); have n2_ := Aside0.mk (below_step (by repeat (first | (with_reducible first | exact HB.out | apply below_alloc | apply pw_below_drewN | apply below_drew1) | exact HB.out)) hb); clear HO4004; clear HB; have HO4004 := n0_; have HO4008 := n1_; have HB := n2_; clear n0_ n1_ n2_; (try clear hb); (try clear hb2); (try clear hk); (try clear hi); (try clear ho0)) | ((with_reducible refine gate_callee (f := 14) rfl ?_); refine goesL_ (some 27) rfl rfl Tryd.func14 (by kernel_rfl) rfl #[.slice A0 l0.length c0, .string a1, .string a2] rfl (by (try simp only [List.map_toArray, List.map_cons, List.map_nil]); first | done | rfl | (simp only [List.length_drop, List.length_take]; rfl)) ?_; (with_reducible refine (tinderref19_Set.calls k _ _ l0 a1 a2 t4009 t4010 _ ?side1 ?side2 A8.out).mono ?_); (case side1 => repeat (first | exact (Kd.C_below HR0.out HB.out) | (with_reducible refine Kd.C_alloc ?_ _) | (with_reducible refine Kd.C_drewN ?_ _) | (with_reducible refine Kd.C_drew ?_))); (case side2 => exact HC0.out); rintro e w49 ⟨v4011, rfl, ho0, hb⟩; refine ⟨_, rfl, ?_⟩; have n0_ := Aside0.mk (Kd.R_elder' (by (with_reducible repeat (first | apply Kd.R_alloc | apply Kd.R_drewN | apply Kd.R_drew)); exact HO4004.out) (Kd.R_base ho0) hb); have n1_ := Aside0.mk (Kd.R_elder' (by (with_reducible repeat (first | apply Kd.R_alloc | apply Kd.R_drewN | apply Kd.R_drew)); exact HO4008.out) (Kd.R_base ho0) hb); have n2_ := Aside0.mk (Kd.R_lower (Kd.R_new' (Kd.R_new' ho0 (Kd.R_lt (by (with_reducible repeat (first | apply Kd.R_alloc | apply Kd.R_drewN | apply Kd.R_drew)); exact HO4004.out))) (Kd.R_lt (by (with_reducible repeat (first | apply Kd.R_alloc | apply Kd.R_drewN | apply Kd.R_drew)); exact HO4008.out))) (below_size (by repeat (first | (with_reducible first | exact HB.out | apply below_alloc | apply pw_below_drewN | apply below_drew1) | exact HB.out)))); have n3_ := Aside0.mk (below_step (by repeat (first | (with_reducible first | exact HB.out | apply below_alloc | apply pw_below_drewN | apply below_drew1) | exact HB.out)) hb); clear HO4004; clear HO4008; clear HB; have HO4004 := n0_; have HO4008 := n1_; have HO4012 := n2_; have HB := n3_; clear n0_ n1_ n2_ n3_; (try clear hb); (try clear hb2); (try clear hk); (try clear hi); (try clear ho0); obtain ⟨Ao50, co50, eo50⟩ := Kd.R_slice HO4008.out; subst eo50; obtain ⟨Ao51, co51, eo51⟩ := Kd.R_slice HO4012.out; subst eo51) | ((with_reducible refine gate_callee (f := 15) rfl ?_); refine goesL_ (some 32) rfl rfl Tryd.func15 (by kernel_rfl) rfl #[.slice Ao50 t4005.length co50, .slice Ao51 t4009.length co51] rfl (by (try simp only [List.map_toArray, List.map_cons, List.map_nil]); first | done | rfl | (simp only [List.length_drop, List.length_take]; rfl)) ?_; (with_reducible refine (tinderref19_Same.calls k _ _ t4005 _ _ t4009 false _ ?side1 ?side2 ?side3 ?side4 A9.out).mono ?_); (case side1 => repeat (first | exact (Kd.R_reads' HO4008.out).2.2 | (with_reducible refine Kd.C_alloc ?_ _) | (with_reducible refine Kd.C_drewN ?_ _) | (with_reducible refine Kd.C_drew ?_))); (case side2 => exact (Kd.R_reads' HO4008.out).2.1); (case side3 => repeat (first | exact (Kd.R_reads' HO4012.out).2.2 | (with_reducible refine Kd.C_alloc ?_ _) | (with_reducible refine Kd.C_drewN ?_ _) | (with_reducible refine Kd.C_drew ?_))); (case side4 => exact (Kd.R_reads' HO4012.out).2.1); rintro e w' ⟨rfl, ⟨nd, rfl⟩⟩; refine ⟨_, rfl, ?_⟩))
      go_ret
      exact ⟨by first | rfl | (simp [errW_none, errW_some] <;> rfl) | (simp [*, errW_none, errW_some] <;> rfl), by repeat (first | (with_reducible first | exact HB.out | apply below_alloc | apply pw_below_drewN | apply below_drew1) | exact HB.out)⟩
  · replace c5 := Bool.eq_false_iff.mpr c5
    subst c5
    have H1 : (some false) = some r := by rw [if_neg (show ¬ (false = true) by decide)] at H; exact H
    clear H
    have H := H1
    clear H1
    obtain rfl := Option.some.inj H
    go_enter Tryd.func3, Tryd.ntmps3
    go_wp2_with (first | ((with_reducible refine gate_callee (f := 11) rfl ?_); refine goesL_ (some 12) rfl rfl Tryd.func11 (by kernel_rfl) rfl #[] rfl (by (try simp only [List.map_toArray, List.map_cons, List.map_nil]); first | done | rfl | (simp only [List.length_drop, List.length_take]; rfl)) ?_; (with_reducible refine (tinderlaw19_alive.calls  false _ ht A4.out).mono ?_); rintro e w52 ⟨rfl, hb⟩; refine ⟨_, rfl, ?_⟩; have n0_ := Aside0.mk (below_step (by repeat (first | (with_reducible first | exact HB.out | apply below_alloc | apply pw_below_drewN | apply below_drew1) | exact HB.out)) hb); clear HB; have HB := n0_; clear n0_; (try clear hb); (try clear hb2); (try clear hk); (try clear hi)))
    go_ret
    exact ⟨by first | rfl | (simp [errW_none, errW_some] <;> rfl) | (simp [*, errW_none, errW_some] <;> rfl), by repeat (first | (with_reducible first | exact HB.out | apply below_alloc | apply pw_below_drewN | apply below_drew1) | exact HB.out)⟩

end Go.Proofs.YtefhngadeimklaaDoor.Q
end
section
set_option linter.unusedSimpArgs false
set_option linter.unusedVariables false
namespace Go.Proofs.YtefhngadeimklaaDoor.Q
open Go.RowKit Go.Proofs.YtefhngadeimklaaDoorW.PrintWords Go.Proofs.YtefhngadeimklaaDoorW.PrintLast
theorem same19s_go (l : List S40) (hl : l.length < 1125899906842624) : ∀ (d k : Nat) (i : Int), 0 ≤ i → i + d = l.length → d < k → tinderref19_Same.l0 k l l i = some true
  | 0, k, i, h0, h1, hk => by
    obtain ⟨k, rfl⟩ : ∃ m, k = m + 1 := ⟨k - 1, by omega⟩
    rw [tinderref19_Same.l0, if_neg (by omega)]
  | d + 1, k, i, h0, h1, hk => by
    obtain ⟨k, rfl⟩ : ∃ m, k = m + 1 := ⟨k - 1, by omega⟩
    have hw : wrap64 (i + 1) = i + 1 := by unfold wrap64; omega
    rw [tinderref19_Same.l0, if_pos (by omega), if_pos h0, if_pos (by omega), if_neg (by simp), hw]
    exact same19s_go l hl d k (i + 1) (by omega) (by omega) (by omega)
theorem same19s (l : List S40) (hl : l.length < 1125899906842624) (k : Nat) (hk : l.length < k) : tinderref19_Same.f k l l = some true := by
  unfold tinderref19_Same.f
  rw [if_pos rfl]
  exact same19s_go l hl l.length k 0 (Int.le_refl _) (by omega) hk
theorem right_len : ∀ (l : List S40) (last : Int), last ≤ 8 → rightL l last = true → (l.length : Int) ≤ 8 - last
  | [], last, h0, _ => by simp; omega
  | x :: r, last, h0, h => by
    obtain ⟨h1, h2⟩ := right_cons h
    have hk := okV_known h1
    have hr := fndF_range x.f0
    have ih := right_len r _ (by omega) h2
    rw [List.length_cons]
    omega
theorem set_eq (l : List S40) (s v : ByteArray) (hf : Fits l) (hl : l.length < 1125899906842624) (hv : v.size ≤ 140737488351232) (k : Nat) (hk : l.length + 140737488351400 < k) : vars_Set.f k l s v = some (setF l s v) := by
  unfold vars_Set.f setF
  rw [right_eq l hf hl k hk, Option.bind_some, form_eq k s v hv (by omega), Option.bind_some, find_eq k (by omega), Option.bind_some]
  by_cases h1 : rightF l = true
  · rw [if_pos h1, if_pos h1]
    by_cases h2 : (formF s v).2 = 0
    · have h3 := (formF_ok h2).1
      have h4 := right_len l _ (by decide) h1
      rw [if_pos h2, if_pos h2, if_pos (by omega), fndR, if_pos h3]
      split <;> rfl
    · rw [if_neg h2, if_neg h2]
  · rw [if_neg h1, if_neg h1]
def gvF (l : List S40) (a : ByteArray) : ByteArray := if 0 ≤ idxN a l then (rd_T40 l (idxN a l)).f1 else (defF a).1
theorem value_eq (l : List S40) (a : ByteArray) (k : Nat) (hl : l.length < 1125899906842624) (hk : l.length + 20 < k) : tinderref19_value.f k l a = some (gvF l a) := by
  unfold tinderref19_value.f gvF
  rw [value_go a l l.length k 0 (Int.le_refl _) (by omega) hl hk]
  rfl
theorem gvF_cons (x : S40) (r : List S40) (a : ByteArray) : gvF (x :: r) a = if x.f0.toList = a.toList then x.f1 else gvF r a := by
  have hr := idxN_range a r
  unfold gvF
  rw [idxN]
  by_cases he : x.f0.toList = a.toList
  · rw [if_pos he, if_pos he, if_pos (by decide)]
    rfl
  · rw [if_neg he, if_neg he]
    by_cases hn : idxN a r < 0
    · rw [if_pos hn, if_neg (by decide), if_neg (by omega)]
    · rw [if_neg hn, if_pos (by omega), if_pos (by omega)]
      unfold rd_T40
      rw [show (idxN a r + 1).toNat = (idxN a r).toNat + 1 by omega, List.getD_cons_succ]
theorem nm_iff (i : Int) (h : 0 ≤ i ∧ i < 9) (s : ByteArray) : (nmV i).toList = s.toList ↔ fndF s = i := by
  refine ⟨fun e => by rw [← fndF_congr e, fnd_nm i h], fun e => ?_⟩
  rw [← e, nm_fnd s (by omega)]
theorem okV_value {last : Int} {x : S40} (h : okV last x = true) : ¬ x.f1.toList = (stV (fndF x.f0)).toList := by
  simp only [okV, Bool.and_eq_true, decide_eq_true_eq, Bool.not_eq_true', decide_eq_false_iff_not] at h
  rw [← h.1.2]
  exact h.2
theorem piece_eq (i : Int) (hi : 0 ≤ i ∧ i < 9) : ∀ (l : List S40) (last : Int), rightL l last = true → (if (gvF l (nmV i)).toList = (stV i).toList then [] else [(⟨nmV i, gvF l (nmV i)⟩ : S40)]) = l.filter (fun y => decide (fndF y.f0 = i))
  | [], _, _ => by
    have e : gvF [] (nmV i) = stV i := by
      unfold gvF
      rw [if_neg (by rw [idxN]; decide), defF, fnd_nm i hi, if_pos hi.1]
    rw [e, if_pos rfl]
    rfl
  | x :: r, last, h => by
    obtain ⟨h1, h2⟩ := right_cons h
    have ih := piece_eq i hi r _ h2
    have ha := right_all r _ h2
    rw [gvF_cons, List.filter_cons]
    by_cases he : fndF x.f0 = i
    · have e2 : x.f0.toList = (nmV i).toList := ((nm_iff i hi x.f0).2 he).symm
      have e3 : ¬ x.f1.toList = (stV i).toList := by rw [← he]; exact okV_value h1
      rw [if_pos e2, if_neg e3, if_pos (by simpa using he), filter_none (fun y hy => by have := ha y hy; simp; omega)]
      congr 1
      rw [← B_ext e2]
    · rw [if_neg (show ¬ x.f0.toList = (nmV i).toList from fun e => he ((nm_iff i hi x.f0).1 e.symm)), if_neg (show ¬ decide (fndF x.f0 = i) = true by simpa using he)]
      exact ih
/-- Those from a on, ahead of b. -/
def midV (a b : Int) (l : List S40) : List S40 := l.filter fun y => decide (a ≤ fndF y.f0) && decide (fndF y.f0 < b)
theorem mid_step (a b : Int) (hab : a < b) : ∀ (l : List S40) (last : Int), rightL l last = true → midV a b l = l.filter (fun y => decide (fndF y.f0 = a)) ++ midV (a + 1) b l
  | [], _, _ => rfl
  | x :: r, last, h => by
    obtain ⟨h1, h2⟩ := right_cons h
    have ih := mid_step a b hab r _ h2
    have ha := right_all r _ h2
    unfold midV at ih ⊢
    rw [List.filter_cons, List.filter_cons, List.filter_cons]
    rcases Int.lt_trichotomy (fndF x.f0) a with hc | hc | hc
    · rw [if_neg (by simp; omega), if_neg (by simp; omega), if_neg (by simp; omega)]
      exact ih
    · rw [if_pos (by simp; omega), if_pos (by simpa using hc), if_neg (by simp; omega), ih]
      rfl
    · have e1 : r.filter (fun y => decide (fndF y.f0 = a)) = [] := filter_none (fun y hy => by have := ha y hy; simp; omega)
      rw [if_neg (show ¬ decide (fndF x.f0 = a) = true by simp; omega), e1, List.nil_append]
      rw [e1, List.nil_append] at ih
      rw [ih]
      by_cases hb : fndF x.f0 < b
      · rw [if_pos (by simp; omega), if_pos (by simp; omega)]
      · rw [if_neg (by simp; omega), if_neg (by simp; omega)]
def refP (l : List S40) (s v : ByteArray) (i : Int) : List S40 := if (nmV i).toList = s.toList then (if v.toList = (stV i).toList then [] else [(⟨nmV i, v⟩ : S40)]) else (if (gvF l (nmV i)).toList = (stV i).toList then [] else [(⟨nmV i, gvF l (nmV i)⟩ : S40)])
def refL (l : List S40) (s v : ByteArray) : Nat → Int → List S40
  | 0, _ => []
  | d + 1, i => refP l s v i ++ refL l s v d (i + 1)
theorem refL_eq (l : List S40) (hr : rightF l = true) (s v : ByteArray) (hs : 0 ≤ fndF s) (M : List S40) (hM : M = if v.toList = (stV (fndF s)).toList then [] else [(⟨s, v⟩ : S40)]) : ∀ (d : Nat) (i : Int), 0 ≤ i → i + d = 9 → refL l s v d i = if fndF s < i then midV i 9 l else midV i (fndF s) l ++ (M ++ midV (fndF s + 1) 9 l)
  | 0, i, h0, h1 => by
    have hn := fndF_range s
    rw [if_pos (by omega), show i = 9 by omega]
    exact (filter_none (fun y hy => by simp)).symm
  | d + 1, i, h0, h1 => by
    have hn := fndF_range s
    have ih := refL_eq l hr s v hs M hM d (i + 1) (by omega) (by omega)
    have hp := piece_eq i ⟨h0, by omega⟩ l _ hr
    rw [refL, ih]
    rcases Int.lt_trichotomy (fndF s) i with hc | hc | hc
    · rw [if_pos hc, if_pos (by omega), refP, if_neg (fun e => by have := (nm_iff i ⟨h0, by omega⟩ s).1 e; omega), hp]
      exact (mid_step i 9 (by omega) l _ hr).symm
    · have hm : midV i (fndF s) l = [] := filter_none (fun y hy => by simp; omega)
      rw [if_pos (show fndF s < i + 1 by omega), if_neg (show ¬ fndF s < i by omega), hm, List.nil_append, refP, if_pos ((nm_iff i ⟨h0, by omega⟩ s).2 hc), hM, hc, show nmV i = s from by rw [← hc]; exact nm_fnd s hs]
    · rw [if_neg (by omega), if_neg (by omega), refP, if_neg (fun e => by have := (nm_iff i ⟨h0, by omega⟩ s).1 e; omega), hp, ← List.append_assoc]
      rw [← mid_step i (fndF s) hc l _ hr]
theorem names_at (i : Int) (h : 0 ≤ i ∧ i < 9) : rdOf ByteArray.empty namesL i = nmV i := by
  obtain h | h | h | h | h | h | h | h | h : i = 0 ∨ i = 1 ∨ i = 2 ∨ i = 3 ∨ i = 4 ∨ i = 5 ∨ i = 6 ∨ i = 7 ∨ i = 8 := by omega
  all_goals (subst h; kernel_rfl)
theorem names_len : (namesL.length : Int) = 9 := by kernel_rfl
theorem refset_go (l : List S40) (hl : l.length < 1125899906842624) (s v : ByteArray) : ∀ (d k : Nat) (i : Int) (acc : List S40), 0 ≤ i → i + d = 9 → acc.length + d ≤ 20 → l.length + 100 + d < k → tinderref19_Set.l0 k l s v acc namesL i = some (acc ++ refL l s v d i, 0)
  | 0, k, i, acc, h0, h1, h2, hk => by
    obtain ⟨k, rfl⟩ : ∃ m, k = m + 1 := ⟨k - 1, by omega⟩
    rw [tinderref19_Set.l0, names_len, if_neg (by omega), refL, List.append_nil]
  | d + 1, k, i, acc, h0, h1, h2, hk => by
    obtain ⟨k, rfl⟩ : ∃ m, k = m + 1 := ⟨k - 1, by omega⟩
    have hw : wrap64 (i + 1) = i + 1 := by unfold wrap64; omega
    have hd : defF (nmV i) = (stV i, 0) := by
      unfold defF
      rw [fnd_nm i ⟨h0, by omega⟩, if_pos h0]
    have ih := fun acc h => refset_go l hl s v d k (i + 1) acc (by omega) (by omega) h (by omega)
    rw [tinderref19_Set.l0, names_len, if_pos (by omega), if_pos h0, names_at i ⟨h0, by omega⟩, value_eq l _ k hl (by omega), Option.bind_some, refdefault_eq k (by omega), hd, hw, refL, refP]
    simp only [Option.bind_some]
    by_cases h3 : (nmV i).toList = s.toList
    · rw [if_pos h3, if_pos h3]
      by_cases h4 : v.toList = (stV i).toList
      · rw [if_pos h4, if_pos h4, ih acc (by omega)]
        rfl
      · rw [if_neg h4, if_neg h4, if_pos (by omega), ih _ (by simp; omega), List.append_assoc]
    · rw [if_neg h3, if_neg h3]
      by_cases h4 : (gvF l (nmV i)).toList = (stV i).toList
      · rw [if_pos h4, if_pos h4, ih acc (by omega)]
        rfl
      · rw [if_neg h4, if_neg h4, if_pos (by omega), ih _ (by simp; omega), List.append_assoc]
theorem refset_eq (l : List S40) (s v : ByteArray) (hf : Fits l) (hl : l.length < 1125899906842624) (hv : v.size ≤ 140737488351232) (k : Nat) (hk : l.length + 140737488351400 < k) : tinderref19_Set.f k l s v = some (setF l s v) := by
  have hn : tinderref19_Names.f k = some namesL := at_rounds (fun k => tinderref19_Names.mono k) (by omega) refnames_20
  unfold tinderref19_Set.f setF
  rw [refright_eq l hf hl k hk, Option.bind_some, refform_eq k s v hv (by omega), Option.bind_some, hn, Option.bind_some]
  by_cases h1 : rightF l = true
  · rw [if_pos h1, if_pos h1]
    by_cases h2 : (formF s v).2 = 0
    · have h3 := (formF_ok h2).1
      have hr := fndF_range s
      rw [if_pos h2, if_pos h2, refset_go l hl s _ 9 k 0 [] (Int.le_refl _) rfl (by decide) (by omega), List.nil_append, refL_eq l h1 s _ h3 _ rfl 9 0 (Int.le_refl _) rfl, if_neg (by omega)]
      have e1 : midV 0 (fndF s) l = preV (fndF s) l := List.filter_congr (fun y hy => by
        have h0 := rightL_mem l _ h1 y hy
        simp [h0])
      have e2 : midV (fndF s + 1) 9 l = sufV (fndF s) l := List.filter_congr (fun y hy => by
        have := fndF_range y.f0
        simp only [this.2, decide_true, Bool.and_true]
        exact decide_eq_decide.2 (by omega))
      rw [e1, e2, del_split s h3 l _ h1]
      by_cases h4 : (formF s v).1.toList = (stV (fndF s)).toList
      · rw [if_pos h4, if_pos h4]
        rfl
      · rw [if_neg h4, if_neg h4, ins_split _ _ _ _ preV_lt sufV_lt]
        rfl
    · rw [if_neg h2, if_neg h2]
  · rw [if_neg h1, if_neg h1]
theorem setF_small (l : List S40) (s v : ByteArray) : (setF l s v).1.length ≤ l.length + 1 := by
  unfold setF
  have h := delN_len s l
  split
  · split
    · split
      · show (delN s l).length ≤ _; omega
      · show (insS _ _ (delN s l)).length ≤ _
        rw [insS_eq]
        split
        · simp; omega
        · simp only [List.length_append, List.length_cons, List.length_take, List.length_drop]; omega
    · simp
  · simp
theorem form_size (kd : Int) (v : ByteArray) (hv : v.size ≤ 140737488351232) : (formV kd v).1.size ≤ 140737488351232 := by
  by_cases h0 : kd = 0
  · subst h0; rw [formV_0]; exact hv
  · by_cases h1 : kd = 1
    · subst h1
      rw [formV_1]
      split
      · have := showB_small 10 (parF v 10).1 (by decide) (par_range v 10 (by decide) (by omega))
        show (showB 10 (parF v 10).1).size ≤ _
        omega
      · show (⟨#[]⟩ : ByteArray).size ≤ _; decide
    · rw [formV_2 kd v h0 h1]
      split
      · exact hv
      · show (⟨#[]⟩ : ByteArray).size ≤ _; decide
theorem setF_fits (l : List S40) (hf : Fits l) (s v : ByteArray) (hs : s.size ≤ 140737488351232) (hv : v.size ≤ 140737488351232) : Fits (setF l s v).1 := by
  have hd : Fits (delN s l) := fun x hx => hf x (List.mem_filter.1 hx).1
  have hx : (formF s v).2 = 0 → (formF s v).1.size ≤ 140737488351232 := fun h => by
    rw [(formF_ok h).2.2]
    exact form_size _ v hv
  unfold setF
  split
  · split
    · rename_i h2
      split
      · exact hd
      · intro y hy
        have hy : y ∈ insS (fndF s) ⟨s, (formF s v).1⟩ (delN s l) := hy
        rw [insS_eq] at hy
        have key : y ∈ delN s l ∨ y = ⟨s, (formF s v).1⟩ := by
          split at hy
          · rcases List.mem_append.1 hy with h | h
            · exact .inl h
            · exact .inr (List.mem_singleton.1 h)
          · rcases List.mem_append.1 hy with h | h
            · exact .inl (List.mem_of_mem_take h)
            · rcases List.mem_cons.1 h with h | h
              · exact .inr h
              · exact .inl (List.mem_of_mem_drop h)
        rcases key with h | h
        · exact hd y h
        · subst h
          exact ⟨hs, hx h2⟩
    · intro y hy; cases hy
  · intro y hy; cases hy
theorem varsSets_row {w : World} (ht : Tabs w) (A : Option Addr) (c : Nat) (l : List S40) (hC : Kd.C k40 w A l.length l) (hc : l.length ≤ c) (hg : l.length * 32 ≤ 140737488351232 ∧ ∀ x ∈ l, x.f0.size ≤ 140737488351232 ∧ x.f1.size ≤ 140737488351232) (s : ByteArray) (hs : s.size ≤ 140737488351232) (v : ByteArray) (hv : v.size ≤ 140737488351232) :
    Calls Tryd.prog 3 #[.slice A l.length c, .string s, .string v] w fun e w' => e = .returned (.bool true) ∧ Below w.heap.size w w' := by
  refine tinderlaw19_VarsSets.calls (l.length + 140737488352000) A c l s v true w ht hC hc ?_
  have hf : Fits l := hg.2
  have hl : l.length < 1125899906842624 := by omega
  have hm := setF_small l s v
  have hmf := setF_fits l hf s v hs hv
  have hcp : tinderlaw19_copied.f l = some l := by
    unfold tinderlaw19_copied.f
    rw [if_pos (by simp; omega), List.nil_append]
  unfold tinderlaw19_VarsSets.f
  rw [tinderlaw19_alive.f, Option.bind_some, if_pos rfl, hcp, Option.bind_some, set_eq l s v hf hl hv _ (by omega), Option.bind_some, refset_eq l s v hf hl hv _ (by omega), Option.bind_some, same19s _ (by omega) _ (by omega), Option.bind_some, if_pos rfl, if_pos rfl, same19s l hl _ (by omega), Option.bind_some, if_pos rfl]
  by_cases h0 : (setF l s v).2 = 0
  · rw [if_pos h0, right_eq _ hmf (by omega) _ (by omega), Option.bind_some, setF_right l s v hv h0]
  · rw [if_neg h0]
end Go.Proofs.YtefhngadeimklaaDoor.Q
end
section
namespace Go.Proofs.YtefhngadeimklaaDoor.Q
open Go.RowKit Go.Proofs.YtefhngadeimklaaDoorW.PrintWords Go.Proofs.YtefhngadeimklaaDoorW.PrintLast Go.Proofs.YtefhngadeimklaaDoorW.PrintMore
def Opens {α : Type} (P : Program) (t : TypeId) (d : Kd α) (G : α → Prop) : Prop :=
  ∀ (H : Type) (enc : TypeId × Value → H) (W : World) (fuel : Nat) (cs : List Value) (x : DataW H × List MemPlace), DataW.trod enc P W 0 (fun _ => true) true fuel t cs = some x → (∀ n ∈ x.1.weights P t, n ≤ reachBytes) → ∃ a, d.K W a cs ∧ G a
section
variable {P : Program} {t e : TypeId}
theorem opens_string (ht : P.underlying t = some .string) : Opens P t Kd.string (fun s => s.size ≤ 140737488351232) := by
  intro H enc W fuel cs x h hw
  obtain ⟨s, rfl, rfl, _⟩ := DataW.trod_string ht h
  have := hw s.data.toList.length (by simp [DataW.weights])
  exact ⟨s, rfl, by simpa [reachBytes] using this⟩
theorem weights_all {H : Type} {P : Program} {e : TypeId} : ∀ {l : List (DataW H)} {d : DataW H}, d ∈ l → ∀ n ∈ d.weights P e, n ∈ DataW.weightsAll P e l
  | d0 :: l, d, hd, n, hn => by
    simp only [DataW.weightsAll, List.mem_append]
    rcases List.mem_cons.1 hd with rfl | hd
    · exact .inl hn
    · exact .inr (weights_all hd n hn)
theorem cells_get {W : World} {base : Nat} {a : Addr} {n : Nat} {c : List Value} (h : W.cells? base a n = some c) : c.length = n ∧ ∀ i u, c[i]? = some u → W.cell? (a.add i) = some u := by
  unfold World.cells? at h
  split at h
  · have hl := mapM_some_length h
    refine ⟨by simpa using hl, fun i u hu => ?_⟩
    have hi : i < n := by
      have := (List.getElem?_eq_some_iff.1 hu).1
      simp at hl
      omega
    have := mapM_some_get h i i (by simp [hi])
    rw [this, hu]
  · cases h
theorem opens_slice {α : Type} {d : Kd α} {G : α → Prop} (ht : P.underlying t = some (.slice e)) (hc : P.cellsOf e = d.sz) (b : Nat) (hb : P.bytesOf e = b) (he : Opens P e d G) :
    Opens P t (Kd.slice e d) (fun xs => xs.length * b ≤ 140737488351232 ∧ ∀ a ∈ xs, G a) := by
  intro H enc W fuel cs x h hw
  rcases DataW.trod_slice ht h with ⟨rfl, _⟩ | ⟨a, len, cap, elems, rest, n, _, rfl, rfl, _, hl, hm, hlen, hel, _⟩
  · exact ⟨[], ⟨none, 0, rfl, Nat.le_refl _, Kd.C_nil d W⟩, by simp, fun a h => by cases h⟩
  · have hwt : (elems.length + rest.length) * b ≤ 140737488351232 := by
      have := hw ((elems.length + rest.length) * P.bytesOf e) (by simp [DataW.weights, ht])
      rw [hb] at this
      simpa [reachBytes] using this
    have hall : ∀ i : Fin len, ∃ p : α, ∃ c, c.length = d.sz ∧ d.K W p c ∧ G p ∧ ∀ j u, c[j]? = some u → W.cell? (a.add (i.1 * d.sz + j)) = some u := by
      intro i
      have hi : i.1 < elems.length := by have := i.2; omega
      have h1 := hel i.1 i.2
      rw [List.getElem?_eq_getElem hi] at h1
      obtain ⟨c, hcs, htr⟩ := Option.bind_eq_some_iff.1 h1
      obtain ⟨hcl, hcg⟩ := cells_get hcs
      obtain ⟨p, hK, hG⟩ := he H enc W n c _ htr (fun m hm => hw m (by
        simp only [DataW.weights, ht, List.mem_cons, List.mem_append]
        exact .inr (.inl (weights_all (List.mem_map.2 ⟨_, List.getElem_mem hi, rfl⟩) m hm))))
      refine ⟨p, c, by rw [hcl, hc], hK, hG, fun j u hu => ?_⟩
      have := hcg j u hu
      rw [add_add, hc] at this
      exact this
    refine ⟨List.ofFn fun i => Classical.choose (hall i), ⟨some a, cap, by simp, by simpa using hl, by simp, by simp only [maxLen] at hm; simp; omega, fun _ => ⟨a, rfl, fun j p hj => ?_⟩⟩, ?_, ?_⟩
    · obtain ⟨hjl, hjp⟩ := List.getElem?_eq_some_iff.1 hj
      simp only [List.length_ofFn] at hjl
      have h2 := Classical.choose_spec (hall ⟨j, hjl⟩)
      rw [List.getElem_ofFn] at hjp
      rw [hjp] at h2
      obtain ⟨c, h3, h4, _, h6⟩ := h2
      exact ⟨c, h3, h4, h6⟩
    · rw [List.length_ofFn]
      refine Nat.le_trans (Nat.mul_le_mul_right b ?_) hwt
      omega
    · intro p hp
      obtain ⟨i, rfl⟩ := (List.mem_ofFn).1 hp
      obtain ⟨_, _, _, h5, _⟩ := Classical.choose_spec (hall i)
      exact h5
/-- The fields of a struct from one on, one behind the other. -/
def OpensFields {α : Type} (P : Program) (fs : List Field) (off : Nat) (d : Kd α) (G : α → Prop) : Prop :=
  ∀ (H : Type) (enc : TypeId × Value → H) (W : World) (fuel : Nat) (cs : List Value) (xs : List (DataW H × List MemPlace)), off + d.sz = cs.length → xs.length = fs.length →
    (∀ (i : Nat) (f : Field), fs[i]? = some f → DataW.trod enc P W 0 (fun _ => true) true fuel f.type ((cs.drop f.offset).take (P.cellsOf f.type)) = xs[i]?) →
    (∀ n ∈ DataW.weightsEach P (fs.map (·.type)) (xs.map (·.1)), n ≤ reachBytes) → ∃ a, d.K W a (cs.drop off) ∧ G a
theorem opens_one {α : Type} {d : Kd α} {G : α → Prop} {f : Field} {off : Nat} (ho : f.offset = off) (hc : P.cellsOf f.type = d.sz) (he : Opens P f.type d G) : OpensFields P [f] off d G := by
  intro H enc W fuel cs xs hl hx hf hw
  match xs, hx with
  | [x], _ =>
    have h0 := hf 0 f rfl
    rw [ho, hc, List.take_of_length_le (by rw [List.length_drop]; omega)] at h0
    exact he H enc W fuel _ x h0 (fun n hn => hw n (by simpa [DataW.weightsEach] using hn))
theorem opens_more {α β : Type} {d : Kd α} {d2 : Kd β} {G : α → Prop} {G2 : β → Prop} {f : Field} {fs : List Field} {off : Nat} (ho : f.offset = off) (hc : P.cellsOf f.type = d.sz) (he : Opens P f.type d G) (hs : OpensFields P fs (off + d.sz) d2 G2) :
    OpensFields P (f :: fs) off (Kd.pair d d2) (fun p => G p.1 ∧ G2 p.2) := by
  intro H enc W fuel cs xs hl hx hf hw
  have hl' : off + (d.sz + d2.sz) = cs.length := hl
  match xs, hx with
  | x :: xs, hx =>
    have h0 := hf 0 f rfl
    rw [ho, hc] at h0
    obtain ⟨a, h1, h2⟩ := he H enc W fuel _ x h0 (fun n hn => hw n (by simp only [List.map_cons, DataW.weightsEach, List.mem_append]; exact .inl hn))
    obtain ⟨b, h3, h4⟩ := hs H enc W fuel cs xs (by omega) (by simpa using hx) (fun i g hg => by simpa using hf (i + 1) g (by simpa using hg)) (fun n hn => hw n (by simp only [List.map_cons, DataW.weightsEach, List.mem_append]; exact .inr hn))
    refine ⟨(a, b), ⟨_, _, ?_, h1, h3⟩, h2, h4⟩
    rw [← List.drop_drop, List.take_append_drop]
theorem opens_struct {α : Type} {d : Kd α} {G : α → Prop} {fs : Array Field} (ht : P.underlying t = some (.struct fs)) (hc : P.cellsOf t = d.sz) (hf : OpensFields P fs.toList 0 d G) : Opens P t d G := by
  intro H enc W fuel cs x h hw
  obtain ⟨xs, n, _, rfl, hl, hlen, hg⟩ := DataW.trod_struct ht h
  have := hf H enc W n cs xs (by omega) (by simpa using hlen) (fun i f hi => hg i f (by simpa using hi)) (fun m hm => hw m (by simpa [DataW.weights, ht] using hm))
  simpa using this
theorem opens_iso {α β : Type} {d : Kd α} {G : α → Prop} (f : β → α) (g : α → β) (hfg : ∀ a, f (g a) = a) (h : Opens P t d G) : Opens P t (Kd.iso d f) (fun b => G (f b)) := by
  intro H enc W fuel cs x hx hw
  obtain ⟨a, h1, h2⟩ := h H enc W fuel cs x hx hw
  exact ⟨g a, by show d.K W (f (g a)) cs; rw [hfg]; exact h1, by show G (f (g a)); rw [hfg]; exact h2⟩
theorem weights_each {H : Type} {P : Program} {ts : List TypeId} {ds : List (DataW H)} (h : (DataW.weightsEach P ts ds).all (· ≤ reachBytes) = true) {j : Nat} {t : TypeId} {d : DataW H} (ht : ts[j]? = some t) (hd : ds[j]? = some d) : ∀ n ∈ d.weights P t, n ≤ reachBytes := fun n hn => by
  simpa using List.all_eq_true.1 h _ (DataW.weights_mem_each ht hd n hn)
end
end Go.Proofs.YtefhngadeimklaaDoor.Q
end
